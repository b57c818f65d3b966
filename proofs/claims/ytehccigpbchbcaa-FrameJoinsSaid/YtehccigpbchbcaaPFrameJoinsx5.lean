-- Written by a program of this session (the kit's printer, turned): the functions that the law reaches.
import Derived.Test.YtehccigpbchbcaaPFrameJoinsx0
import Derived.Test.YtehccigpbchbcaaPFrameJoinsx1
import Derived.Test.YtehccigpbchbcaaPFrameJoinsx2
import Derived.Test.YtehccigpbchbcaaPFrameJoinsx3
import Derived.Test.YtehccigpbchbcaaPFrameJoinsx4
namespace Go.Proofs.Ytehccigpbchbcaa.PFrameJoins
open Go.RowKit Go.Proofs.YtehccigpbchbcaaW.PrintWords Go.Proofs.YtehccigpbchbcaaW.PrintLast Go.Proofs.YtehccigpbchbcaaW.PrintMore
attribute [local go_sem] max2_int min2_int max_two min_two max_three min_three max_four min_four   -- for this text's walks alone
set_option linter.unusedVariables false
set_option linter.unusedSimpArgs false

attribute [local go_sem high] eqA23
/-! ### bywashlaw7_FrameJoins: function 5 -/
mutual
def bywashlaw7_FrameJoins.j0 : Nat → List (S23) → Bool → Option (Bool)
  | 0, _, _ => none
  | k + 1, x0, x23 => if x23 = true then ((bywashlaw7_alive.f k).bind fun t137 => (some t137)) else (bywashlaw7_FrameJoins.l0 k x0 (⟨#[]⟩ : ByteArray) 0 x0 (x0.length : Int) 0)
def bywashlaw7_FrameJoins.l0 : Nat → List (S23) → ByteArray → Int → List (S23) → Int → Int → Option (Bool)
  | 0, _, _, _, _, _, _ => none
  | k + 1, x0, x3, x4, x25, x26, x27 => if x27 < x26 then (if 0 ≤ x27 then (if x27 < (x25.length : Int) then (if (((rd_T23 x25 x27).f3).size : Int) > 900 then (some true) else ((frame_Put.f k ((rd_T23 x25 x27).f0) ((rd_T23 x25 x27).f1) ((rd_T23 x25 x27).f2) ((rd_T23 x25 x27).f3)).bind fun bt140 => (if bt140.2 = true then (if x3.size + bt140.1.size ≤ 9223372036854775807 then (bywashlaw7_FrameJoins.l0 k x0 (x3 ++ bt140.1) (wrap64 (x4 + (wrap64 (9 + (((rd_T23 x25 x27).f3).size : Int))))) x25 x26 (wrap64 (x27 + 1))) else (none)) else ((frame_Right.f ((rd_T23 x25 x27).f0) ((rd_T23 x25 x27).f1) ((rd_T23 x25 x27).f2) ((rd_T23 x25 x27).f3)).bind fun t142 => (some (!t142)))))) else (none)) else (none)) else (if (x3.size : Int) = x4 then (bywashlaw7_FrameJoins.l1 k x3 x0 (x0.length : Int) 0) else (some false))
def bywashlaw7_FrameJoins.l1 : Nat → ByteArray → List (S23) → Int → Int → Option (Bool)
  | 0, _, _, _, _ => none
  | k + 1, x3, x59, x60, x61 => if x61 < x60 then (if 0 ≤ x61 then (if x61 < (x59.length : Int) then ((frame_Get.f k x3).bind fun bt145 => (if bt145.2.2.2.2.2 = 0 then (if (!(bt145.1 == ((rd_T23 x59 x61).f0)) || (!(bt145.2.1 == ((rd_T23 x59 x61).f1)) || (!(bt145.2.2.1 == ((rd_T23 x59 x61).f2)) || (!(bt145.2.2.2.1.toList == (((rd_T23 x59 x61).f3).toList)))))) = true then (bywashlaw7_FrameJoins.j3 k x3 bt145.2.2.2.2.1 x59 x60 x61 true) else (bywashlaw7_FrameJoins.j3 k x3 bt145.2.2.2.2.1 x59 x60 x61 (bt145.2.2.2.2.1 != (wrap64 (9 + (((rd_T23 x59 x61).f3).size : Int)))))) else (bywashlaw7_FrameJoins.j3 k x3 bt145.2.2.2.2.1 x59 x60 x61 true))) else (none)) else (none)) else ((frame_Get.f k x3).bind fun bt152 => (if x3.toList = ([] : List UInt8) then (bywashlaw7_FrameJoins.j4 k (bt152.2.2.2.2.2 == 2)) else (bywashlaw7_FrameJoins.j4 k false)))
def bywashlaw7_FrameJoins.j3 : Nat → ByteArray → Int → List (S23) → Int → Int → Bool → Option (Bool)
  | 0, _, _, _, _, _, _ => none
  | k + 1, x3, x12, x59, x60, x61, x85 => if x85 = true then (some false) else (if 0 ≤ x12 then (if x12 ≤ (x3.size : Int) then (bywashlaw7_FrameJoins.l1 k (x3.extract (x12 : Int).toNat x3.size) x59 x60 (wrap64 (x61 + 1))) else (none)) else (none))
def bywashlaw7_FrameJoins.j4 : Nat → Bool → Option (Bool)
  | 0, _ => none
  | k + 1, x2 => some x2
end
def bywashlaw7_FrameJoins.f (k : Nat) (l0 : List (S23)) : Option (Bool) := if (l0.length : Int) > 30 then (bywashlaw7_FrameJoins.j0 k l0 true) else ((bywashlaw7_alive.f k).bind fun t136 => (bywashlaw7_FrameJoins.j0 k l0 (!t136)))
theorem bywashlaw7_FrameJoins.mono_l : ∀ k, (∀ y0 y1, LeO (bywashlaw7_FrameJoins.j0 k y0 y1) (bywashlaw7_FrameJoins.j0 (k + 1) y0 y1)) ∧ (∀ y0 y1 y2 y3 y4 y5, LeO (bywashlaw7_FrameJoins.l0 k y0 y1 y2 y3 y4 y5) (bywashlaw7_FrameJoins.l0 (k + 1) y0 y1 y2 y3 y4 y5)) ∧ (∀ y0 y1 y2 y3, LeO (bywashlaw7_FrameJoins.l1 k y0 y1 y2 y3) (bywashlaw7_FrameJoins.l1 (k + 1) y0 y1 y2 y3)) ∧ (∀ y0 y1 y2 y3 y4 y5, LeO (bywashlaw7_FrameJoins.j3 k y0 y1 y2 y3 y4 y5) (bywashlaw7_FrameJoins.j3 (k + 1) y0 y1 y2 y3 y4 y5)) ∧ (∀ y0, LeO (bywashlaw7_FrameJoins.j4 k y0) (bywashlaw7_FrameJoins.j4 (k + 1) y0))
  | 0 => ⟨fun _ _ r h => by simp [bywashlaw7_FrameJoins.j0] at h, fun _ _ _ _ _ _ r h => by simp [bywashlaw7_FrameJoins.l0] at h, fun _ _ _ _ r h => by simp [bywashlaw7_FrameJoins.l1] at h, fun _ _ _ _ _ _ r h => by simp [bywashlaw7_FrameJoins.j3] at h, fun _ r h => by simp [bywashlaw7_FrameJoins.j4] at h⟩
  | k + 1 => by
    obtain ⟨ih0, ih1, ih2, ih3, ih4⟩ := bywashlaw7_FrameJoins.mono_l k
    refine ⟨?_, ?_, ?_, ?_, ?_⟩
    · intro y0 y1
      unfold bywashlaw7_FrameJoins.j0
      repeat' first
      | (with_reducible exact ih0 _ _)
      | (with_reducible exact ih1 _ _ _ _ _ _)
      | (with_reducible exact ih2 _ _ _ _)
      | (with_reducible exact ih3 _ _ _ _ _ _)
      | (with_reducible exact ih4 _)
      | (with_reducible exact bywashlaw7_alive.mono _)
      | (with_reducible exact frame_Get.mono _ _)
      | (with_reducible exact frame_Put.mono _ _ _ _ _)
      | (with_reducible exact LeO.refl _)
      | (with_reducible exact LeO.none _)
      | (with_reducible refine LeO.ite ?_ ?_)
      | (with_reducible refine LeO.bind ?_ (fun _ => ?_))
      | exact ih0 _ _
      | exact ih1 _ _ _ _ _ _
      | exact ih2 _ _ _ _
      | exact ih3 _ _ _ _ _ _
      | exact ih4 _
      | exact bywashlaw7_alive.mono _
      | exact frame_Get.mono _ _
      | exact frame_Put.mono _ _ _ _ _
      | exact LeO.none _
      | refine LeO.ite ?_ ?_
      | refine LeO.bind ?_ (fun _ => ?_)
    · intro y0 y1 y2 y3 y4 y5
      unfold bywashlaw7_FrameJoins.l0
      repeat' first
      | (with_reducible exact ih0 _ _)
      | (with_reducible exact ih1 _ _ _ _ _ _)
      | (with_reducible exact ih2 _ _ _ _)
      | (with_reducible exact ih3 _ _ _ _ _ _)
      | (with_reducible exact ih4 _)
      | (with_reducible exact bywashlaw7_alive.mono _)
      | (with_reducible exact frame_Get.mono _ _)
      | (with_reducible exact frame_Put.mono _ _ _ _ _)
      | (with_reducible exact LeO.refl _)
      | (with_reducible exact LeO.none _)
      | (with_reducible refine LeO.ite ?_ ?_)
      | (with_reducible refine LeO.bind ?_ (fun _ => ?_))
      | exact ih0 _ _
      | exact ih1 _ _ _ _ _ _
      | exact ih2 _ _ _ _
      | exact ih3 _ _ _ _ _ _
      | exact ih4 _
      | exact bywashlaw7_alive.mono _
      | exact frame_Get.mono _ _
      | exact frame_Put.mono _ _ _ _ _
      | exact LeO.none _
      | refine LeO.ite ?_ ?_
      | refine LeO.bind ?_ (fun _ => ?_)
    · intro y0 y1 y2 y3
      unfold bywashlaw7_FrameJoins.l1
      repeat' first
      | (with_reducible exact ih0 _ _)
      | (with_reducible exact ih1 _ _ _ _ _ _)
      | (with_reducible exact ih2 _ _ _ _)
      | (with_reducible exact ih3 _ _ _ _ _ _)
      | (with_reducible exact ih4 _)
      | (with_reducible exact bywashlaw7_alive.mono _)
      | (with_reducible exact frame_Get.mono _ _)
      | (with_reducible exact frame_Put.mono _ _ _ _ _)
      | (with_reducible exact LeO.refl _)
      | (with_reducible exact LeO.none _)
      | (with_reducible refine LeO.ite ?_ ?_)
      | (with_reducible refine LeO.bind ?_ (fun _ => ?_))
      | exact ih0 _ _
      | exact ih1 _ _ _ _ _ _
      | exact ih2 _ _ _ _
      | exact ih3 _ _ _ _ _ _
      | exact ih4 _
      | exact bywashlaw7_alive.mono _
      | exact frame_Get.mono _ _
      | exact frame_Put.mono _ _ _ _ _
      | exact LeO.none _
      | refine LeO.ite ?_ ?_
      | refine LeO.bind ?_ (fun _ => ?_)
    · intro y0 y1 y2 y3 y4 y5
      unfold bywashlaw7_FrameJoins.j3
      repeat' first
      | (with_reducible exact ih0 _ _)
      | (with_reducible exact ih1 _ _ _ _ _ _)
      | (with_reducible exact ih2 _ _ _ _)
      | (with_reducible exact ih3 _ _ _ _ _ _)
      | (with_reducible exact ih4 _)
      | (with_reducible exact bywashlaw7_alive.mono _)
      | (with_reducible exact frame_Get.mono _ _)
      | (with_reducible exact frame_Put.mono _ _ _ _ _)
      | (with_reducible exact LeO.refl _)
      | (with_reducible exact LeO.none _)
      | (with_reducible refine LeO.ite ?_ ?_)
      | (with_reducible refine LeO.bind ?_ (fun _ => ?_))
      | exact ih0 _ _
      | exact ih1 _ _ _ _ _ _
      | exact ih2 _ _ _ _
      | exact ih3 _ _ _ _ _ _
      | exact ih4 _
      | exact bywashlaw7_alive.mono _
      | exact frame_Get.mono _ _
      | exact frame_Put.mono _ _ _ _ _
      | exact LeO.none _
      | refine LeO.ite ?_ ?_
      | refine LeO.bind ?_ (fun _ => ?_)
    · intro y0
      unfold bywashlaw7_FrameJoins.j4
      repeat' first
      | (with_reducible exact ih0 _ _)
      | (with_reducible exact ih1 _ _ _ _ _ _)
      | (with_reducible exact ih2 _ _ _ _)
      | (with_reducible exact ih3 _ _ _ _ _ _)
      | (with_reducible exact ih4 _)
      | (with_reducible exact bywashlaw7_alive.mono _)
      | (with_reducible exact frame_Get.mono _ _)
      | (with_reducible exact frame_Put.mono _ _ _ _ _)
      | (with_reducible exact LeO.refl _)
      | (with_reducible exact LeO.none _)
      | (with_reducible refine LeO.ite ?_ ?_)
      | (with_reducible refine LeO.bind ?_ (fun _ => ?_))
      | exact ih0 _ _
      | exact ih1 _ _ _ _ _ _
      | exact ih2 _ _ _ _
      | exact ih3 _ _ _ _ _ _
      | exact ih4 _
      | exact bywashlaw7_alive.mono _
      | exact frame_Get.mono _ _
      | exact frame_Put.mono _ _ _ _ _
      | exact LeO.none _
      | refine LeO.ite ?_ ?_
      | refine LeO.bind ?_ (fun _ => ?_)
theorem bywashlaw7_FrameJoins.mono : ∀ a0 k, LeO (bywashlaw7_FrameJoins.f k a0) (bywashlaw7_FrameJoins.f (k + 1) a0) := by
  intro a0 k
  obtain ⟨ih0, ih1, ih2, ih3, ih4⟩ := bywashlaw7_FrameJoins.mono_l k
  unfold bywashlaw7_FrameJoins.f
  repeat' first
      | (with_reducible exact ih0 _ _)
      | (with_reducible exact ih1 _ _ _ _ _ _)
      | (with_reducible exact ih2 _ _ _ _)
      | (with_reducible exact ih3 _ _ _ _ _ _)
      | (with_reducible exact ih4 _)
      | (with_reducible exact bywashlaw7_alive.mono _)
      | (with_reducible exact frame_Get.mono _ _)
      | (with_reducible exact frame_Put.mono _ _ _ _ _)
      | (with_reducible exact LeO.refl _)
      | (with_reducible exact LeO.none _)
      | (with_reducible refine LeO.ite ?_ ?_)
      | (with_reducible refine LeO.bind ?_ (fun _ => ?_))
      | exact ih0 _ _
      | exact ih1 _ _ _ _ _ _
      | exact ih2 _ _ _ _
      | exact ih3 _ _ _ _ _ _
      | exact ih4 _
      | exact bywashlaw7_alive.mono _
      | exact frame_Get.mono _ _
      | exact frame_Put.mono _ _ _ _ _
      | exact LeO.none _
      | refine LeO.ite ?_ ?_
      | refine LeO.bind ?_ (fun _ => ?_)
set_option maxHeartbeats 8000000 in
set_option maxRecDepth 100000 in
theorem bywashlaw7_FrameJoins.calls (k : Nat) (A0 : Option Addr) (c0 : Nat) (l0 : List (S23)) (r : Bool) (w : World) (hr0 : Kd.C k23 w A0 l0.length l0) (hc0 : l0.length ≤ c0) (h : bywashlaw7_FrameJoins.f k l0 = some r) :
    Calls Try.prog 5 #[.slice A0 l0.length c0] w fun e w' => e = .returned (.bool r) ∧ Below w.heap.size w w' := by
  have hu23 := Try.underlying23
  have HR0 := Aside0.mk hr0
  have HC0 := Aside0.mk hc0
  clear hr0 hc0
  have HB := Aside0.mk (Below.refl w.heap.size w)
  have H : (if (l0.length : Int) > 30 then (bywashlaw7_FrameJoins.j0 k l0 true) else ((bywashlaw7_alive.f k).bind fun t136 => (bywashlaw7_FrameJoins.j0 k l0 (!t136)))) = some r := h
  clear h
  have HC2 := Aside0.mk H
  clear H
  go_enter Try.func5, Try.ntmps5
  go_upto_region 1 with (fail)
  go_cut [23] (fun v23 wc => ∃ (kq : Nat) (x23_1 : Bool), v23 = .bool x23_1 ∧ Aside0 (bywashlaw7_FrameJoins.j0 kq l0 x23_1 = some r) ∧ Aside0 (kq ≤ k) ∧ Aside0 (Below w.heap.size w wc))
  case first =>
    have H := HC2.out
    clear HC2
    by_cases c3 : (l0.length : Int) > 30
    · rw [if_pos c3] at H
      have c3b0 : decide (30 < (l0.length : Int)) = true := decide_eq_true c3
      have c3b1 : decide (30 < l0.length) = true := decide_eq_true (by omega)
      clear c3
      (first | rw [c3b0] | (simp only [i64_w, i32_w]; rw [c3b0]) | skip)
      have H' := Aside0.mk H
      clear H
      go_wp2
      go_meet
      case rel => exact ⟨_, (true), (by first | rfl | (simp; done) | (simp [*]; done)), H', ⟨by first | omega | exact Nat.le_refl _⟩, ⟨by repeat (first | (with_reducible first | exact HB.out | apply below_alloc | apply pw_below_drewN | apply below_drew1) | exact HB.out)⟩⟩
    · rw [if_neg c3] at H
      have c3b0 : decide (30 < (l0.length : Int)) = false := decide_eq_false c3
      have c3b1 : decide (30 < l0.length) = false := decide_eq_false (by omega)
      clear c3
      (first | rw [c3b0] | (simp only [i64_w, i32_w]; rw [c3b0]) | skip)
      replace H := Option.bind_eq_some_iff.mp H
      obtain ⟨t136, A40, H⟩ := H
      replace H : (bywashlaw7_FrameJoins.j0 k l0 (!t136)) = some r := H
      have A4 := Aside0.mk A40
      clear A40
      have H' := Aside0.mk H
      clear H
      go_wp2_with (first | (go_at_call 9; (with_reducible refine (bywashlaw7_alive.calls k  t136 _ A4.out).mono ?_); rintro e w5 ⟨rfl, hb⟩; have n0_ := Aside0.mk (below_step (by repeat (first | (with_reducible first | exact HB.out | apply below_alloc | apply pw_below_drewN | apply below_drew1) | exact HB.out)) hb); clear HB; have HB := n0_; clear n0_; (try clear hb); (try clear hb2); (try clear hk); (try clear hi)))
      go_meet
      case rel => exact ⟨_, (!t136), (by first | rfl | (simp; done) | (simp [*]; done)), H', ⟨by first | omega | exact Nat.le_refl _⟩, ⟨by repeat (first | (with_reducible first | exact HB.out | apply below_alloc | apply pw_below_drewN | apply below_drew1) | exact HB.out)⟩⟩
  case rest =>
    clear HC2
    try clear p2
    try clear c3
    try clear c3b0
    try clear c3b1
    try clear c5
    obtain ⟨kq, x23_1, rfl, HA, HJ1, HB⟩ := hcut
    cases kq with
    | zero => exact absurd HA.out (by simp [bywashlaw7_FrameJoins.j0])
    | succ kj1 =>
      have H := HA.out
      clear HA
      simp only [bywashlaw7_FrameJoins.j0] at H
      by_cases c6 : x23_1 = true
      · subst c6
        have H1 : ((bywashlaw7_alive.f kj1).bind fun t137 => (some t137)) = some r := by rw [if_pos rfl] at H; exact H
        clear H
        have H := H1
        clear H1
        replace H := Option.bind_eq_some_iff.mp H
        obtain ⟨t137, A70, H⟩ := H
        replace H : (some t137) = some r := H
        have A7 := Aside0.mk A70
        clear A70
        obtain rfl := Option.some.inj H
        go_wp2_with (first | ((with_reducible refine gate_callee (f := 9) rfl ?_); refine goesL_ (some 24) rfl rfl Try.func9 (by kernel_rfl) rfl #[] rfl (by (try simp only [List.map_toArray, List.map_cons, List.map_nil]); first | done | rfl | (simp only [List.length_drop, List.length_take]; rfl)) ?_; (with_reducible refine (bywashlaw7_alive.calls kj1  t137 _ A7.out).mono ?_); rintro e w8 ⟨rfl, hb⟩; refine ⟨_, rfl, ?_⟩; have n0_ := Aside0.mk (below_step (by repeat (first | (with_reducible first | exact HB.out | apply below_alloc | apply pw_below_drewN | apply below_drew1) | exact HB.out)) hb); clear HB; have HB := n0_; clear n0_; (try clear hb); (try clear hb2); (try clear hk); (try clear hi)))
        go_ret
        exact ⟨by first | rfl | (simp [errW_none, errW_some] <;> rfl) | (simp [*, errW_none, errW_some] <;> rfl), by repeat (first | (with_reducible first | exact HB.out | apply below_alloc | apply pw_below_drewN | apply below_drew1) | exact HB.out)⟩
      · replace c6 := Bool.eq_false_iff.mpr c6
        subst c6
        have H1 : (bywashlaw7_FrameJoins.l0 kj1 l0 (⟨#[]⟩ : ByteArray) 0 l0 (l0.length : Int) 0) = some r := by rw [if_neg (show ¬ (false = true) by decide)] at H; exact H
        clear H
        have H := H1
        clear H1
        have H' := Aside0.mk H
        clear H
        go_wp2
        go_loopg [3, 4, 27] kj1 (fun kq v3 v4 v27 w' => ∃ (x3_2 : ByteArray) (x4_2 : Int) (x27_2 : Int), v3 = .string x3_2 ∧ v4 = .int .i64 x4_2 ∧ v27 = .int .i64 x27_2 ∧ Aside0 (bywashlaw7_FrameJoins.l0 kq l0 x3_2 x4_2 l0 (l0.length : Int) x27_2 = some r) ∧ Aside0 (kq ≤ kj1) ∧ Aside0 (Below w.heap.size w w'))
        case atStart => exact ⟨((⟨#[]⟩ : ByteArray)), (0), (0), (by first | rfl | (simp; done) | (simp [*]; done)), (by first | rfl | (simp; done) | (simp [*]; done)), (by first | rfl | (simp; done) | (simp [*]; done)), H', ⟨Nat.le_refl _⟩, ⟨by repeat (first | (with_reducible first | exact HB.out | apply below_alloc | apply pw_below_drewN | apply below_drew1) | exact HB.out)⟩⟩
        case round =>
          clear H'
          try clear p2
          try clear c3
          try clear c3b0
          try clear c3b1
          try clear c5
          try clear c6
          try clear p2
          obtain ⟨x3_2, x4_2, x27_2, rfl, rfl, rfl, HA, HK2, HB⟩ := hrel
          cases gk with
          | zero => exact absurd HA.out (by simp [bywashlaw7_FrameJoins.l0])
          | succ k2 =>
            have H := HA.out
            clear HA
            simp only [bywashlaw7_FrameJoins.l0] at H
            by_cases c9 : x27_2 < (l0.length : Int)
            · rw [if_pos c9] at H
              have c9b0 : decide (x27_2 < (l0.length : Int)) = true := decide_eq_true c9
              clear c9
              by_cases c10 : 0 ≤ x27_2
              · rw [if_pos c10] at H
                have c10b0 : decide (0 ≤ x27_2) = true := decide_eq_true c10
                clear c10
                by_cases c11 : x27_2 < (l0.length : Int)
                · rw [if_pos c11] at H
                  have c11b0 : decide (x27_2 < (l0.length : Int)) = true := decide_eq_true c11
                  clear c11
                  by_cases c12 : (((rd_T23 l0 x27_2).f3).size : Int) > 900
                  · rw [if_pos c12] at H
                    have c12b0 : decide (900 < (((rd_T23 l0 x27_2).f3).size : Int)) = true := decide_eq_true c12
                    have c12b1 : decide (900 < ((rd_T23 l0 x27_2).f3).size) = true := decide_eq_true (by omega)
                    clear c12
                    obtain rfl := Option.some.inj H
                    have p138 : 0 ≤ (x27_2 : Int) := of_decide_eq_true (by first | (with_reducible assumption) | assumption)
                    have q138 : x27_2 < (l0.length : Int) := of_decide_eq_true (by first | (with_reducible assumption) | assumption)
                    obtain ⟨ad138, e138, hx138_0, hx138_1, hx138_2, hx138_3⟩ := at_T23 HR0.out x27_2 p138 q138
                    cases e138
                    replace hx138_0 := (HB.out.cell (World.block_lt_of_cell? w _ hx138_0)).trans hx138_0
                    replace hx138_1 := (HB.out.cell (World.block_lt_of_cell? w _ hx138_1)).trans hx138_1
                    replace hx138_2 := (HB.out.cell (World.block_lt_of_cell? w _ hx138_2)).trans hx138_2
                    replace hx138_3 := (HB.out.cell (World.block_lt_of_cell? w _ hx138_3)).trans hx138_3
                    replace p138 := eq_true p138
                    replace q138 := eq_true q138
                    go_wp2_with (first | ((with_reducible refine gate_dst (N := 6) rfl ?_); (try (refine gate_guard (by rfl) ?_; dsimp only)); refine box_event ?hg (N := 6) ?hd (cs := #[.int .i64 0, .int .i64 0, .int .i64 0, .string (⟨#[]⟩ : ByteArray)]) (t := 23) ?hr ?_; (case hd => rfl); (case hg => rfl); (case hr => first | (go_simp; done) | (go_simp; rfl)); intro gb139 hg w13 hbox hb; have n0_ := Aside0.mk (below_step (by repeat (first | (with_reducible first | exact HB.out | apply below_alloc | apply pw_below_drewN | apply below_drew1) | exact HB.out)) hb); have n1_ := Aside0.mk (hbox); have n2_ := Aside0.mk ((by rw [hg]; exact (below_size (by repeat (first | (with_reducible first | exact HB.out | apply below_alloc | apply pw_below_drewN | apply below_drew1) | exact HB.out))) : w.heap.size ≤ gb139)); have n3_ := Aside0.mk ((by rw [hg]; exact (below_size (by repeat (first | (with_reducible first | exact HB.out | apply below_alloc | apply pw_below_drewN | apply below_drew1) | exact HB.out))) : w.heap.size ≤ gb139)); clear HB; have HB := n0_; have BK139 := n1_; have GW139 := n2_; have GE139 := n3_; clear n0_ n1_ n2_ n3_; clear hb hbox hg; have hcz14_0 : w13.cell? ⟨gb139, 0, none⟩ = some (.int .i64 0) := (blk_cell BK139.out 0).trans rfl; have hcz14_1 : w13.cell? ⟨gb139, 1, none⟩ = some (.int .i64 0) := (blk_cell BK139.out 1).trans rfl; have hcz14_2 : w13.cell? ⟨gb139, 2, none⟩ = some (.int .i64 0) := (blk_cell BK139.out 2).trans rfl; have hcz14_3 : w13.cell? ⟨gb139, 3, none⟩ = some (.string (⟨#[]⟩ : ByteArray)) := (blk_cell BK139.out 3).trans rfl; have hfz14_0 := blk_frozen BK139.out 0; have hfz14_1 := blk_frozen BK139.out 1; have hfz14_2 := blk_frozen BK139.out 2; have hfz14_3 := blk_frozen BK139.out 3))
                    go_ret
                    exact ⟨by first | rfl | (simp [errW_none, errW_some] <;> rfl) | (simp [*, errW_none, errW_some] <;> rfl), by repeat (first | (with_reducible first | exact HB.out | apply below_alloc | apply pw_below_drewN | apply below_drew1 | refine below_set ?_ GE139.out) | exact HB.out)⟩
                  · rw [if_neg c12] at H
                    have c12b0 : decide (900 < (((rd_T23 l0 x27_2).f3).size : Int)) = false := decide_eq_false c12
                    have c12b1 : decide (900 < ((rd_T23 l0 x27_2).f3).size) = false := decide_eq_false (by omega)
                    clear c12
                    replace H := Option.bind_eq_some_iff.mp H
                    obtain ⟨⟨t140, t141⟩, A150, H⟩ := H
                    replace H : (if t141 = true then (if x3_2.size + t140.size ≤ 9223372036854775807 then (bywashlaw7_FrameJoins.l0 k2 l0 (x3_2 ++ t140) (wrap64 (x4_2 + (wrap64 (9 + (((rd_T23 l0 x27_2).f3).size : Int))))) l0 (l0.length : Int) (wrap64 (x27_2 + 1))) else (none)) else ((frame_Right.f ((rd_T23 l0 x27_2).f0) ((rd_T23 l0 x27_2).f1) ((rd_T23 l0 x27_2).f2) ((rd_T23 l0 x27_2).f3)).bind fun t142 => (some (!t142)))) = some r := H
                    have A15 := Aside0.mk A150
                    clear A150
                    by_cases c16 : t141 = true
                    · subst c16
                      have H1 : (if x3_2.size + t140.size ≤ 9223372036854775807 then (bywashlaw7_FrameJoins.l0 k2 l0 (x3_2 ++ t140) (wrap64 (x4_2 + (wrap64 (9 + (((rd_T23 l0 x27_2).f3).size : Int))))) l0 (l0.length : Int) (wrap64 (x27_2 + 1))) else (none)) = some r := by rw [if_pos rfl] at H; exact H
                      clear H
                      have H := H1
                      clear H1
                      by_cases c17 : x3_2.size + t140.size ≤ 9223372036854775807
                      · rw [if_pos c17] at H
                        have c17b0 := eq_true c17
                        have c17b1 : decide (x3_2.size + t140.size ≤ 9223372036854775807) = true := decide_eq_true c17
                        try have c17b2 : (9223372036854775807 < x3_2.size + t140.size) = False := eq_false (Nat.not_lt.2 c17)
                        have H' := Aside0.mk H
                        clear H
                        have p138 : 0 ≤ (x27_2 : Int) := of_decide_eq_true (by first | (with_reducible assumption) | assumption)
                        have q138 : x27_2 < (l0.length : Int) := of_decide_eq_true (by first | (with_reducible assumption) | assumption)
                        obtain ⟨ad138, e138, hx138_0, hx138_1, hx138_2, hx138_3⟩ := at_T23 HR0.out x27_2 p138 q138
                        cases e138
                        replace hx138_0 := (HB.out.cell (World.block_lt_of_cell? w _ hx138_0)).trans hx138_0
                        replace hx138_1 := (HB.out.cell (World.block_lt_of_cell? w _ hx138_1)).trans hx138_1
                        replace hx138_2 := (HB.out.cell (World.block_lt_of_cell? w _ hx138_2)).trans hx138_2
                        replace hx138_3 := (HB.out.cell (World.block_lt_of_cell? w _ hx138_3)).trans hx138_3
                        replace p138 := eq_true p138
                        replace q138 := eq_true q138
                        go_wp2_with (first | ((with_reducible refine gate_dst (N := 6) rfl ?_); (try (refine gate_guard (by rfl) ?_; dsimp only)); refine box_event ?hg (N := 6) ?hd (cs := #[.int .i64 0, .int .i64 0, .int .i64 0, .string (⟨#[]⟩ : ByteArray)]) (t := 23) ?hr ?_; (case hd => rfl); (case hg => rfl); (case hr => first | (go_simp; done) | (go_simp; rfl)); intro gb139 hg w18 hbox hb; have n0_ := Aside0.mk (below_step (by repeat (first | (with_reducible first | exact HB.out | apply below_alloc | apply pw_below_drewN | apply below_drew1) | exact HB.out)) hb); have n1_ := Aside0.mk (hbox); have n2_ := Aside0.mk ((by rw [hg]; exact (below_size (by repeat (first | (with_reducible first | exact HB.out | apply below_alloc | apply pw_below_drewN | apply below_drew1) | exact HB.out))) : w.heap.size ≤ gb139)); have n3_ := Aside0.mk ((by rw [hg]; exact (below_size (by repeat (first | (with_reducible first | exact HB.out | apply below_alloc | apply pw_below_drewN | apply below_drew1) | exact HB.out))) : w.heap.size ≤ gb139)); clear HB; have HB := n0_; have BK139 := n1_; have GW139 := n2_; have GE139 := n3_; clear n0_ n1_ n2_ n3_; clear hb hbox hg; have hcz19_0 : w18.cell? ⟨gb139, 0, none⟩ = some (.int .i64 0) := (blk_cell BK139.out 0).trans rfl; have hcz19_1 : w18.cell? ⟨gb139, 1, none⟩ = some (.int .i64 0) := (blk_cell BK139.out 1).trans rfl; have hcz19_2 : w18.cell? ⟨gb139, 2, none⟩ = some (.int .i64 0) := (blk_cell BK139.out 2).trans rfl; have hcz19_3 : w18.cell? ⟨gb139, 3, none⟩ = some (.string (⟨#[]⟩ : ByteArray)) := (blk_cell BK139.out 3).trans rfl; have hfz19_0 := blk_frozen BK139.out 0; have hfz19_1 := blk_frozen BK139.out 1; have hfz19_2 := blk_frozen BK139.out 2; have hfz19_3 := blk_frozen BK139.out 3) | ((with_reducible refine gate_callee (f := 10) rfl ?_); refine goesL_ (some 37) rfl rfl Try.func10 (by kernel_rfl) rfl #[.agg #[.int .i64 ((rd_T23 l0 x27_2).f0), .int .i64 ((rd_T23 l0 x27_2).f1), .int .i64 ((rd_T23 l0 x27_2).f2), .string ((rd_T23 l0 x27_2).f3)]] rfl (by (try simp only [List.map_toArray, List.map_cons, List.map_nil]); first | done | rfl | (simp only [List.length_drop, List.length_take]; rfl)) ?_; (with_reducible refine (frame_Put.calls k2 ((rd_T23 l0 x27_2).f0) ((rd_T23 l0 x27_2).f1) ((rd_T23 l0 x27_2).f2) ((rd_T23 l0 x27_2).f3) t140 true _ A15.out).mono ?_); rintro e w20 ⟨rfl, hb⟩; refine ⟨_, rfl, ?_⟩; have n0_ := Aside0.mk (blk_below (g := gb139) (o := .cells #[.int .i64 ((rd_T23 l0 x27_2).f0), .int .i64 ((rd_T23 l0 x27_2).f1), .int .i64 ((rd_T23 l0 x27_2).f2), .string ((rd_T23 l0 x27_2).f3)] 23 (0, 0)) (by (with_reducible repeat (first | refine blk_drewN ?_ _ | refine blk_drew ?_ | refine blk_alloc ?_ _)); refine blk_put (cs := #[.int .i64 ((rd_T23 l0 x27_2).f0), .int .i64 ((rd_T23 l0 x27_2).f1), .int .i64 ((rd_T23 l0 x27_2).f2), .string (⟨#[]⟩ : ByteArray)]) ?_ 3 _ rfl; (with_reducible repeat (first | refine blk_drewN ?_ _ | refine blk_drew ?_ | refine blk_alloc ?_ _)); refine blk_put (cs := #[.int .i64 ((rd_T23 l0 x27_2).f0), .int .i64 ((rd_T23 l0 x27_2).f1), .int .i64 0, .string (⟨#[]⟩ : ByteArray)]) ?_ 2 _ rfl; (with_reducible repeat (first | refine blk_drewN ?_ _ | refine blk_drew ?_ | refine blk_alloc ?_ _)); refine blk_put (cs := #[.int .i64 ((rd_T23 l0 x27_2).f0), .int .i64 0, .int .i64 0, .string (⟨#[]⟩ : ByteArray)]) ?_ 1 _ rfl; (with_reducible repeat (first | refine blk_drewN ?_ _ | refine blk_drew ?_ | refine blk_alloc ?_ _)); refine blk_put (cs := #[.int .i64 0, .int .i64 0, .int .i64 0, .string (⟨#[]⟩ : ByteArray)]) ?_ 0 _ rfl; (with_reducible repeat (first | refine blk_drewN ?_ _ | refine blk_drew ?_ | refine blk_alloc ?_ _)); exact BK139.out) hb); have n1_ := Aside0.mk (below_step (by repeat (first | (with_reducible first | exact HB.out | apply below_alloc | apply pw_below_drewN | apply below_drew1 | refine below_set ?_ GE139.out) | exact HB.out)) hb); clear BK139; clear HB; have BK139 := n0_; have HB := n1_; clear n0_ n1_; (try clear hb); (try clear hb2); (try clear hk); (try clear hi); have hcz21_0 : w20.cell? ⟨gb139, 0, none⟩ = some (.int .i64 ((rd_T23 l0 x27_2).f0)) := (blk_cell BK139.out 0).trans rfl; have hcz21_1 : w20.cell? ⟨gb139, 1, none⟩ = some (.int .i64 ((rd_T23 l0 x27_2).f1)) := (blk_cell BK139.out 1).trans rfl; have hcz21_2 : w20.cell? ⟨gb139, 2, none⟩ = some (.int .i64 ((rd_T23 l0 x27_2).f2)) := (blk_cell BK139.out 2).trans rfl; have hcz21_3 : w20.cell? ⟨gb139, 3, none⟩ = some (.string ((rd_T23 l0 x27_2).f3)) := (blk_cell BK139.out 3).trans rfl; have hfz21_0 := blk_frozen BK139.out 0; have hfz21_1 := blk_frozen BK139.out 1; have hfz21_2 := blk_frozen BK139.out 2; have hfz21_3 := blk_frozen BK139.out 3))
                        go_roundg k2
                        case measure => have := HJ1.out; have := HK2.out; omega
                        case rel => exact ⟨(x3_2 ++ t140), (wrap64 (x4_2 + (wrap64 (9 + (((rd_T23 l0 x27_2).f3).size : Int))))), (wrap64 (x27_2 + 1)), (by first | rfl | (simp; done) | (simp [*]; done)), (by first | rfl | (simp; done) | (simp [*]; done)), (by first | rfl | (simp; done) | (simp [*]; done)), H', ⟨by have := HJ1.out; have := HK2.out; omega⟩, ⟨by repeat (first | (with_reducible first | exact HB.out | apply below_alloc | apply pw_below_drewN | apply below_drew1 | refine below_set ?_ GE139.out) | exact HB.out)⟩⟩
                      · rw [if_neg c17] at H
                        exact absurd H (by simp)
                    · replace c16 := Bool.eq_false_iff.mpr c16
                      subst c16
                      have H1 : ((frame_Right.f ((rd_T23 l0 x27_2).f0) ((rd_T23 l0 x27_2).f1) ((rd_T23 l0 x27_2).f2) ((rd_T23 l0 x27_2).f3)).bind fun t142 => (some (!t142))) = some r := by rw [if_neg (show ¬ (false = true) by decide)] at H; exact H
                      clear H
                      have H := H1
                      clear H1
                      replace H := Option.bind_eq_some_iff.mp H
                      obtain ⟨t142, A220, H⟩ := H
                      replace H : (some (!t142)) = some r := H
                      have A22 := Aside0.mk A220
                      clear A220
                      obtain rfl := Option.some.inj H
                      have p138 : 0 ≤ (x27_2 : Int) := of_decide_eq_true (by first | (with_reducible assumption) | assumption)
                      have q138 : x27_2 < (l0.length : Int) := of_decide_eq_true (by first | (with_reducible assumption) | assumption)
                      obtain ⟨ad138, e138, hx138_0, hx138_1, hx138_2, hx138_3⟩ := at_T23 HR0.out x27_2 p138 q138
                      cases e138
                      replace hx138_0 := (HB.out.cell (World.block_lt_of_cell? w _ hx138_0)).trans hx138_0
                      replace hx138_1 := (HB.out.cell (World.block_lt_of_cell? w _ hx138_1)).trans hx138_1
                      replace hx138_2 := (HB.out.cell (World.block_lt_of_cell? w _ hx138_2)).trans hx138_2
                      replace hx138_3 := (HB.out.cell (World.block_lt_of_cell? w _ hx138_3)).trans hx138_3
                      replace p138 := eq_true p138
                      replace q138 := eq_true q138
                      go_wp2_with (first | ((with_reducible refine gate_dst (N := 6) rfl ?_); (try (refine gate_guard (by rfl) ?_; dsimp only)); refine box_event ?hg (N := 6) ?hd (cs := #[.int .i64 0, .int .i64 0, .int .i64 0, .string (⟨#[]⟩ : ByteArray)]) (t := 23) ?hr ?_; (case hd => rfl); (case hg => rfl); (case hr => first | (go_simp; done) | (go_simp; rfl)); intro gb139 hg w23 hbox hb; have n0_ := Aside0.mk (below_step (by repeat (first | (with_reducible first | exact HB.out | apply below_alloc | apply pw_below_drewN | apply below_drew1) | exact HB.out)) hb); have n1_ := Aside0.mk (hbox); have n2_ := Aside0.mk ((by rw [hg]; exact (below_size (by repeat (first | (with_reducible first | exact HB.out | apply below_alloc | apply pw_below_drewN | apply below_drew1) | exact HB.out))) : w.heap.size ≤ gb139)); have n3_ := Aside0.mk ((by rw [hg]; exact (below_size (by repeat (first | (with_reducible first | exact HB.out | apply below_alloc | apply pw_below_drewN | apply below_drew1) | exact HB.out))) : w.heap.size ≤ gb139)); clear HB; have HB := n0_; have BK139 := n1_; have GW139 := n2_; have GE139 := n3_; clear n0_ n1_ n2_ n3_; clear hb hbox hg; have hcz24_0 : w23.cell? ⟨gb139, 0, none⟩ = some (.int .i64 0) := (blk_cell BK139.out 0).trans rfl; have hcz24_1 : w23.cell? ⟨gb139, 1, none⟩ = some (.int .i64 0) := (blk_cell BK139.out 1).trans rfl; have hcz24_2 : w23.cell? ⟨gb139, 2, none⟩ = some (.int .i64 0) := (blk_cell BK139.out 2).trans rfl; have hcz24_3 : w23.cell? ⟨gb139, 3, none⟩ = some (.string (⟨#[]⟩ : ByteArray)) := (blk_cell BK139.out 3).trans rfl; have hfz24_0 := blk_frozen BK139.out 0; have hfz24_1 := blk_frozen BK139.out 1; have hfz24_2 := blk_frozen BK139.out 2; have hfz24_3 := blk_frozen BK139.out 3) | ((with_reducible refine gate_callee (f := 10) rfl ?_); refine goesL_ (some 37) rfl rfl Try.func10 (by kernel_rfl) rfl #[.agg #[.int .i64 ((rd_T23 l0 x27_2).f0), .int .i64 ((rd_T23 l0 x27_2).f1), .int .i64 ((rd_T23 l0 x27_2).f2), .string ((rd_T23 l0 x27_2).f3)]] rfl (by (try simp only [List.map_toArray, List.map_cons, List.map_nil]); first | done | rfl | (simp only [List.length_drop, List.length_take]; rfl)) ?_; (with_reducible refine (frame_Put.calls k2 ((rd_T23 l0 x27_2).f0) ((rd_T23 l0 x27_2).f1) ((rd_T23 l0 x27_2).f2) ((rd_T23 l0 x27_2).f3) t140 false _ A15.out).mono ?_); rintro e w25 ⟨rfl, hb⟩; refine ⟨_, rfl, ?_⟩; have n0_ := Aside0.mk (blk_below (g := gb139) (o := .cells #[.int .i64 ((rd_T23 l0 x27_2).f0), .int .i64 ((rd_T23 l0 x27_2).f1), .int .i64 ((rd_T23 l0 x27_2).f2), .string ((rd_T23 l0 x27_2).f3)] 23 (0, 0)) (by (with_reducible repeat (first | refine blk_drewN ?_ _ | refine blk_drew ?_ | refine blk_alloc ?_ _)); refine blk_put (cs := #[.int .i64 ((rd_T23 l0 x27_2).f0), .int .i64 ((rd_T23 l0 x27_2).f1), .int .i64 ((rd_T23 l0 x27_2).f2), .string (⟨#[]⟩ : ByteArray)]) ?_ 3 _ rfl; (with_reducible repeat (first | refine blk_drewN ?_ _ | refine blk_drew ?_ | refine blk_alloc ?_ _)); refine blk_put (cs := #[.int .i64 ((rd_T23 l0 x27_2).f0), .int .i64 ((rd_T23 l0 x27_2).f1), .int .i64 0, .string (⟨#[]⟩ : ByteArray)]) ?_ 2 _ rfl; (with_reducible repeat (first | refine blk_drewN ?_ _ | refine blk_drew ?_ | refine blk_alloc ?_ _)); refine blk_put (cs := #[.int .i64 ((rd_T23 l0 x27_2).f0), .int .i64 0, .int .i64 0, .string (⟨#[]⟩ : ByteArray)]) ?_ 1 _ rfl; (with_reducible repeat (first | refine blk_drewN ?_ _ | refine blk_drew ?_ | refine blk_alloc ?_ _)); refine blk_put (cs := #[.int .i64 0, .int .i64 0, .int .i64 0, .string (⟨#[]⟩ : ByteArray)]) ?_ 0 _ rfl; (with_reducible repeat (first | refine blk_drewN ?_ _ | refine blk_drew ?_ | refine blk_alloc ?_ _)); exact BK139.out) hb); have n1_ := Aside0.mk (below_step (by repeat (first | (with_reducible first | exact HB.out | apply below_alloc | apply pw_below_drewN | apply below_drew1 | refine below_set ?_ GE139.out) | exact HB.out)) hb); clear BK139; clear HB; have BK139 := n0_; have HB := n1_; clear n0_ n1_; (try clear hb); (try clear hb2); (try clear hk); (try clear hi); have hcz26_0 : w25.cell? ⟨gb139, 0, none⟩ = some (.int .i64 ((rd_T23 l0 x27_2).f0)) := (blk_cell BK139.out 0).trans rfl; have hcz26_1 : w25.cell? ⟨gb139, 1, none⟩ = some (.int .i64 ((rd_T23 l0 x27_2).f1)) := (blk_cell BK139.out 1).trans rfl; have hcz26_2 : w25.cell? ⟨gb139, 2, none⟩ = some (.int .i64 ((rd_T23 l0 x27_2).f2)) := (blk_cell BK139.out 2).trans rfl; have hcz26_3 : w25.cell? ⟨gb139, 3, none⟩ = some (.string ((rd_T23 l0 x27_2).f3)) := (blk_cell BK139.out 3).trans rfl; have hfz26_0 := blk_frozen BK139.out 0; have hfz26_1 := blk_frozen BK139.out 1; have hfz26_2 := blk_frozen BK139.out 2; have hfz26_3 := blk_frozen BK139.out 3) | ((with_reducible refine gate_callee (f := 16) rfl ?_); refine goesL_ (some 43) rfl rfl Try.func16 (by kernel_rfl) rfl #[.agg #[.int .i64 ((rd_T23 l0 x27_2).f0), .int .i64 ((rd_T23 l0 x27_2).f1), .int .i64 ((rd_T23 l0 x27_2).f2), .string ((rd_T23 l0 x27_2).f3)]] rfl (by (try simp only [List.map_toArray, List.map_cons, List.map_nil]); first | done | rfl | (simp only [List.length_drop, List.length_take]; rfl)) ?_; (with_reducible refine (frame_Right.calls ((rd_T23 l0 x27_2).f0) ((rd_T23 l0 x27_2).f1) ((rd_T23 l0 x27_2).f2) ((rd_T23 l0 x27_2).f3) t142 _ A22.out).mono ?_); rintro e w27 ⟨rfl, hb⟩; refine ⟨_, rfl, ?_⟩; have n0_ := Aside0.mk (blk_below (g := gb139) (o := .cells #[.int .i64 ((rd_T23 l0 x27_2).f0), .int .i64 ((rd_T23 l0 x27_2).f1), .int .i64 ((rd_T23 l0 x27_2).f2), .string ((rd_T23 l0 x27_2).f3)] 23 (0, 0)) (by (with_reducible repeat (first | refine blk_drewN ?_ _ | refine blk_drew ?_ | refine blk_alloc ?_ _)); exact BK139.out) hb); have n1_ := Aside0.mk (below_step (by repeat (first | (with_reducible first | exact HB.out | apply below_alloc | apply pw_below_drewN | apply below_drew1 | refine below_set ?_ GE139.out) | exact HB.out)) hb); clear BK139; clear HB; have BK139 := n0_; have HB := n1_; clear n0_ n1_; (try clear hb); (try clear hb2); (try clear hk); (try clear hi)))
                      go_ret
                      exact ⟨by first | rfl | (simp [errW_none, errW_some] <;> rfl) | (simp [*, errW_none, errW_some] <;> rfl), by repeat (first | (with_reducible first | exact HB.out | apply below_alloc | apply pw_below_drewN | apply below_drew1 | refine below_set ?_ GE139.out) | exact HB.out)⟩
                · rw [if_neg c11] at H
                  exact absurd H (by simp)
              · rw [if_neg c10] at H
                exact absurd H (by simp)
            · rw [if_neg c9] at H
              have c9b0 : decide (x27_2 < (l0.length : Int)) = false := decide_eq_false c9
              clear c9
              by_cases c28 : (x3_2.size : Int) = x4_2
              · rw [if_pos c28] at H
                have c28b0 : ((x3_2.size : Int) == x4_2) = true := beq_iff_eq.mpr c28
                have c28b1 : ((x3_2.size : Int) != x4_2) = false := bne_eq_false_iff_eq.mpr c28
                clear c28
                have H' := Aside0.mk H
                clear H
                go_wp2
                go_loopg [3, 61] k2 (fun kq v3 v61 w' => ∃ (x3_3 : ByteArray) (x61_3 : Int), v3 = .string x3_3 ∧ v61 = .int .i64 x61_3 ∧ Aside0 (bywashlaw7_FrameJoins.l1 kq x3_3 l0 (l0.length : Int) x61_3 = some r) ∧ Aside0 (kq ≤ k2) ∧ Aside0 (Below w.heap.size w w'))
                case atStart => exact ⟨(x3_2), (0), (by first | rfl | (simp; done) | (simp [*]; done)), (by first | rfl | (simp; done) | (simp [*]; done)), H', ⟨Nat.le_refl _⟩, ⟨by repeat (first | (with_reducible first | exact HB.out | apply below_alloc | apply pw_below_drewN | apply below_drew1) | exact HB.out)⟩⟩
                case round =>
                  clear H'
                  try clear c1
                  try clear p1
                  try clear q1
                  try clear hx1
                  try clear c2
                  try clear p2
                  try clear c3
                  try clear c3b0
                  try clear c3b1
                  try clear c5
                  try clear c6
                  try clear p6
                  try clear c9
                  try clear c9b0
                  try clear c10
                  try clear c10b0
                  try clear c11
                  try clear c11b0
                  try clear c12
                  try clear c12b0
                  try clear c12b1
                  try clear p13
                  try clear q13
                  try clear hx13
                  try clear c16
                  try clear c17
                  try clear c17b0
                  try clear c17b1
                  try clear c17b2
                  try clear c28
                  try clear c28b0
                  try clear c28b1
                  try clear hcz14_0
                  try clear hcz14_1
                  try clear hcz14_2
                  try clear hcz14_3
                  try clear hcz19_0
                  try clear hcz19_1
                  try clear hcz19_2
                  try clear hcz19_3
                  try clear hcz21_0
                  try clear hcz21_1
                  try clear hcz21_2
                  try clear hcz21_3
                  try clear hcz24_0
                  try clear hcz24_1
                  try clear hcz24_2
                  try clear hcz24_3
                  try clear hcz26_0
                  try clear hcz26_1
                  try clear hcz26_2
                  try clear hcz26_3
                  try clear hfz14_0
                  try clear hfz14_1
                  try clear hfz14_2
                  try clear hfz14_3
                  try clear hfz19_0
                  try clear hfz19_1
                  try clear hfz19_2
                  try clear hfz19_3
                  try clear hfz21_0
                  try clear hfz21_1
                  try clear hfz21_2
                  try clear hfz21_3
                  try clear hfz24_0
                  try clear hfz24_1
                  try clear hfz24_2
                  try clear hfz24_3
                  try clear hfz26_0
                  try clear hfz26_1
                  try clear hfz26_2
                  try clear hfz26_3
                  try clear hx138_0
                  try clear hx138_1
                  try clear hx138_2
                  try clear hx138_3
                  try clear p138
                  try clear p2
                  try clear q138
                  obtain ⟨x3_3, x61_3, rfl, rfl, HA, HK3, HB⟩ := hrel
                  cases gk with
                  | zero => exact absurd HA.out (by simp [bywashlaw7_FrameJoins.l1])
                  | succ k3 =>
                    have H := HA.out
                    clear HA
                    simp only [bywashlaw7_FrameJoins.l1] at H
                    by_cases c29 : x61_3 < (l0.length : Int)
                    · rw [if_pos c29] at H
                      have c29b0 : decide (x61_3 < (l0.length : Int)) = true := decide_eq_true c29
                      clear c29
                      by_cases c30 : 0 ≤ x61_3
                      · rw [if_pos c30] at H
                        have c30b0 : decide (0 ≤ x61_3) = true := decide_eq_true c30
                        clear c30
                        by_cases c31 : x61_3 < (l0.length : Int)
                        · rw [if_pos c31] at H
                          have c31b0 : decide (x61_3 < (l0.length : Int)) = true := decide_eq_true c31
                          clear c31
                          replace H := Option.bind_eq_some_iff.mp H
                          obtain ⟨⟨t145, t146, t147, t148, t149, t150⟩, A320, H⟩ := H
                          replace H : (if t150 = 0 then (if (!(t145 == ((rd_T23 l0 x61_3).f0)) || (!(t146 == ((rd_T23 l0 x61_3).f1)) || (!(t147 == ((rd_T23 l0 x61_3).f2)) || (!(t148.toList == (((rd_T23 l0 x61_3).f3).toList)))))) = true then (bywashlaw7_FrameJoins.j3 k3 x3_3 t149 l0 (l0.length : Int) x61_3 true) else (bywashlaw7_FrameJoins.j3 k3 x3_3 t149 l0 (l0.length : Int) x61_3 (t149 != (wrap64 (9 + (((rd_T23 l0 x61_3).f3).size : Int)))))) else (bywashlaw7_FrameJoins.j3 k3 x3_3 t149 l0 (l0.length : Int) x61_3 true)) = some r := H
                          have A32 := Aside0.mk A320
                          clear A320
                          have HC33 := Aside0.mk H
                          clear H
                          have p143 : 0 ≤ (x61_3 : Int) := of_decide_eq_true (by first | (with_reducible assumption) | assumption)
                          have q143 : x61_3 < (l0.length : Int) := of_decide_eq_true (by first | (with_reducible assumption) | assumption)
                          obtain ⟨ad143, e143, hx143_0, hx143_1, hx143_2, hx143_3⟩ := at_T23 HR0.out x61_3 p143 q143
                          cases e143
                          replace hx143_0 := (HB.out.cell (World.block_lt_of_cell? w _ hx143_0)).trans hx143_0
                          replace hx143_1 := (HB.out.cell (World.block_lt_of_cell? w _ hx143_1)).trans hx143_1
                          replace hx143_2 := (HB.out.cell (World.block_lt_of_cell? w _ hx143_2)).trans hx143_2
                          replace hx143_3 := (HB.out.cell (World.block_lt_of_cell? w _ hx143_3)).trans hx143_3
                          replace p143 := eq_true p143
                          replace q143 := eq_true q143
                          go_upto_region 21 with (first | ((with_reducible refine gate_dst (N := 10) rfl ?_); (try (refine gate_guard (by rfl) ?_; dsimp only)); refine box_event ?hg (N := 10) ?hd (cs := #[.int .i64 0, .int .i64 0, .int .i64 0, .string (⟨#[]⟩ : ByteArray)]) (t := 23) ?hr ?_; (case hd => rfl); (case hg => rfl); (case hr => first | (go_simp; done) | (go_simp; rfl)); intro gb144 hg w34 hbox hb; have n0_ := Aside0.mk (below_step (by repeat (first | (with_reducible first | exact HB.out | apply below_alloc | apply pw_below_drewN | apply below_drew1) | exact HB.out)) hb); have n1_ := Aside0.mk (hbox); have n2_ := Aside0.mk ((by rw [hg]; exact (below_size (by repeat (first | (with_reducible first | exact HB.out | apply below_alloc | apply pw_below_drewN | apply below_drew1) | exact HB.out))) : w.heap.size ≤ gb144)); have n3_ := Aside0.mk ((by rw [hg]; exact (below_size (by repeat (first | (with_reducible first | exact HB.out | apply below_alloc | apply pw_below_drewN | apply below_drew1) | exact HB.out))) : w.heap.size ≤ gb144)); clear HB; have HB := n0_; have BK144 := n1_; have GW144 := n2_; have GE144 := n3_; clear n0_ n1_ n2_ n3_; clear hb hbox hg; have hcz35_0 : w34.cell? ⟨gb144, 0, none⟩ = some (.int .i64 0) := (blk_cell BK144.out 0).trans rfl; have hcz35_1 : w34.cell? ⟨gb144, 1, none⟩ = some (.int .i64 0) := (blk_cell BK144.out 1).trans rfl; have hcz35_2 : w34.cell? ⟨gb144, 2, none⟩ = some (.int .i64 0) := (blk_cell BK144.out 2).trans rfl; have hcz35_3 : w34.cell? ⟨gb144, 3, none⟩ = some (.string (⟨#[]⟩ : ByteArray)) := (blk_cell BK144.out 3).trans rfl; have hfz35_0 := blk_frozen BK144.out 0; have hfz35_1 := blk_frozen BK144.out 1; have hfz35_2 := blk_frozen BK144.out 2; have hfz35_3 := blk_frozen BK144.out 3) | ((with_reducible refine gate_callee (f := 12) rfl ?_); refine goesL_ (some 67) rfl rfl Try.func12 (by kernel_rfl) rfl #[.string x3_3] rfl (by (try simp only [List.map_toArray, List.map_cons, List.map_nil]); first | done | rfl | (simp only [List.length_drop, List.length_take]; rfl)) ?_; (with_reducible refine (frame_Get.calls k3 x3_3 t145 t146 t147 t148 t149 t150 _ A32.out).mono ?_); rintro e w36 ⟨rfl, hb⟩; refine ⟨_, rfl, ?_⟩; have n0_ := Aside0.mk (blk_below (g := gb144) (o := .cells #[.int .i64 ((rd_T23 l0 x61_3).f0), .int .i64 ((rd_T23 l0 x61_3).f1), .int .i64 ((rd_T23 l0 x61_3).f2), .string ((rd_T23 l0 x61_3).f3)] 23 (0, 0)) (by (with_reducible repeat (first | refine blk_drewN ?_ _ | refine blk_drew ?_ | refine blk_alloc ?_ _)); refine blk_put (cs := #[.int .i64 ((rd_T23 l0 x61_3).f0), .int .i64 ((rd_T23 l0 x61_3).f1), .int .i64 ((rd_T23 l0 x61_3).f2), .string (⟨#[]⟩ : ByteArray)]) ?_ 3 _ rfl; (with_reducible repeat (first | refine blk_drewN ?_ _ | refine blk_drew ?_ | refine blk_alloc ?_ _)); refine blk_put (cs := #[.int .i64 ((rd_T23 l0 x61_3).f0), .int .i64 ((rd_T23 l0 x61_3).f1), .int .i64 0, .string (⟨#[]⟩ : ByteArray)]) ?_ 2 _ rfl; (with_reducible repeat (first | refine blk_drewN ?_ _ | refine blk_drew ?_ | refine blk_alloc ?_ _)); refine blk_put (cs := #[.int .i64 ((rd_T23 l0 x61_3).f0), .int .i64 0, .int .i64 0, .string (⟨#[]⟩ : ByteArray)]) ?_ 1 _ rfl; (with_reducible repeat (first | refine blk_drewN ?_ _ | refine blk_drew ?_ | refine blk_alloc ?_ _)); refine blk_put (cs := #[.int .i64 0, .int .i64 0, .int .i64 0, .string (⟨#[]⟩ : ByteArray)]) ?_ 0 _ rfl; (with_reducible repeat (first | refine blk_drewN ?_ _ | refine blk_drew ?_ | refine blk_alloc ?_ _)); exact BK144.out) hb); have n1_ := Aside0.mk (below_step (by repeat (first | (with_reducible first | exact HB.out | apply below_alloc | apply pw_below_drewN | apply below_drew1 | refine below_set ?_ GE144.out) | exact HB.out)) hb); clear BK144; clear HB; have BK144 := n0_; have HB := n1_; clear n0_ n1_; (try clear hb); (try clear hb2); (try clear hk); (try clear hi)) | ((with_reducible refine gate_dst (N := 11) rfl ?_); (try (refine gate_guard (by rfl) ?_; dsimp only)); refine box_event ?hg (N := 11) ?hd (cs := #[.int .i64 0, .int .i64 0, .int .i64 0, .string (⟨#[]⟩ : ByteArray)]) (t := 23) ?hr ?_; (case hd => rfl); (case hg => rfl); (case hr => first | (go_simp; done) | (go_simp; rfl)); intro gb151 hg w37 hbox hb; have n0_ := Aside0.mk (blk_below (g := gb144) (o := .cells #[.int .i64 ((rd_T23 l0 x61_3).f0), .int .i64 ((rd_T23 l0 x61_3).f1), .int .i64 ((rd_T23 l0 x61_3).f2), .string ((rd_T23 l0 x61_3).f3)] 23 (0, 0)) (by (with_reducible repeat (first | refine blk_drewN ?_ _ | refine blk_drew ?_ | refine blk_alloc ?_ _)); exact BK144.out) hb); have n1_ := Aside0.mk (below_step (by repeat (first | (with_reducible first | exact HB.out | apply below_alloc | apply pw_below_drewN | apply below_drew1 | refine below_set ?_ GE144.out) | exact HB.out)) hb); have n2_ := Aside0.mk (hbox); have n3_ := Aside0.mk ((by rw [hg]; exact (below_size (by repeat (first | (with_reducible first | exact HB.out | apply below_alloc | apply pw_below_drewN | apply below_drew1 | refine below_set ?_ GE144.out) | exact HB.out))) : w.heap.size ≤ gb151)); have n4_ := Aside0.mk ((by rw [hg]; exact (below_size (by repeat (first | (with_reducible first | exact HB.out | apply below_alloc | apply pw_below_drewN | apply below_drew1 | refine below_set ?_ GE144.out) | exact HB.out))) : w.heap.size ≤ gb151)); have n5_ := Aside0.mk ((by rw [hg]; exact Nat.ne_of_lt (blk_lt (g := gb144) (o := .cells #[.int .i64 ((rd_T23 l0 x61_3).f0), .int .i64 ((rd_T23 l0 x61_3).f1), .int .i64 ((rd_T23 l0 x61_3).f2), .string ((rd_T23 l0 x61_3).f3)] 23 (0, 0)) (by (with_reducible repeat (first | refine blk_drewN ?_ _ | refine blk_drew ?_ | refine blk_alloc ?_ _)); exact BK144.out)) : gb144 ≠ gb151)); have n6_ := Aside0.mk ((by rw [hg]; exact Nat.ne_of_gt (blk_lt (g := gb144) (o := .cells #[.int .i64 ((rd_T23 l0 x61_3).f0), .int .i64 ((rd_T23 l0 x61_3).f1), .int .i64 ((rd_T23 l0 x61_3).f2), .string ((rd_T23 l0 x61_3).f3)] 23 (0, 0)) (by (with_reducible repeat (first | refine blk_drewN ?_ _ | refine blk_drew ?_ | refine blk_alloc ?_ _)); exact BK144.out)) : gb151 ≠ gb144)); clear BK144; clear HB; have BK144 := n0_; have HB := n1_; have BK151 := n2_; have GW151 := n3_; have GE151 := n4_; have NB144_151 := n5_; have NB151_144 := n6_; clear n0_ n1_ n2_ n3_ n4_ n5_ n6_; clear hb hbox hg; have hnb38 := NB151_144.out; have hnc38 := NB144_151.out; have hcz39_0 : w37.cell? ⟨gb151, 0, none⟩ = some (.int .i64 0) := (blk_cell BK151.out 0).trans rfl; have hcz39_1 : w37.cell? ⟨gb151, 1, none⟩ = some (.int .i64 0) := (blk_cell BK151.out 1).trans rfl; have hcz39_2 : w37.cell? ⟨gb151, 2, none⟩ = some (.int .i64 0) := (blk_cell BK151.out 2).trans rfl; have hcz39_3 : w37.cell? ⟨gb151, 3, none⟩ = some (.string (⟨#[]⟩ : ByteArray)) := (blk_cell BK151.out 3).trans rfl; have hfz39_0 := blk_frozen BK151.out 0; have hfz39_1 := blk_frozen BK151.out 1; have hfz39_2 := blk_frozen BK151.out 2; have hfz39_3 := blk_frozen BK151.out 3))
                          (try simp only [Act.put, List.setIfInBounds_toArray, List.set_cons_zero, List.set_cons_succ])
                          go_cut [85] (fun v85 wc => ∃ (kq : Nat) (x85_32 : Bool), v85 = .bool x85_32 ∧ Aside0 (bywashlaw7_FrameJoins.j3 kq x3_3 t149 l0 (l0.length : Int) x61_3 x85_32 = some r) ∧ Aside0 (kq ≤ k3) ∧ Aside0 (wc.heap[gb144]? = some (.cells #[.int .i64 ((rd_T23 l0 x61_3).f0), .int .i64 ((rd_T23 l0 x61_3).f1), .int .i64 ((rd_T23 l0 x61_3).f2), .string ((rd_T23 l0 x61_3).f3)] 23 (0, 0))) ∧ Aside0 (wc.heap[gb151]? = some (.cells #[.int .i64 t145, .int .i64 t146, .int .i64 t147, .string t148] 23 (0, 0))) ∧ Aside0 (Below w.heap.size w wc))
                          case first =>
                            have H := HC33.out
                            clear HC33
                            by_cases c40 : t150 = 0
                            · rw [if_pos c40] at H
                              have c40b0 : (t150 == 0) = true := beq_iff_eq.mpr c40
                              have c40b1 : (t150 != 0) = false := bne_eq_false_iff_eq.mpr c40
                              clear c40
                              (first | rw [c40b0] | (simp only [i64_w, i32_w]; rw [c40b0]) | skip)
                              by_cases c41 : (!(t145 == ((rd_T23 l0 x61_3).f0)) || (!(t146 == ((rd_T23 l0 x61_3).f1)) || (!(t147 == ((rd_T23 l0 x61_3).f2)) || (!(t148.toList == (((rd_T23 l0 x61_3).f3).toList)))))) = true
                              · rw [if_pos c41] at H
                                have c41b0 : (!(t145 == ((rd_T23 l0 x61_3).f0)) || (!(t146 == ((rd_T23 l0 x61_3).f1)) || (!(t147 == ((rd_T23 l0 x61_3).f2)) || (!(t148.toList == (((rd_T23 l0 x61_3).f3).toList)))))) = true := c41
                                clear c41
                                have H' := Aside0.mk H
                                clear H
                                have hnb42 := NB151_144.out
                                have hnc42 := NB144_151.out
                                have hcz43_0 : w37.cell? ⟨gb151, 0, none⟩ = some (.int .i64 0) := (blk_cell BK151.out 0).trans rfl
                                have hcz43_1 : w37.cell? ⟨gb151, 1, none⟩ = some (.int .i64 0) := (blk_cell BK151.out 1).trans rfl
                                have hcz43_2 : w37.cell? ⟨gb151, 2, none⟩ = some (.int .i64 0) := (blk_cell BK151.out 2).trans rfl
                                have hcz43_3 : w37.cell? ⟨gb151, 3, none⟩ = some (.string (⟨#[]⟩ : ByteArray)) := (blk_cell BK151.out 3).trans rfl
                                have hfz43_0 := blk_frozen BK151.out 0
                                have hfz43_1 := blk_frozen BK151.out 1
                                have hfz43_2 := blk_frozen BK151.out 2
                                have hfz43_3 := blk_frozen BK151.out 3
                                have hcz44_0 : w37.cell? ⟨gb144, 0, none⟩ = some (.int .i64 ((rd_T23 l0 x61_3).f0)) := (blk_cell BK144.out 0).trans rfl
                                have hcz44_1 : w37.cell? ⟨gb144, 1, none⟩ = some (.int .i64 ((rd_T23 l0 x61_3).f1)) := (blk_cell BK144.out 1).trans rfl
                                have hcz44_2 : w37.cell? ⟨gb144, 2, none⟩ = some (.int .i64 ((rd_T23 l0 x61_3).f2)) := (blk_cell BK144.out 2).trans rfl
                                have hcz44_3 : w37.cell? ⟨gb144, 3, none⟩ = some (.string ((rd_T23 l0 x61_3).f3)) := (blk_cell BK144.out 3).trans rfl
                                have hfz44_0 := blk_frozen BK144.out 0
                                have hfz44_1 := blk_frozen BK144.out 1
                                have hfz44_2 := blk_frozen BK144.out 2
                                have hfz44_3 := blk_frozen BK144.out 3
                                go_wp2
                                go_meet
                                case rel => exact ⟨_, (true), (by first | rfl | (simp; done) | (simp [*]; done)), H', ⟨by have := HJ1.out; have := HK2.out; have := HK3.out; first | omega | exact Nat.le_refl _⟩, ⟨by (with_reducible repeat (first | refine blk_drewN ?_ _ | refine blk_drew ?_ | refine blk_alloc ?_ _)); refine blk_far ?_ NB144_151.out _; (with_reducible repeat (first | refine blk_drewN ?_ _ | refine blk_drew ?_ | refine blk_alloc ?_ _)); refine blk_far ?_ NB144_151.out _; (with_reducible repeat (first | refine blk_drewN ?_ _ | refine blk_drew ?_ | refine blk_alloc ?_ _)); refine blk_far ?_ NB144_151.out _; (with_reducible repeat (first | refine blk_drewN ?_ _ | refine blk_drew ?_ | refine blk_alloc ?_ _)); refine blk_far ?_ NB144_151.out _; (with_reducible repeat (first | refine blk_drewN ?_ _ | refine blk_drew ?_ | refine blk_alloc ?_ _)); exact BK144.out⟩, ⟨by (with_reducible repeat (first | refine blk_drewN ?_ _ | refine blk_drew ?_ | refine blk_alloc ?_ _)); refine blk_put (cs := #[.int .i64 t145, .int .i64 t146, .int .i64 t147, .string (⟨#[]⟩ : ByteArray)]) ?_ 3 _ rfl; (with_reducible repeat (first | refine blk_drewN ?_ _ | refine blk_drew ?_ | refine blk_alloc ?_ _)); refine blk_put (cs := #[.int .i64 t145, .int .i64 t146, .int .i64 0, .string (⟨#[]⟩ : ByteArray)]) ?_ 2 _ rfl; (with_reducible repeat (first | refine blk_drewN ?_ _ | refine blk_drew ?_ | refine blk_alloc ?_ _)); refine blk_put (cs := #[.int .i64 t145, .int .i64 0, .int .i64 0, .string (⟨#[]⟩ : ByteArray)]) ?_ 1 _ rfl; (with_reducible repeat (first | refine blk_drewN ?_ _ | refine blk_drew ?_ | refine blk_alloc ?_ _)); refine blk_put (cs := #[.int .i64 0, .int .i64 0, .int .i64 0, .string (⟨#[]⟩ : ByteArray)]) ?_ 0 _ rfl; (with_reducible repeat (first | refine blk_drewN ?_ _ | refine blk_drew ?_ | refine blk_alloc ?_ _)); exact BK151.out⟩, ⟨by repeat (first | (with_reducible first | exact HB.out | apply below_alloc | apply pw_below_drewN | apply below_drew1 | refine below_set ?_ GE144.out | refine below_set ?_ GE151.out) | exact HB.out)⟩⟩
                              · rw [if_neg c41] at H
                                have c41b0 : (!(t145 == ((rd_T23 l0 x61_3).f0)) || (!(t146 == ((rd_T23 l0 x61_3).f1)) || (!(t147 == ((rd_T23 l0 x61_3).f2)) || (!(t148.toList == (((rd_T23 l0 x61_3).f3).toList)))))) = false := by simpa using c41
                                clear c41
                                have H' := Aside0.mk H
                                clear H
                                have hnb45 := NB151_144.out
                                have hnc45 := NB144_151.out
                                have hcz46_0 : w37.cell? ⟨gb151, 0, none⟩ = some (.int .i64 0) := (blk_cell BK151.out 0).trans rfl
                                have hcz46_1 : w37.cell? ⟨gb151, 1, none⟩ = some (.int .i64 0) := (blk_cell BK151.out 1).trans rfl
                                have hcz46_2 : w37.cell? ⟨gb151, 2, none⟩ = some (.int .i64 0) := (blk_cell BK151.out 2).trans rfl
                                have hcz46_3 : w37.cell? ⟨gb151, 3, none⟩ = some (.string (⟨#[]⟩ : ByteArray)) := (blk_cell BK151.out 3).trans rfl
                                have hfz46_0 := blk_frozen BK151.out 0
                                have hfz46_1 := blk_frozen BK151.out 1
                                have hfz46_2 := blk_frozen BK151.out 2
                                have hfz46_3 := blk_frozen BK151.out 3
                                have hcz47_0 : w37.cell? ⟨gb144, 0, none⟩ = some (.int .i64 ((rd_T23 l0 x61_3).f0)) := (blk_cell BK144.out 0).trans rfl
                                have hcz47_1 : w37.cell? ⟨gb144, 1, none⟩ = some (.int .i64 ((rd_T23 l0 x61_3).f1)) := (blk_cell BK144.out 1).trans rfl
                                have hcz47_2 : w37.cell? ⟨gb144, 2, none⟩ = some (.int .i64 ((rd_T23 l0 x61_3).f2)) := (blk_cell BK144.out 2).trans rfl
                                have hcz47_3 : w37.cell? ⟨gb144, 3, none⟩ = some (.string ((rd_T23 l0 x61_3).f3)) := (blk_cell BK144.out 3).trans rfl
                                have hfz47_0 := blk_frozen BK144.out 0
                                have hfz47_1 := blk_frozen BK144.out 1
                                have hfz47_2 := blk_frozen BK144.out 2
                                have hfz47_3 := blk_frozen BK144.out 3
                                go_wp2
                                go_meet
                                case rel => exact ⟨_, ((t149 != (wrap64 (9 + (((rd_T23 l0 x61_3).f3).size : Int))))), (by first | rfl | (simp; done) | (simp [*]; done)), H', ⟨by have := HJ1.out; have := HK2.out; have := HK3.out; first | omega | exact Nat.le_refl _⟩, ⟨by (with_reducible repeat (first | refine blk_drewN ?_ _ | refine blk_drew ?_ | refine blk_alloc ?_ _)); refine blk_far ?_ NB144_151.out _; (with_reducible repeat (first | refine blk_drewN ?_ _ | refine blk_drew ?_ | refine blk_alloc ?_ _)); refine blk_far ?_ NB144_151.out _; (with_reducible repeat (first | refine blk_drewN ?_ _ | refine blk_drew ?_ | refine blk_alloc ?_ _)); refine blk_far ?_ NB144_151.out _; (with_reducible repeat (first | refine blk_drewN ?_ _ | refine blk_drew ?_ | refine blk_alloc ?_ _)); refine blk_far ?_ NB144_151.out _; (with_reducible repeat (first | refine blk_drewN ?_ _ | refine blk_drew ?_ | refine blk_alloc ?_ _)); exact BK144.out⟩, ⟨by (with_reducible repeat (first | refine blk_drewN ?_ _ | refine blk_drew ?_ | refine blk_alloc ?_ _)); refine blk_put (cs := #[.int .i64 t145, .int .i64 t146, .int .i64 t147, .string (⟨#[]⟩ : ByteArray)]) ?_ 3 _ rfl; (with_reducible repeat (first | refine blk_drewN ?_ _ | refine blk_drew ?_ | refine blk_alloc ?_ _)); refine blk_put (cs := #[.int .i64 t145, .int .i64 t146, .int .i64 0, .string (⟨#[]⟩ : ByteArray)]) ?_ 2 _ rfl; (with_reducible repeat (first | refine blk_drewN ?_ _ | refine blk_drew ?_ | refine blk_alloc ?_ _)); refine blk_put (cs := #[.int .i64 t145, .int .i64 0, .int .i64 0, .string (⟨#[]⟩ : ByteArray)]) ?_ 1 _ rfl; (with_reducible repeat (first | refine blk_drewN ?_ _ | refine blk_drew ?_ | refine blk_alloc ?_ _)); refine blk_put (cs := #[.int .i64 0, .int .i64 0, .int .i64 0, .string (⟨#[]⟩ : ByteArray)]) ?_ 0 _ rfl; (with_reducible repeat (first | refine blk_drewN ?_ _ | refine blk_drew ?_ | refine blk_alloc ?_ _)); exact BK151.out⟩, ⟨by repeat (first | (with_reducible first | exact HB.out | apply below_alloc | apply pw_below_drewN | apply below_drew1 | refine below_set ?_ GE144.out | refine below_set ?_ GE151.out) | exact HB.out)⟩⟩
                            · rw [if_neg c40] at H
                              have c40b0 : (t150 == 0) = false := beq_eq_false_iff_ne.mpr c40
                              have c40b1 : (t150 != 0) = true := bne_iff_ne.mpr c40
                              (first | rw [c40b0] | (simp only [i64_w, i32_w]; rw [c40b0]) | skip)
                              have H' := Aside0.mk H
                              clear H
                              go_wp2
                              go_meet
                              case rel => exact ⟨_, (true), (by first | rfl | (simp; done) | (simp [*]; done)), H', ⟨by have := HJ1.out; have := HK2.out; have := HK3.out; first | omega | exact Nat.le_refl _⟩, ⟨by (with_reducible repeat (first | refine blk_drewN ?_ _ | refine blk_drew ?_ | refine blk_alloc ?_ _)); refine blk_far ?_ NB144_151.out _; (with_reducible repeat (first | refine blk_drewN ?_ _ | refine blk_drew ?_ | refine blk_alloc ?_ _)); refine blk_far ?_ NB144_151.out _; (with_reducible repeat (first | refine blk_drewN ?_ _ | refine blk_drew ?_ | refine blk_alloc ?_ _)); refine blk_far ?_ NB144_151.out _; (with_reducible repeat (first | refine blk_drewN ?_ _ | refine blk_drew ?_ | refine blk_alloc ?_ _)); refine blk_far ?_ NB144_151.out _; (with_reducible repeat (first | refine blk_drewN ?_ _ | refine blk_drew ?_ | refine blk_alloc ?_ _)); exact BK144.out⟩, ⟨by (with_reducible repeat (first | refine blk_drewN ?_ _ | refine blk_drew ?_ | refine blk_alloc ?_ _)); refine blk_put (cs := #[.int .i64 t145, .int .i64 t146, .int .i64 t147, .string (⟨#[]⟩ : ByteArray)]) ?_ 3 _ rfl; (with_reducible repeat (first | refine blk_drewN ?_ _ | refine blk_drew ?_ | refine blk_alloc ?_ _)); refine blk_put (cs := #[.int .i64 t145, .int .i64 t146, .int .i64 0, .string (⟨#[]⟩ : ByteArray)]) ?_ 2 _ rfl; (with_reducible repeat (first | refine blk_drewN ?_ _ | refine blk_drew ?_ | refine blk_alloc ?_ _)); refine blk_put (cs := #[.int .i64 t145, .int .i64 0, .int .i64 0, .string (⟨#[]⟩ : ByteArray)]) ?_ 1 _ rfl; (with_reducible repeat (first | refine blk_drewN ?_ _ | refine blk_drew ?_ | refine blk_alloc ?_ _)); refine blk_put (cs := #[.int .i64 0, .int .i64 0, .int .i64 0, .string (⟨#[]⟩ : ByteArray)]) ?_ 0 _ rfl; (with_reducible repeat (first | refine blk_drewN ?_ _ | refine blk_drew ?_ | refine blk_alloc ?_ _)); exact BK151.out⟩, ⟨by repeat (first | (with_reducible first | exact HB.out | apply below_alloc | apply pw_below_drewN | apply below_drew1 | refine below_set ?_ GE144.out | refine below_set ?_ GE151.out) | exact HB.out)⟩⟩
                          case rest =>
                            clear HC33
                            try clear c1
                            try clear p1
                            try clear q1
                            try clear hx1
                            try clear c2
                            try clear p2
                            try clear c3
                            try clear c3b0
                            try clear c3b1
                            try clear c4
                            try clear c5
                            try clear c6
                            try clear p6
                            try clear c9
                            try clear c9b0
                            try clear c10
                            try clear c10b0
                            try clear c11
                            try clear c11b0
                            try clear c12
                            try clear c12b0
                            try clear c12b1
                            try clear p13
                            try clear q13
                            try clear hx13
                            try clear p14
                            try clear q14
                            try clear hx14
                            try clear c16
                            try clear c17
                            try clear c17b0
                            try clear c17b1
                            try clear c17b2
                            try clear c28
                            try clear c28b0
                            try clear c28b1
                            try clear c29
                            try clear c29b0
                            try clear c30
                            try clear c30b0
                            try clear c31
                            try clear c31b0
                            try clear c38
                            try clear c40
                            try clear c40b0
                            try clear c40b1
                            try clear c41
                            try clear c41b0
                            try clear c42
                            try clear c45
                            try clear hcz14_0
                            try clear hcz14_1
                            try clear hcz14_2
                            try clear hcz14_3
                            try clear hcz19_0
                            try clear hcz19_1
                            try clear hcz19_2
                            try clear hcz19_3
                            try clear hcz21_0
                            try clear hcz21_1
                            try clear hcz21_2
                            try clear hcz21_3
                            try clear hcz24_0
                            try clear hcz24_1
                            try clear hcz24_2
                            try clear hcz24_3
                            try clear hcz26_0
                            try clear hcz26_1
                            try clear hcz26_2
                            try clear hcz26_3
                            try clear hcz35_0
                            try clear hcz35_1
                            try clear hcz35_2
                            try clear hcz35_3
                            try clear hcz39_0
                            try clear hcz39_1
                            try clear hcz39_2
                            try clear hcz39_3
                            try clear hcz43_0
                            try clear hcz43_1
                            try clear hcz43_2
                            try clear hcz43_3
                            try clear hcz44_0
                            try clear hcz44_1
                            try clear hcz44_2
                            try clear hcz44_3
                            try clear hcz46_0
                            try clear hcz46_1
                            try clear hcz46_2
                            try clear hcz46_3
                            try clear hcz47_0
                            try clear hcz47_1
                            try clear hcz47_2
                            try clear hcz47_3
                            try clear hfz14_0
                            try clear hfz14_1
                            try clear hfz14_2
                            try clear hfz14_3
                            try clear hfz19_0
                            try clear hfz19_1
                            try clear hfz19_2
                            try clear hfz19_3
                            try clear hfz21_0
                            try clear hfz21_1
                            try clear hfz21_2
                            try clear hfz21_3
                            try clear hfz24_0
                            try clear hfz24_1
                            try clear hfz24_2
                            try clear hfz24_3
                            try clear hfz26_0
                            try clear hfz26_1
                            try clear hfz26_2
                            try clear hfz26_3
                            try clear hfz35_0
                            try clear hfz35_1
                            try clear hfz35_2
                            try clear hfz35_3
                            try clear hfz39_0
                            try clear hfz39_1
                            try clear hfz39_2
                            try clear hfz39_3
                            try clear hfz43_0
                            try clear hfz43_1
                            try clear hfz43_2
                            try clear hfz43_3
                            try clear hfz44_0
                            try clear hfz44_1
                            try clear hfz44_2
                            try clear hfz44_3
                            try clear hfz46_0
                            try clear hfz46_1
                            try clear hfz46_2
                            try clear hfz46_3
                            try clear hfz47_0
                            try clear hfz47_1
                            try clear hfz47_2
                            try clear hfz47_3
                            try clear hx138_0
                            try clear hx138_1
                            try clear hx138_2
                            try clear hx138_3
                            try clear hx143_0
                            try clear hx143_1
                            try clear hx143_2
                            try clear hx143_3
                            try clear p1
                            try clear p13
                            try clear p138
                            try clear p143
                            try clear p2
                            try clear p6
                            try clear q1
                            try clear q13
                            try clear q138
                            try clear q143
                            obtain ⟨kq, x85_32, rfl, HA, HJ32, BK144, BK151, HB⟩ := hcut
                            cases kq with
                            | zero => exact absurd HA.out (by simp [bywashlaw7_FrameJoins.j3])
                            | succ kj32 =>
                              have H := HA.out
                              clear HA
                              simp only [bywashlaw7_FrameJoins.j3] at H
                              by_cases c48 : x85_32 = true
                              · subst c48
                                have H1 : (some false) = some r := by rw [if_pos rfl] at H; exact H
                                clear H
                                have H := H1
                                clear H1
                                obtain rfl := Option.some.inj H
                                go_wp2
                                go_ret
                                exact ⟨by first | rfl | (simp [errW_none, errW_some] <;> rfl) | (simp [*, errW_none, errW_some] <;> rfl), by repeat (first | (with_reducible first | exact HB.out | apply below_alloc | apply pw_below_drewN | apply below_drew1 | refine below_set ?_ GE144.out | refine below_set ?_ GE151.out) | exact HB.out)⟩
                              · replace c48 := Bool.eq_false_iff.mpr c48
                                subst c48
                                have H1 : (if 0 ≤ t149 then (if t149 ≤ (x3_3.size : Int) then (bywashlaw7_FrameJoins.l1 kj32 (x3_3.extract (t149 : Int).toNat x3_3.size) l0 (l0.length : Int) (wrap64 (x61_3 + 1))) else (none)) else (none)) = some r := by rw [if_neg (show ¬ (false = true) by decide)] at H; exact H
                                clear H
                                have H := H1
                                clear H1
                                by_cases c49 : 0 ≤ t149
                                · rw [if_pos c49] at H
                                  have c49b0 := eq_true c49
                                  have c49b1 : decide (0 ≤ t149) = true := decide_eq_true c49
                                  clear c49
                                  by_cases c50 : t149 ≤ (x3_3.size : Int)
                                  · rw [if_pos c50] at H
                                    have c50b0 := eq_true c50
                                    have c50b1 : decide (t149 ≤ (x3_3.size : Int)) = true := decide_eq_true c50
                                    clear c50
                                    have H' := Aside0.mk H
                                    clear H
                                    go_wp2
                                    go_roundg kj32
                                    case measure => have := HJ1.out; have := HK2.out; have := HK3.out; have := HJ32.out; omega
                                    case rel => exact ⟨(x3_3.extract (t149 : Int).toNat x3_3.size), (wrap64 (x61_3 + 1)), (by first | rfl | (simp; done) | (simp [*]; done)), (by first | rfl | (simp; done) | (simp [*]; done)), H', ⟨by have := HJ1.out; have := HK2.out; have := HK3.out; have := HJ32.out; omega⟩, ⟨by repeat (first | (with_reducible first | exact HB.out | apply below_alloc | apply pw_below_drewN | apply below_drew1 | refine below_set ?_ GE144.out | refine below_set ?_ GE151.out) | exact HB.out)⟩⟩
                                  · rw [if_neg c50] at H
                                    exact absurd H (by simp)
                                · rw [if_neg c49] at H
                                  exact absurd H (by simp)
                        · rw [if_neg c31] at H
                          exact absurd H (by simp)
                      · rw [if_neg c30] at H
                        exact absurd H (by simp)
                    · rw [if_neg c29] at H
                      have c29b0 : decide (x61_3 < (l0.length : Int)) = false := decide_eq_false c29
                      clear c29
                      replace H := Option.bind_eq_some_iff.mp H
                      obtain ⟨⟨t152, t153, t154, t155, t156, t157⟩, A510, H⟩ := H
                      replace H : (if x3_3.toList = ([] : List UInt8) then (bywashlaw7_FrameJoins.j4 k3 (t157 == 2)) else (bywashlaw7_FrameJoins.j4 k3 false)) = some r := H
                      have A51 := Aside0.mk A510
                      clear A510
                      have HC52 := Aside0.mk H
                      clear H
                      go_upto_region 26 with (first | ((with_reducible refine gate_callee (f := 12) rfl ?_); refine goesL_ (some 92) rfl rfl Try.func12 (by kernel_rfl) rfl #[.string x3_3] rfl (by (try simp only [List.map_toArray, List.map_cons, List.map_nil]); first | done | rfl | (simp only [List.length_drop, List.length_take]; rfl)) ?_; (with_reducible refine (frame_Get.calls k3 x3_3 t152 t153 t154 t155 t156 t157 _ A51.out).mono ?_); rintro e w53 ⟨rfl, hb⟩; refine ⟨_, rfl, ?_⟩; have n0_ := Aside0.mk (below_step (by repeat (first | (with_reducible first | exact HB.out | apply below_alloc | apply pw_below_drewN | apply below_drew1) | exact HB.out)) hb); clear HB; have HB := n0_; clear n0_; (try clear hb); (try clear hb2); (try clear hk); (try clear hi)) | ((with_reducible refine gate_dst (N := 14) rfl ?_); (try (refine gate_guard (by rfl) ?_; dsimp only)); refine box_event ?hg (N := 14) ?hd (cs := #[.int .i64 0, .int .i64 0, .int .i64 0, .string (⟨#[]⟩ : ByteArray)]) (t := 23) ?hr ?_; (case hd => rfl); (case hg => rfl); (case hr => first | (go_simp; done) | (go_simp; rfl)); intro gb158 hg w54 hbox hb; have n0_ := Aside0.mk (below_step (by repeat (first | (with_reducible first | exact HB.out | apply below_alloc | apply pw_below_drewN | apply below_drew1) | exact HB.out)) hb); have n1_ := Aside0.mk (hbox); have n2_ := Aside0.mk ((by rw [hg]; exact (below_size (by repeat (first | (with_reducible first | exact HB.out | apply below_alloc | apply pw_below_drewN | apply below_drew1) | exact HB.out))) : w.heap.size ≤ gb158)); have n3_ := Aside0.mk ((by rw [hg]; exact (below_size (by repeat (first | (with_reducible first | exact HB.out | apply below_alloc | apply pw_below_drewN | apply below_drew1) | exact HB.out))) : w.heap.size ≤ gb158)); clear HB; have HB := n0_; have BK158 := n1_; have GW158 := n2_; have GE158 := n3_; clear n0_ n1_ n2_ n3_; clear hb hbox hg; have hcz55_0 : w54.cell? ⟨gb158, 0, none⟩ = some (.int .i64 0) := (blk_cell BK158.out 0).trans rfl; have hcz55_1 : w54.cell? ⟨gb158, 1, none⟩ = some (.int .i64 0) := (blk_cell BK158.out 1).trans rfl; have hcz55_2 : w54.cell? ⟨gb158, 2, none⟩ = some (.int .i64 0) := (blk_cell BK158.out 2).trans rfl; have hcz55_3 : w54.cell? ⟨gb158, 3, none⟩ = some (.string (⟨#[]⟩ : ByteArray)) := (blk_cell BK158.out 3).trans rfl; have hfz55_0 := blk_frozen BK158.out 0; have hfz55_1 := blk_frozen BK158.out 1; have hfz55_2 := blk_frozen BK158.out 2; have hfz55_3 := blk_frozen BK158.out 3))
                      (try simp only [Act.put, List.setIfInBounds_toArray, List.set_cons_zero, List.set_cons_succ])
                      go_cut [2] (fun v2 wc => ∃ (kq : Nat) (x2_51 : Bool), v2 = .bool x2_51 ∧ Aside0 (bywashlaw7_FrameJoins.j4 kq x2_51 = some r) ∧ Aside0 (kq ≤ k3) ∧ Aside0 (wc.heap[gb158]? = some (.cells #[.int .i64 t152, .int .i64 t153, .int .i64 t154, .string t155] 23 (0, 0))) ∧ Aside0 (Below w.heap.size w wc))
                      case first =>
                        have H := HC52.out
                        clear HC52
                        by_cases c56 : x3_3.toList = ([] : List UInt8)
                        · rw [if_pos c56] at H
                          have c56b0 : (x3_3.toList == ([] : List UInt8)) = true := beq_iff_eq.mpr c56
                          have c56b1 : (x3_3.toList != ([] : List UInt8)) = false := bne_eq_false_iff_eq.mpr c56
                          clear c56
                          (first | rw [c56b0] | (simp only [i64_w, i32_w]; rw [c56b0]) | skip)
                          have H' := Aside0.mk H
                          clear H
                          go_wp2
                          go_meet
                          case rel => exact ⟨_, ((t157 == 2)), (by first | rfl | (simp; done) | (simp [*]; done)), H', ⟨by have := HJ1.out; have := HK2.out; have := HK3.out; first | omega | exact Nat.le_refl _⟩, ⟨by (with_reducible repeat (first | refine blk_drewN ?_ _ | refine blk_drew ?_ | refine blk_alloc ?_ _)); refine blk_put (cs := #[.int .i64 t152, .int .i64 t153, .int .i64 t154, .string (⟨#[]⟩ : ByteArray)]) ?_ 3 _ rfl; (with_reducible repeat (first | refine blk_drewN ?_ _ | refine blk_drew ?_ | refine blk_alloc ?_ _)); refine blk_put (cs := #[.int .i64 t152, .int .i64 t153, .int .i64 0, .string (⟨#[]⟩ : ByteArray)]) ?_ 2 _ rfl; (with_reducible repeat (first | refine blk_drewN ?_ _ | refine blk_drew ?_ | refine blk_alloc ?_ _)); refine blk_put (cs := #[.int .i64 t152, .int .i64 0, .int .i64 0, .string (⟨#[]⟩ : ByteArray)]) ?_ 1 _ rfl; (with_reducible repeat (first | refine blk_drewN ?_ _ | refine blk_drew ?_ | refine blk_alloc ?_ _)); refine blk_put (cs := #[.int .i64 0, .int .i64 0, .int .i64 0, .string (⟨#[]⟩ : ByteArray)]) ?_ 0 _ rfl; (with_reducible repeat (first | refine blk_drewN ?_ _ | refine blk_drew ?_ | refine blk_alloc ?_ _)); exact BK158.out⟩, ⟨by repeat (first | (with_reducible first | exact HB.out | apply below_alloc | apply pw_below_drewN | apply below_drew1 | refine below_set ?_ GE158.out) | exact HB.out)⟩⟩
                        · rw [if_neg c56] at H
                          have c56b0 : (x3_3.toList == ([] : List UInt8)) = false := beq_eq_false_iff_ne.mpr c56
                          have c56b1 : (x3_3.toList != ([] : List UInt8)) = true := bne_iff_ne.mpr c56
                          (first | rw [c56b0] | (simp only [i64_w, i32_w]; rw [c56b0]) | skip)
                          have H' := Aside0.mk H
                          clear H
                          go_wp2
                          go_meet
                          case rel => exact ⟨_, (false), (by first | rfl | (simp; done) | (simp [*]; done)), H', ⟨by have := HJ1.out; have := HK2.out; have := HK3.out; first | omega | exact Nat.le_refl _⟩, ⟨by (with_reducible repeat (first | refine blk_drewN ?_ _ | refine blk_drew ?_ | refine blk_alloc ?_ _)); refine blk_put (cs := #[.int .i64 t152, .int .i64 t153, .int .i64 t154, .string (⟨#[]⟩ : ByteArray)]) ?_ 3 _ rfl; (with_reducible repeat (first | refine blk_drewN ?_ _ | refine blk_drew ?_ | refine blk_alloc ?_ _)); refine blk_put (cs := #[.int .i64 t152, .int .i64 t153, .int .i64 0, .string (⟨#[]⟩ : ByteArray)]) ?_ 2 _ rfl; (with_reducible repeat (first | refine blk_drewN ?_ _ | refine blk_drew ?_ | refine blk_alloc ?_ _)); refine blk_put (cs := #[.int .i64 t152, .int .i64 0, .int .i64 0, .string (⟨#[]⟩ : ByteArray)]) ?_ 1 _ rfl; (with_reducible repeat (first | refine blk_drewN ?_ _ | refine blk_drew ?_ | refine blk_alloc ?_ _)); refine blk_put (cs := #[.int .i64 0, .int .i64 0, .int .i64 0, .string (⟨#[]⟩ : ByteArray)]) ?_ 0 _ rfl; (with_reducible repeat (first | refine blk_drewN ?_ _ | refine blk_drew ?_ | refine blk_alloc ?_ _)); exact BK158.out⟩, ⟨by repeat (first | (with_reducible first | exact HB.out | apply below_alloc | apply pw_below_drewN | apply below_drew1 | refine below_set ?_ GE158.out) | exact HB.out)⟩⟩
                      case rest =>
                        clear HC52
                        try clear c1
                        try clear p1
                        try clear q1
                        try clear hx1
                        try clear c2
                        try clear p2
                        try clear c3
                        try clear c3b0
                        try clear c3b1
                        try clear c4
                        try clear c5
                        try clear c6
                        try clear p6
                        try clear c9
                        try clear c9b0
                        try clear c10
                        try clear c10b0
                        try clear c11
                        try clear c11b0
                        try clear c12
                        try clear c12b0
                        try clear c12b1
                        try clear p13
                        try clear q13
                        try clear hx13
                        try clear p14
                        try clear q14
                        try clear hx14
                        try clear c16
                        try clear c17
                        try clear c17b0
                        try clear c17b1
                        try clear c17b2
                        try clear c28
                        try clear c28b0
                        try clear c28b1
                        try clear c29
                        try clear c29b0
                        try clear c30
                        try clear c30b0
                        try clear c31
                        try clear c31b0
                        try clear c38
                        try clear c40
                        try clear c40b0
                        try clear c40b1
                        try clear c41
                        try clear c41b0
                        try clear c42
                        try clear c45
                        try clear c48
                        try clear c49
                        try clear c49b0
                        try clear c49b1
                        try clear c50
                        try clear c50b0
                        try clear c50b1
                        try clear c56
                        try clear c56b0
                        try clear c56b1
                        try clear hcz14_0
                        try clear hcz14_1
                        try clear hcz14_2
                        try clear hcz14_3
                        try clear hcz19_0
                        try clear hcz19_1
                        try clear hcz19_2
                        try clear hcz19_3
                        try clear hcz21_0
                        try clear hcz21_1
                        try clear hcz21_2
                        try clear hcz21_3
                        try clear hcz24_0
                        try clear hcz24_1
                        try clear hcz24_2
                        try clear hcz24_3
                        try clear hcz26_0
                        try clear hcz26_1
                        try clear hcz26_2
                        try clear hcz26_3
                        try clear hcz35_0
                        try clear hcz35_1
                        try clear hcz35_2
                        try clear hcz35_3
                        try clear hcz39_0
                        try clear hcz39_1
                        try clear hcz39_2
                        try clear hcz39_3
                        try clear hcz43_0
                        try clear hcz43_1
                        try clear hcz43_2
                        try clear hcz43_3
                        try clear hcz44_0
                        try clear hcz44_1
                        try clear hcz44_2
                        try clear hcz44_3
                        try clear hcz46_0
                        try clear hcz46_1
                        try clear hcz46_2
                        try clear hcz46_3
                        try clear hcz47_0
                        try clear hcz47_1
                        try clear hcz47_2
                        try clear hcz47_3
                        try clear hcz55_0
                        try clear hcz55_1
                        try clear hcz55_2
                        try clear hcz55_3
                        try clear hfz14_0
                        try clear hfz14_1
                        try clear hfz14_2
                        try clear hfz14_3
                        try clear hfz19_0
                        try clear hfz19_1
                        try clear hfz19_2
                        try clear hfz19_3
                        try clear hfz21_0
                        try clear hfz21_1
                        try clear hfz21_2
                        try clear hfz21_3
                        try clear hfz24_0
                        try clear hfz24_1
                        try clear hfz24_2
                        try clear hfz24_3
                        try clear hfz26_0
                        try clear hfz26_1
                        try clear hfz26_2
                        try clear hfz26_3
                        try clear hfz35_0
                        try clear hfz35_1
                        try clear hfz35_2
                        try clear hfz35_3
                        try clear hfz39_0
                        try clear hfz39_1
                        try clear hfz39_2
                        try clear hfz39_3
                        try clear hfz43_0
                        try clear hfz43_1
                        try clear hfz43_2
                        try clear hfz43_3
                        try clear hfz44_0
                        try clear hfz44_1
                        try clear hfz44_2
                        try clear hfz44_3
                        try clear hfz46_0
                        try clear hfz46_1
                        try clear hfz46_2
                        try clear hfz46_3
                        try clear hfz47_0
                        try clear hfz47_1
                        try clear hfz47_2
                        try clear hfz47_3
                        try clear hfz55_0
                        try clear hfz55_1
                        try clear hfz55_2
                        try clear hfz55_3
                        try clear hx138_0
                        try clear hx138_1
                        try clear hx138_2
                        try clear hx138_3
                        try clear hx143_0
                        try clear hx143_1
                        try clear hx143_2
                        try clear hx143_3
                        try clear p1
                        try clear p13
                        try clear p138
                        try clear p14
                        try clear p143
                        try clear p2
                        try clear p6
                        try clear q1
                        try clear q13
                        try clear q138
                        try clear q14
                        try clear q143
                        obtain ⟨kq, x2_51, rfl, HA, HJ51, BK158, HB⟩ := hcut
                        cases kq with
                        | zero => exact absurd HA.out (by simp [bywashlaw7_FrameJoins.j4])
                        | succ kj51 =>
                          have H := HA.out
                          clear HA
                          simp only [bywashlaw7_FrameJoins.j4] at H
                          obtain rfl := Option.some.inj H
                          go_wp2
                          go_ret
                          exact ⟨by first | rfl | (simp [errW_none, errW_some] <;> rfl) | (simp [*, errW_none, errW_some] <;> rfl), by repeat (first | (with_reducible first | exact HB.out | apply below_alloc | apply pw_below_drewN | apply below_drew1 | refine below_set ?_ GE158.out) | exact HB.out)⟩
              · rw [if_neg c28] at H
                have c28b0 : ((x3_2.size : Int) == x4_2) = false := beq_eq_false_iff_ne.mpr c28
                have c28b1 : ((x3_2.size : Int) != x4_2) = true := bne_iff_ne.mpr c28
                obtain rfl := Option.some.inj H
                go_wp2
                go_ret
                exact ⟨by first | rfl | (simp [errW_none, errW_some] <;> rfl) | (simp [*, errW_none, errW_some] <;> rfl), by repeat (first | (with_reducible first | exact HB.out | apply below_alloc | apply pw_below_drewN | apply below_drew1) | exact HB.out)⟩

end Go.Proofs.Ytehccigpbchbcaa.PFrameJoins
