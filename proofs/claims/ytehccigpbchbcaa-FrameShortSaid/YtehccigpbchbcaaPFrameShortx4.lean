-- Written by a program of this session (the kit's printer, turned): the functions that the law reaches.
import Derived.Test.YtehccigpbchbcaaPFrameShortx0
import Derived.Test.YtehccigpbchbcaaPFrameShortx2
import Derived.Test.YtehccigpbchbcaaPFrameShortx3
namespace Go.Proofs.Ytehccigpbchbcaa.PFrameShort
open Go.RowKit Go.Proofs.YtehccigpbchbcaaW.PrintWords Go.Proofs.YtehccigpbchbcaaW.PrintLast Go.Proofs.YtehccigpbchbcaaW.PrintMore
attribute [local go_sem] max2_int min2_int max_two min_two max_three min_three max_four min_four   -- for this text's walks alone
set_option linter.unusedVariables false
set_option linter.unusedSimpArgs false

/-! ### bywashlaw7_FrameShort: function 8 -/
mutual
def bywashlaw7_FrameShort.j0 : Nat → ByteArray → Int → Bool → Option (Bool)
  | 0, _, _, _ => none
  | k + 1, x0, x1, x28 => if x28 = true then ((bywashlaw7_alive.f k).bind fun t137 => (some t137)) else ((some (([(x1) % 256] : List Int) : List Int)).bind fun y138 => (if (strOfNums y138).size + x0.size ≤ 9223372036854775807 then ((frame_Strip.f k 0 8 1 ((strOfNums y138) ++ x0)).bind fun bt141 => ((frame_Strip.f k 1 32 1 x0).bind fun bt144 => ((frame_Strip.f k 0 8 1 (⟨#[]⟩ : ByteArray)).bind fun bt147 => (if x1 > (x0.size : Int) then (if bt141.2.2 = 11 then (if bt141.1.toList = ([] : List UInt8) then (if bt141.2.1 = 0 then (if x1 ≤ (x0.size : Int) then (if bt141.2.2 = 0 then (if 0 ≤ (wrap64 ((x0.size : Int) - x1)) then (if (wrap64 ((x0.size : Int) - x1)) ≤ (x0.size : Int) then (if bt141.1.toList = (x0.extract 0 ((wrap64 ((x0.size : Int) - x1)) : Int).toNat).toList then (bywashlaw7_FrameShort.j1 k x0 bt144.1 bt144.2.1 bt144.2.2 bt147.2.2 (bt141.2.1 != (wrap64 (1 + x1)))) else (bywashlaw7_FrameShort.j1 k x0 bt144.1 bt144.2.1 bt144.2.2 bt147.2.2 true)) else (none)) else (none)) else (bywashlaw7_FrameShort.j1 k x0 bt144.1 bt144.2.1 bt144.2.2 bt147.2.2 true)) else (bywashlaw7_FrameShort.j1 k x0 bt144.1 bt144.2.1 bt144.2.2 bt147.2.2 false)) else (bywashlaw7_FrameShort.j1 k x0 bt144.1 bt144.2.1 bt144.2.2 bt147.2.2 true)) else (bywashlaw7_FrameShort.j1 k x0 bt144.1 bt144.2.1 bt144.2.2 bt147.2.2 true)) else (bywashlaw7_FrameShort.j1 k x0 bt144.1 bt144.2.1 bt144.2.2 bt147.2.2 true)) else (if x1 ≤ (x0.size : Int) then (if bt141.2.2 = 0 then (if 0 ≤ (wrap64 ((x0.size : Int) - x1)) then (if (wrap64 ((x0.size : Int) - x1)) ≤ (x0.size : Int) then (if bt141.1.toList = (x0.extract 0 ((wrap64 ((x0.size : Int) - x1)) : Int).toNat).toList then (bywashlaw7_FrameShort.j1 k x0 bt144.1 bt144.2.1 bt144.2.2 bt147.2.2 (bt141.2.1 != (wrap64 (1 + x1)))) else (bywashlaw7_FrameShort.j1 k x0 bt144.1 bt144.2.1 bt144.2.2 bt147.2.2 true)) else (none)) else (none)) else (bywashlaw7_FrameShort.j1 k x0 bt144.1 bt144.2.1 bt144.2.2 bt147.2.2 true)) else (bywashlaw7_FrameShort.j1 k x0 bt144.1 bt144.2.1 bt144.2.2 bt147.2.2 false)))))) else (none)))
def bywashlaw7_FrameShort.j1 : Nat → ByteArray → ByteArray → Int → Int → Int → Bool → Option (Bool)
  | 0, _, _, _, _, _, _ => none
  | k + 1, x0, x8, x9, x10, x13, x96 => if x96 = true then (some false) else (if x13 = 11 then (if (x0.size : Int) < 5 then (if x10 = 5 then (if x8.toList = ([] : List UInt8) then (if x9 = 0 then (bywashlaw7_FrameShort.j2 k true) else (if (x0.size : Int) ≥ 5 then (if x10 = 0 then (if 5 ≤ (x0.size : Int) then (if x8.toList = (x0.extract 5 x0.size).toList then (bywashlaw7_FrameShort.j2 k (x9 == 5)) else (bywashlaw7_FrameShort.j2 k false)) else (none)) else (bywashlaw7_FrameShort.j2 k false)) else (bywashlaw7_FrameShort.j2 k false))) else (if (x0.size : Int) ≥ 5 then (if x10 = 0 then (if 5 ≤ (x0.size : Int) then (if x8.toList = (x0.extract 5 x0.size).toList then (bywashlaw7_FrameShort.j2 k (x9 == 5)) else (bywashlaw7_FrameShort.j2 k false)) else (none)) else (bywashlaw7_FrameShort.j2 k false)) else (bywashlaw7_FrameShort.j2 k false))) else (if (x0.size : Int) ≥ 5 then (if x10 = 0 then (if 5 ≤ (x0.size : Int) then (if x8.toList = (x0.extract 5 x0.size).toList then (bywashlaw7_FrameShort.j2 k (x9 == 5)) else (bywashlaw7_FrameShort.j2 k false)) else (none)) else (bywashlaw7_FrameShort.j2 k false)) else (bywashlaw7_FrameShort.j2 k false))) else (if (x0.size : Int) ≥ 5 then (if x10 = 0 then (if 5 ≤ (x0.size : Int) then (if x8.toList = (x0.extract 5 x0.size).toList then (bywashlaw7_FrameShort.j2 k (x9 == 5)) else (bywashlaw7_FrameShort.j2 k false)) else (none)) else (bywashlaw7_FrameShort.j2 k false)) else (bywashlaw7_FrameShort.j2 k false))) else (bywashlaw7_FrameShort.j2 k false))
def bywashlaw7_FrameShort.j2 : Nat → Bool → Option (Bool)
  | 0, _ => none
  | k + 1, x4 => some x4
end
def bywashlaw7_FrameShort.f (k : Nat) (a0 : ByteArray) (a1 : Int) : Option (Bool) := if (a0.size : Int) > 200 then (bywashlaw7_FrameShort.j0 k a0 a1 true) else (if a1 < 0 then (bywashlaw7_FrameShort.j0 k a0 a1 true) else (if a1 > 255 then (bywashlaw7_FrameShort.j0 k a0 a1 true) else ((bywashlaw7_alive.f k).bind fun t136 => (bywashlaw7_FrameShort.j0 k a0 a1 (!t136)))))
theorem bywashlaw7_FrameShort.mono_l : ∀ k, (∀ y0 y1 y2, LeO (bywashlaw7_FrameShort.j0 k y0 y1 y2) (bywashlaw7_FrameShort.j0 (k + 1) y0 y1 y2)) ∧ (∀ y0 y1 y2 y3 y4 y5, LeO (bywashlaw7_FrameShort.j1 k y0 y1 y2 y3 y4 y5) (bywashlaw7_FrameShort.j1 (k + 1) y0 y1 y2 y3 y4 y5)) ∧ (∀ y0, LeO (bywashlaw7_FrameShort.j2 k y0) (bywashlaw7_FrameShort.j2 (k + 1) y0))
  | 0 => ⟨fun _ _ _ r h => by simp [bywashlaw7_FrameShort.j0] at h, fun _ _ _ _ _ _ r h => by simp [bywashlaw7_FrameShort.j1] at h, fun _ r h => by simp [bywashlaw7_FrameShort.j2] at h⟩
  | k + 1 => by
    obtain ⟨ih0, ih1, ih2⟩ := bywashlaw7_FrameShort.mono_l k
    refine ⟨?_, ?_, ?_⟩
    · intro y0 y1 y2
      unfold bywashlaw7_FrameShort.j0
      repeat' first
      | (with_reducible exact ih0 _ _ _)
      | (with_reducible exact ih1 _ _ _ _ _ _)
      | (with_reducible exact ih2 _)
      | (with_reducible exact bywashlaw7_alive.mono _)
      | (with_reducible exact frame_Strip.mono _ _ _ _ _)
      | (with_reducible exact LeO.refl _)
      | (with_reducible exact LeO.none _)
      | (with_reducible refine LeO.ite ?_ ?_)
      | (with_reducible refine LeO.bind ?_ (fun _ => ?_))
      | exact ih0 _ _ _
      | exact ih1 _ _ _ _ _ _
      | exact ih2 _
      | exact bywashlaw7_alive.mono _
      | exact frame_Strip.mono _ _ _ _ _
      | exact LeO.none _
      | refine LeO.ite ?_ ?_
      | refine LeO.bind ?_ (fun _ => ?_)
    · intro y0 y1 y2 y3 y4 y5
      unfold bywashlaw7_FrameShort.j1
      repeat' first
      | (with_reducible exact ih0 _ _ _)
      | (with_reducible exact ih1 _ _ _ _ _ _)
      | (with_reducible exact ih2 _)
      | (with_reducible exact bywashlaw7_alive.mono _)
      | (with_reducible exact frame_Strip.mono _ _ _ _ _)
      | (with_reducible exact LeO.refl _)
      | (with_reducible exact LeO.none _)
      | (with_reducible refine LeO.ite ?_ ?_)
      | (with_reducible refine LeO.bind ?_ (fun _ => ?_))
      | exact ih0 _ _ _
      | exact ih1 _ _ _ _ _ _
      | exact ih2 _
      | exact bywashlaw7_alive.mono _
      | exact frame_Strip.mono _ _ _ _ _
      | exact LeO.none _
      | refine LeO.ite ?_ ?_
      | refine LeO.bind ?_ (fun _ => ?_)
    · intro y0
      unfold bywashlaw7_FrameShort.j2
      repeat' first
      | (with_reducible exact ih0 _ _ _)
      | (with_reducible exact ih1 _ _ _ _ _ _)
      | (with_reducible exact ih2 _)
      | (with_reducible exact bywashlaw7_alive.mono _)
      | (with_reducible exact frame_Strip.mono _ _ _ _ _)
      | (with_reducible exact LeO.refl _)
      | (with_reducible exact LeO.none _)
      | (with_reducible refine LeO.ite ?_ ?_)
      | (with_reducible refine LeO.bind ?_ (fun _ => ?_))
      | exact ih0 _ _ _
      | exact ih1 _ _ _ _ _ _
      | exact ih2 _
      | exact bywashlaw7_alive.mono _
      | exact frame_Strip.mono _ _ _ _ _
      | exact LeO.none _
      | refine LeO.ite ?_ ?_
      | refine LeO.bind ?_ (fun _ => ?_)
theorem bywashlaw7_FrameShort.mono : ∀ a0 a1 k, LeO (bywashlaw7_FrameShort.f k a0 a1) (bywashlaw7_FrameShort.f (k + 1) a0 a1) := by
  intro a0 a1 k
  obtain ⟨ih0, ih1, ih2⟩ := bywashlaw7_FrameShort.mono_l k
  unfold bywashlaw7_FrameShort.f
  repeat' first
      | (with_reducible exact ih0 _ _ _)
      | (with_reducible exact ih1 _ _ _ _ _ _)
      | (with_reducible exact ih2 _)
      | (with_reducible exact bywashlaw7_alive.mono _)
      | (with_reducible exact frame_Strip.mono _ _ _ _ _)
      | (with_reducible exact LeO.refl _)
      | (with_reducible exact LeO.none _)
      | (with_reducible refine LeO.ite ?_ ?_)
      | (with_reducible refine LeO.bind ?_ (fun _ => ?_))
      | exact ih0 _ _ _
      | exact ih1 _ _ _ _ _ _
      | exact ih2 _
      | exact bywashlaw7_alive.mono _
      | exact frame_Strip.mono _ _ _ _ _
      | exact LeO.none _
      | refine LeO.ite ?_ ?_
      | refine LeO.bind ?_ (fun _ => ?_)
set_option maxHeartbeats 8000000 in
set_option maxRecDepth 100000 in
theorem bywashlaw7_FrameShort.calls (k : Nat) (a0 : ByteArray) (a1 : Int) (r : Bool) (w : World) (h : bywashlaw7_FrameShort.f k a0 a1 = some r) :
    Calls Try.prog 8 #[.string a0, .int .i64 a1] w fun e w' => e = .returned (.bool r) ∧ Below w.heap.size w w' := by
  have hu23 := Try.underlying23
  have HB := Aside0.mk (Below.refl w.heap.size w)
  have H : (if (a0.size : Int) > 200 then (bywashlaw7_FrameShort.j0 k a0 a1 true) else (if a1 < 0 then (bywashlaw7_FrameShort.j0 k a0 a1 true) else (if a1 > 255 then (bywashlaw7_FrameShort.j0 k a0 a1 true) else ((bywashlaw7_alive.f k).bind fun t136 => (bywashlaw7_FrameShort.j0 k a0 a1 (!t136)))))) = some r := h
  clear h
  have HC3 := Aside0.mk H
  clear H
  go_enter Try.func8, Try.ntmps8
  go_upto_region 1 with (fail)
  go_cut [28] (fun v28 wc => ∃ (kq : Nat) (x28_2 : Bool), v28 = .bool x28_2 ∧ Aside0 (bywashlaw7_FrameShort.j0 kq a0 a1 x28_2 = some r) ∧ Aside0 (kq ≤ k) ∧ Aside0 (Below w.heap.size w wc))
  case first =>
    have H := HC3.out
    clear HC3
    by_cases c4 : (a0.size : Int) > 200
    · rw [if_pos c4] at H
      have c4b0 : decide (200 < (a0.size : Int)) = true := decide_eq_true c4
      have c4b1 : decide (200 < a0.size) = true := decide_eq_true (by omega)
      clear c4
      (first | rw [c4b0] | (simp only [i64_w, i32_w]; rw [c4b0]) | skip)
      have H' := Aside0.mk H
      clear H
      go_wp2
      go_meet
      case rel => exact ⟨_, (true), (by first | rfl | (simp; done) | (simp [*]; done)), H', ⟨by first | omega | exact Nat.le_refl _⟩, ⟨by repeat (first | (with_reducible first | exact HB.out | apply below_alloc | apply pw_below_drewN | apply below_drew1) | exact HB.out)⟩⟩
    · rw [if_neg c4] at H
      have c4b0 : decide (200 < (a0.size : Int)) = false := decide_eq_false c4
      have c4b1 : decide (200 < a0.size) = false := decide_eq_false (by omega)
      clear c4
      (first | rw [c4b0] | (simp only [i64_w, i32_w]; rw [c4b0]) | skip)
      by_cases c5 : a1 < 0
      · rw [if_pos c5] at H
        have c5b0 : decide (a1 < 0) = true := decide_eq_true c5
        clear c5
        have H' := Aside0.mk H
        clear H
        go_wp2
        go_meet
        case rel => exact ⟨_, (true), (by first | rfl | (simp; done) | (simp [*]; done)), H', ⟨by first | omega | exact Nat.le_refl _⟩, ⟨by repeat (first | (with_reducible first | exact HB.out | apply below_alloc | apply pw_below_drewN | apply below_drew1) | exact HB.out)⟩⟩
      · rw [if_neg c5] at H
        have c5b0 : decide (a1 < 0) = false := decide_eq_false c5
        clear c5
        by_cases c6 : a1 > 255
        · rw [if_pos c6] at H
          have c6b0 : decide (255 < a1) = true := decide_eq_true c6
          clear c6
          have H' := Aside0.mk H
          clear H
          go_wp2
          go_meet
          case rel => exact ⟨_, (true), (by first | rfl | (simp; done) | (simp [*]; done)), H', ⟨by first | omega | exact Nat.le_refl _⟩, ⟨by repeat (first | (with_reducible first | exact HB.out | apply below_alloc | apply pw_below_drewN | apply below_drew1) | exact HB.out)⟩⟩
        · rw [if_neg c6] at H
          have c6b0 : decide (255 < a1) = false := decide_eq_false c6
          clear c6
          replace H := Option.bind_eq_some_iff.mp H
          obtain ⟨t136, A70, H⟩ := H
          replace H : (bywashlaw7_FrameShort.j0 k a0 a1 (!t136)) = some r := H
          have A7 := Aside0.mk A70
          clear A70
          have H' := Aside0.mk H
          clear H
          go_wp2_with (first | (go_at_call 9; (with_reducible refine (bywashlaw7_alive.calls k  t136 _ A7.out).mono ?_); rintro e w8 ⟨rfl, hb⟩; have n0_ := Aside0.mk (below_step (by repeat (first | (with_reducible first | exact HB.out | apply below_alloc | apply pw_below_drewN | apply below_drew1) | exact HB.out)) hb); clear HB; have HB := n0_; clear n0_; (try clear hb); (try clear hb2); (try clear hk); (try clear hi)))
          go_meet
          case rel => exact ⟨_, (!t136), (by first | rfl | (simp; done) | (simp [*]; done)), H', ⟨by first | omega | exact Nat.le_refl _⟩, ⟨by repeat (first | (with_reducible first | exact HB.out | apply below_alloc | apply pw_below_drewN | apply below_drew1) | exact HB.out)⟩⟩
  case rest =>
    clear HC3
    try clear p2
    try clear c4
    try clear c4b0
    try clear c4b1
    try clear c5
    try clear c5b0
    try clear c6
    try clear c6b0
    try clear c8
    obtain ⟨kq, x28_2, rfl, HA, HJ2, HB⟩ := hcut
    cases kq with
    | zero => exact absurd HA.out (by simp [bywashlaw7_FrameShort.j0])
    | succ kj2 =>
      have H := HA.out
      clear HA
      simp only [bywashlaw7_FrameShort.j0] at H
      by_cases c9 : x28_2 = true
      · subst c9
        have H1 : ((bywashlaw7_alive.f kj2).bind fun t137 => (some t137)) = some r := by rw [if_pos rfl] at H; exact H
        clear H
        have H := H1
        clear H1
        replace H := Option.bind_eq_some_iff.mp H
        obtain ⟨t137, A100, H⟩ := H
        replace H : (some t137) = some r := H
        have A10 := Aside0.mk A100
        clear A100
        obtain rfl := Option.some.inj H
        go_wp2_with (first | ((with_reducible refine gate_callee (f := 9) rfl ?_); refine goesL_ (some 29) rfl rfl Try.func9 (by kernel_rfl) rfl #[] rfl (by (try simp only [List.map_toArray, List.map_cons, List.map_nil]); first | done | rfl | (simp only [List.length_drop, List.length_take]; rfl)) ?_; (with_reducible refine (bywashlaw7_alive.calls kj2  t137 _ A10.out).mono ?_); rintro e w11 ⟨rfl, hb⟩; refine ⟨_, rfl, ?_⟩; have n0_ := Aside0.mk (below_step (by repeat (first | (with_reducible first | exact HB.out | apply below_alloc | apply pw_below_drewN | apply below_drew1) | exact HB.out)) hb); clear HB; have HB := n0_; clear n0_; (try clear hb); (try clear hb2); (try clear hk); (try clear hi)))
        go_ret
        exact ⟨by first | rfl | (simp [errW_none, errW_some] <;> rfl) | (simp [*, errW_none, errW_some] <;> rfl), by repeat (first | (with_reducible first | exact HB.out | apply below_alloc | apply pw_below_drewN | apply below_drew1) | exact HB.out)⟩
      · replace c9 := Bool.eq_false_iff.mpr c9
        subst c9
        have H1 : ((some (([(a1) % 256] : List Int) : List Int)).bind fun y138 => (if (strOfNums y138).size + a0.size ≤ 9223372036854775807 then ((frame_Strip.f kj2 0 8 1 ((strOfNums y138) ++ a0)).bind fun bt141 => ((frame_Strip.f kj2 1 32 1 a0).bind fun bt144 => ((frame_Strip.f kj2 0 8 1 (⟨#[]⟩ : ByteArray)).bind fun bt147 => (if a1 > (a0.size : Int) then (if bt141.2.2 = 11 then (if bt141.1.toList = ([] : List UInt8) then (if bt141.2.1 = 0 then (if a1 ≤ (a0.size : Int) then (if bt141.2.2 = 0 then (if 0 ≤ (wrap64 ((a0.size : Int) - a1)) then (if (wrap64 ((a0.size : Int) - a1)) ≤ (a0.size : Int) then (if bt141.1.toList = (a0.extract 0 ((wrap64 ((a0.size : Int) - a1)) : Int).toNat).toList then (bywashlaw7_FrameShort.j1 kj2 a0 bt144.1 bt144.2.1 bt144.2.2 bt147.2.2 (bt141.2.1 != (wrap64 (1 + a1)))) else (bywashlaw7_FrameShort.j1 kj2 a0 bt144.1 bt144.2.1 bt144.2.2 bt147.2.2 true)) else (none)) else (none)) else (bywashlaw7_FrameShort.j1 kj2 a0 bt144.1 bt144.2.1 bt144.2.2 bt147.2.2 true)) else (bywashlaw7_FrameShort.j1 kj2 a0 bt144.1 bt144.2.1 bt144.2.2 bt147.2.2 false)) else (bywashlaw7_FrameShort.j1 kj2 a0 bt144.1 bt144.2.1 bt144.2.2 bt147.2.2 true)) else (bywashlaw7_FrameShort.j1 kj2 a0 bt144.1 bt144.2.1 bt144.2.2 bt147.2.2 true)) else (bywashlaw7_FrameShort.j1 kj2 a0 bt144.1 bt144.2.1 bt144.2.2 bt147.2.2 true)) else (if a1 ≤ (a0.size : Int) then (if bt141.2.2 = 0 then (if 0 ≤ (wrap64 ((a0.size : Int) - a1)) then (if (wrap64 ((a0.size : Int) - a1)) ≤ (a0.size : Int) then (if bt141.1.toList = (a0.extract 0 ((wrap64 ((a0.size : Int) - a1)) : Int).toNat).toList then (bywashlaw7_FrameShort.j1 kj2 a0 bt144.1 bt144.2.1 bt144.2.2 bt147.2.2 (bt141.2.1 != (wrap64 (1 + a1)))) else (bywashlaw7_FrameShort.j1 kj2 a0 bt144.1 bt144.2.1 bt144.2.2 bt147.2.2 true)) else (none)) else (none)) else (bywashlaw7_FrameShort.j1 kj2 a0 bt144.1 bt144.2.1 bt144.2.2 bt147.2.2 true)) else (bywashlaw7_FrameShort.j1 kj2 a0 bt144.1 bt144.2.1 bt144.2.2 bt147.2.2 false)))))) else (none))) = some r := by rw [if_neg (show ¬ (false = true) by decide)] at H; exact H
        clear H
        have H := H1
        clear H1
        obtain ⟨y138, hy138⟩ : ∃ y_ : List Int, y_ = (([(a1) % 256] : List Int)) := ⟨_, rfl⟩
        replace H : (if (strOfNums y138).size + a0.size ≤ 9223372036854775807 then ((frame_Strip.f kj2 0 8 1 ((strOfNums y138) ++ a0)).bind fun bt141 => ((frame_Strip.f kj2 1 32 1 a0).bind fun bt144 => ((frame_Strip.f kj2 0 8 1 (⟨#[]⟩ : ByteArray)).bind fun bt147 => (if a1 > (a0.size : Int) then (if bt141.2.2 = 11 then (if bt141.1.toList = ([] : List UInt8) then (if bt141.2.1 = 0 then (if a1 ≤ (a0.size : Int) then (if bt141.2.2 = 0 then (if 0 ≤ (wrap64 ((a0.size : Int) - a1)) then (if (wrap64 ((a0.size : Int) - a1)) ≤ (a0.size : Int) then (if bt141.1.toList = (a0.extract 0 ((wrap64 ((a0.size : Int) - a1)) : Int).toNat).toList then (bywashlaw7_FrameShort.j1 kj2 a0 bt144.1 bt144.2.1 bt144.2.2 bt147.2.2 (bt141.2.1 != (wrap64 (1 + a1)))) else (bywashlaw7_FrameShort.j1 kj2 a0 bt144.1 bt144.2.1 bt144.2.2 bt147.2.2 true)) else (none)) else (none)) else (bywashlaw7_FrameShort.j1 kj2 a0 bt144.1 bt144.2.1 bt144.2.2 bt147.2.2 true)) else (bywashlaw7_FrameShort.j1 kj2 a0 bt144.1 bt144.2.1 bt144.2.2 bt147.2.2 false)) else (bywashlaw7_FrameShort.j1 kj2 a0 bt144.1 bt144.2.1 bt144.2.2 bt147.2.2 true)) else (bywashlaw7_FrameShort.j1 kj2 a0 bt144.1 bt144.2.1 bt144.2.2 bt147.2.2 true)) else (bywashlaw7_FrameShort.j1 kj2 a0 bt144.1 bt144.2.1 bt144.2.2 bt147.2.2 true)) else (if a1 ≤ (a0.size : Int) then (if bt141.2.2 = 0 then (if 0 ≤ (wrap64 ((a0.size : Int) - a1)) then (if (wrap64 ((a0.size : Int) - a1)) ≤ (a0.size : Int) then (if bt141.1.toList = (a0.extract 0 ((wrap64 ((a0.size : Int) - a1)) : Int).toNat).toList then (bywashlaw7_FrameShort.j1 kj2 a0 bt144.1 bt144.2.1 bt144.2.2 bt147.2.2 (bt141.2.1 != (wrap64 (1 + a1)))) else (bywashlaw7_FrameShort.j1 kj2 a0 bt144.1 bt144.2.1 bt144.2.2 bt147.2.2 true)) else (none)) else (none)) else (bywashlaw7_FrameShort.j1 kj2 a0 bt144.1 bt144.2.1 bt144.2.2 bt147.2.2 true)) else (bywashlaw7_FrameShort.j1 kj2 a0 bt144.1 bt144.2.1 bt144.2.2 bt147.2.2 false)))))) else (none)) = some r := by first | (rw [hy138]; with_reducible exact H) | (have H2_ := (Option.bind_some _ _).symm.trans H; rw [hy138]; with_reducible exact H2_) | (have H2_ := (Option.bind_some _ _).symm.trans H; with_reducible exact H2_) | with_reducible exact H | (rw [hy138]; exact H) | exact H
        have Ny138 := Aside0.mk hy138
        clear hy138
        by_cases c12 : (strOfNums y138).size + a0.size ≤ 9223372036854775807
        · rw [if_pos c12] at H
          have c12b0 := eq_true c12
          have c12b1 : decide ((strOfNums y138).size + a0.size ≤ 9223372036854775807) = true := decide_eq_true c12
          try have c12b2 : (9223372036854775807 < (strOfNums y138).size + a0.size) = False := eq_false (Nat.not_lt.2 c12)
          replace H := Option.bind_eq_some_iff.mp H
          obtain ⟨⟨t141, t142, t143⟩, A130, H⟩ := H
          replace H : ((frame_Strip.f kj2 1 32 1 a0).bind fun bt144 => ((frame_Strip.f kj2 0 8 1 (⟨#[]⟩ : ByteArray)).bind fun bt147 => (if a1 > (a0.size : Int) then (if t143 = 11 then (if t141.toList = ([] : List UInt8) then (if t142 = 0 then (if a1 ≤ (a0.size : Int) then (if t143 = 0 then (if 0 ≤ (wrap64 ((a0.size : Int) - a1)) then (if (wrap64 ((a0.size : Int) - a1)) ≤ (a0.size : Int) then (if t141.toList = (a0.extract 0 ((wrap64 ((a0.size : Int) - a1)) : Int).toNat).toList then (bywashlaw7_FrameShort.j1 kj2 a0 bt144.1 bt144.2.1 bt144.2.2 bt147.2.2 (t142 != (wrap64 (1 + a1)))) else (bywashlaw7_FrameShort.j1 kj2 a0 bt144.1 bt144.2.1 bt144.2.2 bt147.2.2 true)) else (none)) else (none)) else (bywashlaw7_FrameShort.j1 kj2 a0 bt144.1 bt144.2.1 bt144.2.2 bt147.2.2 true)) else (bywashlaw7_FrameShort.j1 kj2 a0 bt144.1 bt144.2.1 bt144.2.2 bt147.2.2 false)) else (bywashlaw7_FrameShort.j1 kj2 a0 bt144.1 bt144.2.1 bt144.2.2 bt147.2.2 true)) else (bywashlaw7_FrameShort.j1 kj2 a0 bt144.1 bt144.2.1 bt144.2.2 bt147.2.2 true)) else (bywashlaw7_FrameShort.j1 kj2 a0 bt144.1 bt144.2.1 bt144.2.2 bt147.2.2 true)) else (if a1 ≤ (a0.size : Int) then (if t143 = 0 then (if 0 ≤ (wrap64 ((a0.size : Int) - a1)) then (if (wrap64 ((a0.size : Int) - a1)) ≤ (a0.size : Int) then (if t141.toList = (a0.extract 0 ((wrap64 ((a0.size : Int) - a1)) : Int).toNat).toList then (bywashlaw7_FrameShort.j1 kj2 a0 bt144.1 bt144.2.1 bt144.2.2 bt147.2.2 (t142 != (wrap64 (1 + a1)))) else (bywashlaw7_FrameShort.j1 kj2 a0 bt144.1 bt144.2.1 bt144.2.2 bt147.2.2 true)) else (none)) else (none)) else (bywashlaw7_FrameShort.j1 kj2 a0 bt144.1 bt144.2.1 bt144.2.2 bt147.2.2 true)) else (bywashlaw7_FrameShort.j1 kj2 a0 bt144.1 bt144.2.1 bt144.2.2 bt147.2.2 false))))) = some r := H
          have A13 := Aside0.mk A130
          clear A130
          replace H := Option.bind_eq_some_iff.mp H
          obtain ⟨⟨t144, t145, t146⟩, A140, H⟩ := H
          replace H : ((frame_Strip.f kj2 0 8 1 (⟨#[]⟩ : ByteArray)).bind fun bt147 => (if a1 > (a0.size : Int) then (if t143 = 11 then (if t141.toList = ([] : List UInt8) then (if t142 = 0 then (if a1 ≤ (a0.size : Int) then (if t143 = 0 then (if 0 ≤ (wrap64 ((a0.size : Int) - a1)) then (if (wrap64 ((a0.size : Int) - a1)) ≤ (a0.size : Int) then (if t141.toList = (a0.extract 0 ((wrap64 ((a0.size : Int) - a1)) : Int).toNat).toList then (bywashlaw7_FrameShort.j1 kj2 a0 t144 t145 t146 bt147.2.2 (t142 != (wrap64 (1 + a1)))) else (bywashlaw7_FrameShort.j1 kj2 a0 t144 t145 t146 bt147.2.2 true)) else (none)) else (none)) else (bywashlaw7_FrameShort.j1 kj2 a0 t144 t145 t146 bt147.2.2 true)) else (bywashlaw7_FrameShort.j1 kj2 a0 t144 t145 t146 bt147.2.2 false)) else (bywashlaw7_FrameShort.j1 kj2 a0 t144 t145 t146 bt147.2.2 true)) else (bywashlaw7_FrameShort.j1 kj2 a0 t144 t145 t146 bt147.2.2 true)) else (bywashlaw7_FrameShort.j1 kj2 a0 t144 t145 t146 bt147.2.2 true)) else (if a1 ≤ (a0.size : Int) then (if t143 = 0 then (if 0 ≤ (wrap64 ((a0.size : Int) - a1)) then (if (wrap64 ((a0.size : Int) - a1)) ≤ (a0.size : Int) then (if t141.toList = (a0.extract 0 ((wrap64 ((a0.size : Int) - a1)) : Int).toNat).toList then (bywashlaw7_FrameShort.j1 kj2 a0 t144 t145 t146 bt147.2.2 (t142 != (wrap64 (1 + a1)))) else (bywashlaw7_FrameShort.j1 kj2 a0 t144 t145 t146 bt147.2.2 true)) else (none)) else (none)) else (bywashlaw7_FrameShort.j1 kj2 a0 t144 t145 t146 bt147.2.2 true)) else (bywashlaw7_FrameShort.j1 kj2 a0 t144 t145 t146 bt147.2.2 false)))) = some r := H
          have A14 := Aside0.mk A140
          clear A140
          replace H := Option.bind_eq_some_iff.mp H
          obtain ⟨⟨t147, t148, t149⟩, A150, H⟩ := H
          replace H : (if a1 > (a0.size : Int) then (if t143 = 11 then (if t141.toList = ([] : List UInt8) then (if t142 = 0 then (if a1 ≤ (a0.size : Int) then (if t143 = 0 then (if 0 ≤ (wrap64 ((a0.size : Int) - a1)) then (if (wrap64 ((a0.size : Int) - a1)) ≤ (a0.size : Int) then (if t141.toList = (a0.extract 0 ((wrap64 ((a0.size : Int) - a1)) : Int).toNat).toList then (bywashlaw7_FrameShort.j1 kj2 a0 t144 t145 t146 t149 (t142 != (wrap64 (1 + a1)))) else (bywashlaw7_FrameShort.j1 kj2 a0 t144 t145 t146 t149 true)) else (none)) else (none)) else (bywashlaw7_FrameShort.j1 kj2 a0 t144 t145 t146 t149 true)) else (bywashlaw7_FrameShort.j1 kj2 a0 t144 t145 t146 t149 false)) else (bywashlaw7_FrameShort.j1 kj2 a0 t144 t145 t146 t149 true)) else (bywashlaw7_FrameShort.j1 kj2 a0 t144 t145 t146 t149 true)) else (bywashlaw7_FrameShort.j1 kj2 a0 t144 t145 t146 t149 true)) else (if a1 ≤ (a0.size : Int) then (if t143 = 0 then (if 0 ≤ (wrap64 ((a0.size : Int) - a1)) then (if (wrap64 ((a0.size : Int) - a1)) ≤ (a0.size : Int) then (if t141.toList = (a0.extract 0 ((wrap64 ((a0.size : Int) - a1)) : Int).toNat).toList then (bywashlaw7_FrameShort.j1 kj2 a0 t144 t145 t146 t149 (t142 != (wrap64 (1 + a1)))) else (bywashlaw7_FrameShort.j1 kj2 a0 t144 t145 t146 t149 true)) else (none)) else (none)) else (bywashlaw7_FrameShort.j1 kj2 a0 t144 t145 t146 t149 true)) else (bywashlaw7_FrameShort.j1 kj2 a0 t144 t145 t146 t149 false))) = some r := H
          have A15 := Aside0.mk A150
          clear A150
          have HC16 := Aside0.mk H
          clear H
          go_upto_region 6 with (first | ((with_reducible refine gate_dst (N := 33) rfl ?_); (try (refine gate_guard (by rfl) ?_; dsimp only)); refine Kd.R_lit (Kd.int .u8) _ 5 ?hg (N := 33) ?hd (xs := ([(a1) % 256] : List Int)) (inner := [.int .u8 ((a1) % 256)]) (ok := fun _ => True) (okp := fun _ => True) ?hr ?hp (fun _ hk => hk) trivial (Below.refl _ _) (Nat.le_refl _) (by simp) ?_; (case hd => rfl); (case hg => rfl); (case hr => first | (go_simp; done) | (go_simp; rfl)); (case hp => exact (Reps.one (show Kd.M (Kd.int .u8) _ _ _ ((a1) % 256) [.int .u8 ((a1) % 256)] from rfl) (Reps.none _ _))); intro v139 w17 ho18 hb hg_ hnew_; clear hg_ hnew_; (first | rw [← Ny138.out] at ho18 | (simp only [Int.reduceToNat] at ho18; rw [← Ny138.out] at ho18)); have n0_ := Aside0.mk (Kd.R_lower ho18 (below_size (by repeat (first | (with_reducible first | exact HB.out | apply below_alloc | apply pw_below_drewN | apply below_drew1) | exact HB.out)))); have n1_ := Aside0.mk (below_step (by repeat (first | (with_reducible first | exact HB.out | apply below_alloc | apply pw_below_drewN | apply below_drew1) | exact HB.out)) hb); clear HB; have HO140 := n0_; have HB := n1_; clear n0_ n1_; clear hb ho18; have hcv19 := own_string (P := Try.prog) Try.underlying35 Try.underlying5 Try.underlying9 (Kd.own_of_R HO140.out)) | ((with_reducible refine gate_callee (f := 14) rfl ?_); refine goesL_ (some 38) rfl rfl Try.func14 (by kernel_rfl) rfl #[.agg #[.int .i64 0, .int .i64 8, .int .i64 1, .string ((strOfNums y138) ++ a0)]] rfl (by (try simp only [List.map_toArray, List.map_cons, List.map_nil]); first | done | rfl | (simp only [List.length_drop, List.length_take]; rfl)) ?_; (with_reducible refine (frame_Strip.calls kj2 0 8 1 ((strOfNums y138) ++ a0) t141 t142 t143 _ A13.out).mono ?_); rintro e w20 ⟨rfl, hb⟩; refine ⟨_, rfl, ?_⟩; have n0_ := Aside0.mk (Kd.R_below (by (with_reducible repeat (first | apply Kd.R_alloc | apply Kd.R_drewN | apply Kd.R_drew)); exact HO140.out) hb); have n1_ := Aside0.mk (below_step (by repeat (first | (with_reducible first | exact HB.out | apply below_alloc | apply pw_below_drewN | apply below_drew1) | exact HB.out)) hb); clear HO140; clear HB; have HO140 := n0_; have HB := n1_; clear n0_ n1_; (try clear hb); (try clear hb2); (try clear hk); (try clear hi)) | ((with_reducible refine gate_callee (f := 14) rfl ?_); refine goesL_ (some 45) rfl rfl Try.func14 (by kernel_rfl) rfl #[.agg #[.int .i64 1, .int .i64 32, .int .i64 1, .string a0]] rfl (by (try simp only [List.map_toArray, List.map_cons, List.map_nil]); first | done | rfl | (simp only [List.length_drop, List.length_take]; rfl)) ?_; (with_reducible refine (frame_Strip.calls kj2 1 32 1 a0 t144 t145 t146 _ A14.out).mono ?_); rintro e w21 ⟨rfl, hb⟩; refine ⟨_, rfl, ?_⟩; have n0_ := Aside0.mk (Kd.R_below (by (with_reducible repeat (first | apply Kd.R_alloc | apply Kd.R_drewN | apply Kd.R_drew)); exact HO140.out) hb); have n1_ := Aside0.mk (below_step (by repeat (first | (with_reducible first | exact HB.out | apply below_alloc | apply pw_below_drewN | apply below_drew1) | exact HB.out)) hb); clear HO140; clear HB; have HO140 := n0_; have HB := n1_; clear n0_ n1_; (try clear hb); (try clear hb2); (try clear hk); (try clear hi)) | ((with_reducible refine gate_callee (f := 14) rfl ?_); refine goesL_ (some 51) rfl rfl Try.func14 (by kernel_rfl) rfl #[.agg #[.int .i64 0, .int .i64 8, .int .i64 1, .string (⟨#[]⟩ : ByteArray)]] rfl (by (try simp only [List.map_toArray, List.map_cons, List.map_nil]); first | done | rfl | (simp only [List.length_drop, List.length_take]; rfl)) ?_; (with_reducible refine (frame_Strip.calls kj2 0 8 1 (⟨#[]⟩ : ByteArray) t147 t148 t149 _ A15.out).mono ?_); rintro e w22 ⟨rfl, hb⟩; refine ⟨_, rfl, ?_⟩; have n0_ := Aside0.mk (Kd.R_below (by (with_reducible repeat (first | apply Kd.R_alloc | apply Kd.R_drewN | apply Kd.R_drew)); exact HO140.out) hb); have n1_ := Aside0.mk (below_step (by repeat (first | (with_reducible first | exact HB.out | apply below_alloc | apply pw_below_drewN | apply below_drew1) | exact HB.out)) hb); clear HO140; clear HB; have HO140 := n0_; have HB := n1_; clear n0_ n1_; (try clear hb); (try clear hb2); (try clear hk); (try clear hi)))
          (try simp only [Act.put, List.setIfInBounds_toArray, List.set_cons_zero, List.set_cons_succ])
          go_cut [96] (fun v96 wc => ∃ (kq : Nat) (x96_15 : Bool), v96 = .bool x96_15 ∧ Aside0 (bywashlaw7_FrameShort.j1 kq a0 t144 t145 t146 t149 x96_15 = some r) ∧ Aside0 (kq ≤ kj2) ∧ Aside0 (Below w.heap.size w wc))
          case first =>
            have H := HC16.out
            clear HC16
            by_cases c23 : a1 > (a0.size : Int)
            · rw [if_pos c23] at H
              have c23b0 : decide ((a0.size : Int) < a1) = true := decide_eq_true c23
              clear c23
              (first | rw [c23b0] | (simp only [i64_w, i32_w]; rw [c23b0]) | skip)
              by_cases c24 : t143 = 11
              · rw [if_pos c24] at H
                have c24b0 : (t143 == 11) = true := beq_iff_eq.mpr c24
                have c24b1 : (t143 != 11) = false := bne_eq_false_iff_eq.mpr c24
                clear c24
                by_cases c25 : t141.toList = ([] : List UInt8)
                · rw [if_pos c25] at H
                  have c25b0 : (t141.toList == ([] : List UInt8)) = true := beq_iff_eq.mpr c25
                  have c25b1 : (t141.toList != ([] : List UInt8)) = false := bne_eq_false_iff_eq.mpr c25
                  clear c25
                  by_cases c26 : t142 = 0
                  · rw [if_pos c26] at H
                    have c26b0 : (t142 == 0) = true := beq_iff_eq.mpr c26
                    have c26b1 : (t142 != 0) = false := bne_eq_false_iff_eq.mpr c26
                    clear c26
                    by_cases c27 : a1 ≤ (a0.size : Int)
                    · rw [if_pos c27] at H
                      have c27b0 : decide (a1 ≤ (a0.size : Int)) = true := decide_eq_true c27
                      clear c27
                      by_cases c28 : t143 = 0
                      · rw [if_pos c28] at H
                        have c28b0 : (t143 == 0) = true := beq_iff_eq.mpr c28
                        have c28b1 : (t143 != 0) = false := bne_eq_false_iff_eq.mpr c28
                        clear c28
                        obtain ⟨ji29, hji29⟩ : ∃ j_ : Int, (wrap64 ((a0.size : Int) - a1)) = j_ := ⟨_, rfl⟩
                        replace H : (if 0 ≤ (ji29) then (if (ji29) ≤ (a0.size : Int) then (if t141.toList = (a0.extract 0 ((ji29) : Int).toNat).toList then (bywashlaw7_FrameShort.j1 kj2 a0 t144 t145 t146 t149 (t142 != (wrap64 (1 + a1)))) else (bywashlaw7_FrameShort.j1 kj2 a0 t144 t145 t146 t149 true)) else (none)) else (none)) = some r := by first | (rw [hji29] at H; exact H) | (simp only [hji29] at H ⊢; exact H)
                        have hji29w : (IntKind.i64.wrap ((a0.size : Int) - a1)) = ji29 := (i64_w _).trans hji29
                        by_cases c30 : 0 ≤ (ji29)
                        · rw [if_pos c30] at H
                          have c30b0 := eq_true c30
                          have c30b1 : decide (0 ≤ (ji29)) = true := decide_eq_true c30
                          clear c30
                          by_cases c31 : (ji29) ≤ (a0.size : Int)
                          · rw [if_pos c31] at H
                            have c31b0 := eq_true c31
                            have c31b1 : decide ((ji29) ≤ (a0.size : Int)) = true := decide_eq_true c31
                            clear c31
                            by_cases c32 : t141.toList = (a0.extract 0 ((ji29) : Int).toNat).toList
                            · rw [if_pos c32] at H
                              have c32b0 : (t141.toList == (a0.extract 0 ((ji29) : Int).toNat).toList) = true := beq_iff_eq.mpr c32
                              have c32b1 : (t141.toList != (a0.extract 0 ((ji29) : Int).toNat).toList) = false := bne_eq_false_iff_eq.mpr c32
                              clear c32
                              have H' := Aside0.mk H
                              clear H
                              go_wp2
                              go_meet
                              case rel => exact ⟨_, ((t142 != (wrap64 (1 + a1)))), (by first | rfl | (simp; done) | (simp [*]; done)), H', ⟨by have := HJ2.out; first | omega | exact Nat.le_refl _⟩, ⟨by repeat (first | (with_reducible first | exact HB.out | apply below_alloc | apply pw_below_drewN | apply below_drew1) | exact HB.out)⟩⟩
                            · rw [if_neg c32] at H
                              have c32b0 : (t141.toList == (a0.extract 0 ((ji29) : Int).toNat).toList) = false := beq_eq_false_iff_ne.mpr c32
                              have c32b1 : (t141.toList != (a0.extract 0 ((ji29) : Int).toNat).toList) = true := bne_iff_ne.mpr c32
                              have H' := Aside0.mk H
                              clear H
                              go_wp2
                              go_meet
                              case rel => exact ⟨_, (true), (by first | rfl | (simp; done) | (simp [*]; done)), H', ⟨by have := HJ2.out; first | omega | exact Nat.le_refl _⟩, ⟨by repeat (first | (with_reducible first | exact HB.out | apply below_alloc | apply pw_below_drewN | apply below_drew1) | exact HB.out)⟩⟩
                          · rw [if_neg c31] at H
                            exact absurd H (by simp)
                        · rw [if_neg c30] at H
                          exact absurd H (by simp)
                      · rw [if_neg c28] at H
                        have c28b0 : (t143 == 0) = false := beq_eq_false_iff_ne.mpr c28
                        have c28b1 : (t143 != 0) = true := bne_iff_ne.mpr c28
                        have H' := Aside0.mk H
                        clear H
                        go_wp2
                        go_meet
                        case rel => exact ⟨_, (true), (by first | rfl | (simp; done) | (simp [*]; done)), H', ⟨by have := HJ2.out; first | omega | exact Nat.le_refl _⟩, ⟨by repeat (first | (with_reducible first | exact HB.out | apply below_alloc | apply pw_below_drewN | apply below_drew1) | exact HB.out)⟩⟩
                    · rw [if_neg c27] at H
                      have c27b0 : decide (a1 ≤ (a0.size : Int)) = false := decide_eq_false c27
                      clear c27
                      have H' := Aside0.mk H
                      clear H
                      go_wp2
                      go_meet
                      case rel => exact ⟨_, (false), (by first | rfl | (simp; done) | (simp [*]; done)), H', ⟨by have := HJ2.out; first | omega | exact Nat.le_refl _⟩, ⟨by repeat (first | (with_reducible first | exact HB.out | apply below_alloc | apply pw_below_drewN | apply below_drew1) | exact HB.out)⟩⟩
                  · rw [if_neg c26] at H
                    have c26b0 : (t142 == 0) = false := beq_eq_false_iff_ne.mpr c26
                    have c26b1 : (t142 != 0) = true := bne_iff_ne.mpr c26
                    have H' := Aside0.mk H
                    clear H
                    go_wp2
                    go_meet
                    case rel => exact ⟨_, (true), (by first | rfl | (simp; done) | (simp [*]; done)), H', ⟨by have := HJ2.out; first | omega | exact Nat.le_refl _⟩, ⟨by repeat (first | (with_reducible first | exact HB.out | apply below_alloc | apply pw_below_drewN | apply below_drew1) | exact HB.out)⟩⟩
                · rw [if_neg c25] at H
                  have c25b0 : (t141.toList == ([] : List UInt8)) = false := beq_eq_false_iff_ne.mpr c25
                  have c25b1 : (t141.toList != ([] : List UInt8)) = true := bne_iff_ne.mpr c25
                  have H' := Aside0.mk H
                  clear H
                  go_wp2
                  go_meet
                  case rel => exact ⟨_, (true), (by first | rfl | (simp; done) | (simp [*]; done)), H', ⟨by have := HJ2.out; first | omega | exact Nat.le_refl _⟩, ⟨by repeat (first | (with_reducible first | exact HB.out | apply below_alloc | apply pw_below_drewN | apply below_drew1) | exact HB.out)⟩⟩
              · rw [if_neg c24] at H
                have c24b0 : (t143 == 11) = false := beq_eq_false_iff_ne.mpr c24
                have c24b1 : (t143 != 11) = true := bne_iff_ne.mpr c24
                have H' := Aside0.mk H
                clear H
                go_wp2
                go_meet
                case rel => exact ⟨_, (true), (by first | rfl | (simp; done) | (simp [*]; done)), H', ⟨by have := HJ2.out; first | omega | exact Nat.le_refl _⟩, ⟨by repeat (first | (with_reducible first | exact HB.out | apply below_alloc | apply pw_below_drewN | apply below_drew1) | exact HB.out)⟩⟩
            · rw [if_neg c23] at H
              have c23b0 : decide ((a0.size : Int) < a1) = false := decide_eq_false c23
              clear c23
              (first | rw [c23b0] | (simp only [i64_w, i32_w]; rw [c23b0]) | skip)
              by_cases c33 : a1 ≤ (a0.size : Int)
              · rw [if_pos c33] at H
                have c33b0 : decide (a1 ≤ (a0.size : Int)) = true := decide_eq_true c33
                clear c33
                by_cases c34 : t143 = 0
                · rw [if_pos c34] at H
                  have c34b0 : (t143 == 0) = true := beq_iff_eq.mpr c34
                  have c34b1 : (t143 != 0) = false := bne_eq_false_iff_eq.mpr c34
                  clear c34
                  obtain ⟨ji35, hji35⟩ : ∃ j_ : Int, (wrap64 ((a0.size : Int) - a1)) = j_ := ⟨_, rfl⟩
                  replace H : (if 0 ≤ (ji35) then (if (ji35) ≤ (a0.size : Int) then (if t141.toList = (a0.extract 0 ((ji35) : Int).toNat).toList then (bywashlaw7_FrameShort.j1 kj2 a0 t144 t145 t146 t149 (t142 != (wrap64 (1 + a1)))) else (bywashlaw7_FrameShort.j1 kj2 a0 t144 t145 t146 t149 true)) else (none)) else (none)) = some r := by first | (rw [hji35] at H; exact H) | (simp only [hji35] at H ⊢; exact H)
                  have hji35w : (IntKind.i64.wrap ((a0.size : Int) - a1)) = ji35 := (i64_w _).trans hji35
                  by_cases c36 : 0 ≤ (ji35)
                  · rw [if_pos c36] at H
                    have c36b0 := eq_true c36
                    have c36b1 : decide (0 ≤ (ji35)) = true := decide_eq_true c36
                    clear c36
                    by_cases c37 : (ji35) ≤ (a0.size : Int)
                    · rw [if_pos c37] at H
                      have c37b0 := eq_true c37
                      have c37b1 : decide ((ji35) ≤ (a0.size : Int)) = true := decide_eq_true c37
                      clear c37
                      by_cases c38 : t141.toList = (a0.extract 0 ((ji35) : Int).toNat).toList
                      · rw [if_pos c38] at H
                        have c38b0 : (t141.toList == (a0.extract 0 ((ji35) : Int).toNat).toList) = true := beq_iff_eq.mpr c38
                        have c38b1 : (t141.toList != (a0.extract 0 ((ji35) : Int).toNat).toList) = false := bne_eq_false_iff_eq.mpr c38
                        clear c38
                        have H' := Aside0.mk H
                        clear H
                        go_wp2
                        go_meet
                        case rel => exact ⟨_, ((t142 != (wrap64 (1 + a1)))), (by first | rfl | (simp; done) | (simp [*]; done)), H', ⟨by have := HJ2.out; first | omega | exact Nat.le_refl _⟩, ⟨by repeat (first | (with_reducible first | exact HB.out | apply below_alloc | apply pw_below_drewN | apply below_drew1) | exact HB.out)⟩⟩
                      · rw [if_neg c38] at H
                        have c38b0 : (t141.toList == (a0.extract 0 ((ji35) : Int).toNat).toList) = false := beq_eq_false_iff_ne.mpr c38
                        have c38b1 : (t141.toList != (a0.extract 0 ((ji35) : Int).toNat).toList) = true := bne_iff_ne.mpr c38
                        have H' := Aside0.mk H
                        clear H
                        go_wp2
                        go_meet
                        case rel => exact ⟨_, (true), (by first | rfl | (simp; done) | (simp [*]; done)), H', ⟨by have := HJ2.out; first | omega | exact Nat.le_refl _⟩, ⟨by repeat (first | (with_reducible first | exact HB.out | apply below_alloc | apply pw_below_drewN | apply below_drew1) | exact HB.out)⟩⟩
                    · rw [if_neg c37] at H
                      exact absurd H (by simp)
                  · rw [if_neg c36] at H
                    exact absurd H (by simp)
                · rw [if_neg c34] at H
                  have c34b0 : (t143 == 0) = false := beq_eq_false_iff_ne.mpr c34
                  have c34b1 : (t143 != 0) = true := bne_iff_ne.mpr c34
                  have H' := Aside0.mk H
                  clear H
                  go_wp2
                  go_meet
                  case rel => exact ⟨_, (true), (by first | rfl | (simp; done) | (simp [*]; done)), H', ⟨by have := HJ2.out; first | omega | exact Nat.le_refl _⟩, ⟨by repeat (first | (with_reducible first | exact HB.out | apply below_alloc | apply pw_below_drewN | apply below_drew1) | exact HB.out)⟩⟩
              · rw [if_neg c33] at H
                have c33b0 : decide (a1 ≤ (a0.size : Int)) = false := decide_eq_false c33
                clear c33
                have H' := Aside0.mk H
                clear H
                go_wp2
                go_meet
                case rel => exact ⟨_, (false), (by first | rfl | (simp; done) | (simp [*]; done)), H', ⟨by have := HJ2.out; first | omega | exact Nat.le_refl _⟩, ⟨by repeat (first | (with_reducible first | exact HB.out | apply below_alloc | apply pw_below_drewN | apply below_drew1) | exact HB.out)⟩⟩
          case rest =>
            clear HC16
            try clear c1
            try clear hcv1
            try clear c2
            try clear p2
            try clear c3
            try clear c4
            try clear c4b0
            try clear c4b1
            try clear c5
            try clear c5b0
            try clear c6
            try clear c6b0
            try clear p6
            try clear c8
            try clear c9
            try clear c12
            try clear c12b0
            try clear c12b1
            try clear c12b2
            try clear c14
            try clear hcv19
            try clear c23
            try clear c23b0
            try clear c24
            try clear c24b0
            try clear c24b1
            try clear c25
            try clear c25b0
            try clear c25b1
            try clear c26
            try clear c26b0
            try clear c26b1
            try clear c27
            try clear c27b0
            try clear c28
            try clear c28b0
            try clear c28b1
            try clear c30
            try clear c30b0
            try clear c30b1
            try clear c31
            try clear c31b0
            try clear c31b1
            try clear c32
            try clear c32b0
            try clear c32b1
            try clear c33
            try clear c33b0
            try clear c34
            try clear c34b0
            try clear c34b1
            try clear c36
            try clear c36b0
            try clear c36b1
            try clear c37
            try clear c37b0
            try clear c37b1
            try clear c38
            try clear c38b0
            try clear c38b1
            try clear p2
            obtain ⟨kq, x96_15, rfl, HA, HJ15, HB⟩ := hcut
            cases kq with
            | zero => exact absurd HA.out (by simp [bywashlaw7_FrameShort.j1])
            | succ kj15 =>
              have H := HA.out
              clear HA
              simp only [bywashlaw7_FrameShort.j1] at H
              by_cases c39 : x96_15 = true
              · subst c39
                have H1 : (some false) = some r := by rw [if_pos rfl] at H; exact H
                clear H
                have H := H1
                clear H1
                obtain rfl := Option.some.inj H
                go_wp2
                go_ret
                exact ⟨by first | rfl | (simp [errW_none, errW_some] <;> rfl) | (simp [*, errW_none, errW_some] <;> rfl), by repeat (first | (with_reducible first | exact HB.out | apply below_alloc | apply pw_below_drewN | apply below_drew1) | exact HB.out)⟩
              · replace c39 := Bool.eq_false_iff.mpr c39
                subst c39
                have H1 : (if t149 = 11 then (if (a0.size : Int) < 5 then (if t146 = 5 then (if t144.toList = ([] : List UInt8) then (if t145 = 0 then (bywashlaw7_FrameShort.j2 kj15 true) else (if (a0.size : Int) ≥ 5 then (if t146 = 0 then (if 5 ≤ (a0.size : Int) then (if t144.toList = (a0.extract 5 a0.size).toList then (bywashlaw7_FrameShort.j2 kj15 (t145 == 5)) else (bywashlaw7_FrameShort.j2 kj15 false)) else (none)) else (bywashlaw7_FrameShort.j2 kj15 false)) else (bywashlaw7_FrameShort.j2 kj15 false))) else (if (a0.size : Int) ≥ 5 then (if t146 = 0 then (if 5 ≤ (a0.size : Int) then (if t144.toList = (a0.extract 5 a0.size).toList then (bywashlaw7_FrameShort.j2 kj15 (t145 == 5)) else (bywashlaw7_FrameShort.j2 kj15 false)) else (none)) else (bywashlaw7_FrameShort.j2 kj15 false)) else (bywashlaw7_FrameShort.j2 kj15 false))) else (if (a0.size : Int) ≥ 5 then (if t146 = 0 then (if 5 ≤ (a0.size : Int) then (if t144.toList = (a0.extract 5 a0.size).toList then (bywashlaw7_FrameShort.j2 kj15 (t145 == 5)) else (bywashlaw7_FrameShort.j2 kj15 false)) else (none)) else (bywashlaw7_FrameShort.j2 kj15 false)) else (bywashlaw7_FrameShort.j2 kj15 false))) else (if (a0.size : Int) ≥ 5 then (if t146 = 0 then (if 5 ≤ (a0.size : Int) then (if t144.toList = (a0.extract 5 a0.size).toList then (bywashlaw7_FrameShort.j2 kj15 (t145 == 5)) else (bywashlaw7_FrameShort.j2 kj15 false)) else (none)) else (bywashlaw7_FrameShort.j2 kj15 false)) else (bywashlaw7_FrameShort.j2 kj15 false))) else (bywashlaw7_FrameShort.j2 kj15 false)) = some r := by rw [if_neg (show ¬ (false = true) by decide)] at H; exact H
                clear H
                have H := H1
                clear H1
                have HC40 := Aside0.mk H
                clear H
                go_upto_region 8 with (fail)
                go_cut [4] (fun v4 wc => ∃ (kq : Nat) (x4_39 : Bool), v4 = .bool x4_39 ∧ Aside0 (bywashlaw7_FrameShort.j2 kq x4_39 = some r) ∧ Aside0 (kq ≤ kj15) ∧ Aside0 (Below w.heap.size w wc))
                case first =>
                  have H := HC40.out
                  clear HC40
                  by_cases c41 : t149 = 11
                  · rw [if_pos c41] at H
                    have c41b0 : (t149 == 11) = true := beq_iff_eq.mpr c41
                    have c41b1 : (t149 != 11) = false := bne_eq_false_iff_eq.mpr c41
                    clear c41
                    (first | rw [c41b0] | (simp only [i64_w, i32_w]; rw [c41b0]) | skip)
                    by_cases c42 : (a0.size : Int) < 5
                    · rw [if_pos c42] at H
                      have c42b0 : decide ((a0.size : Int) < 5) = true := decide_eq_true c42
                      have c42b1 : decide (a0.size < 5) = true := decide_eq_true (by omega)
                      clear c42
                      by_cases c43 : t146 = 5
                      · rw [if_pos c43] at H
                        have c43b0 : (t146 == 5) = true := beq_iff_eq.mpr c43
                        have c43b1 : (t146 != 5) = false := bne_eq_false_iff_eq.mpr c43
                        clear c43
                        by_cases c44 : t144.toList = ([] : List UInt8)
                        · rw [if_pos c44] at H
                          have c44b0 : (t144.toList == ([] : List UInt8)) = true := beq_iff_eq.mpr c44
                          have c44b1 : (t144.toList != ([] : List UInt8)) = false := bne_eq_false_iff_eq.mpr c44
                          clear c44
                          by_cases c45 : t145 = 0
                          · rw [if_pos c45] at H
                            have c45b0 : (t145 == 0) = true := beq_iff_eq.mpr c45
                            have c45b1 : (t145 != 0) = false := bne_eq_false_iff_eq.mpr c45
                            clear c45
                            have H' := Aside0.mk H
                            clear H
                            go_wp2
                            go_meet
                            case rel => exact ⟨_, (true), (by first | rfl | (simp; done) | (simp [*]; done)), H', ⟨by have := HJ2.out; have := HJ15.out; first | omega | exact Nat.le_refl _⟩, ⟨by repeat (first | (with_reducible first | exact HB.out | apply below_alloc | apply pw_below_drewN | apply below_drew1) | exact HB.out)⟩⟩
                          · rw [if_neg c45] at H
                            have c45b0 : (t145 == 0) = false := beq_eq_false_iff_ne.mpr c45
                            have c45b1 : (t145 != 0) = true := bne_iff_ne.mpr c45
                            by_cases c46 : (a0.size : Int) ≥ 5
                            · rw [if_pos c46] at H
                              have c46b0 : decide (5 ≤ (a0.size : Int)) = true := decide_eq_true c46
                              have c46b1 : decide (5 ≤ a0.size) = true := decide_eq_true (by omega)
                              clear c46
                              by_cases c47 : t146 = 0
                              · rw [if_pos c47] at H
                                have c47b0 : (t146 == 0) = true := beq_iff_eq.mpr c47
                                have c47b1 : (t146 != 0) = false := bne_eq_false_iff_eq.mpr c47
                                clear c47
                                by_cases c48 : 5 ≤ (a0.size : Int)
                                · rw [if_pos c48] at H
                                  have c48b0 := eq_true c48
                                  have c48b1 : decide (5 ≤ (a0.size : Int)) = true := decide_eq_true c48
                                  clear c48
                                  by_cases c49 : t144.toList = (a0.extract 5 a0.size).toList
                                  · rw [if_pos c49] at H
                                    have c49b0 : (t144.toList == (a0.extract 5 a0.size).toList) = true := beq_iff_eq.mpr c49
                                    have c49b1 : (t144.toList != (a0.extract 5 a0.size).toList) = false := bne_eq_false_iff_eq.mpr c49
                                    clear c49
                                    have H' := Aside0.mk H
                                    clear H
                                    go_wp2
                                    go_meet
                                    case rel => exact ⟨_, ((t145 == 5)), (by first | rfl | (simp; done) | (simp [*]; done)), H', ⟨by have := HJ2.out; have := HJ15.out; first | omega | exact Nat.le_refl _⟩, ⟨by repeat (first | (with_reducible first | exact HB.out | apply below_alloc | apply pw_below_drewN | apply below_drew1) | exact HB.out)⟩⟩
                                  · rw [if_neg c49] at H
                                    have c49b0 : (t144.toList == (a0.extract 5 a0.size).toList) = false := beq_eq_false_iff_ne.mpr c49
                                    have c49b1 : (t144.toList != (a0.extract 5 a0.size).toList) = true := bne_iff_ne.mpr c49
                                    have H' := Aside0.mk H
                                    clear H
                                    go_wp2
                                    go_meet
                                    case rel => exact ⟨_, (false), (by first | rfl | (simp; done) | (simp [*]; done)), H', ⟨by have := HJ2.out; have := HJ15.out; first | omega | exact Nat.le_refl _⟩, ⟨by repeat (first | (with_reducible first | exact HB.out | apply below_alloc | apply pw_below_drewN | apply below_drew1) | exact HB.out)⟩⟩
                                · rw [if_neg c48] at H
                                  exact absurd H (by simp)
                              · rw [if_neg c47] at H
                                have c47b0 : (t146 == 0) = false := beq_eq_false_iff_ne.mpr c47
                                have c47b1 : (t146 != 0) = true := bne_iff_ne.mpr c47
                                have H' := Aside0.mk H
                                clear H
                                go_wp2
                                go_meet
                                case rel => exact ⟨_, (false), (by first | rfl | (simp; done) | (simp [*]; done)), H', ⟨by have := HJ2.out; have := HJ15.out; first | omega | exact Nat.le_refl _⟩, ⟨by repeat (first | (with_reducible first | exact HB.out | apply below_alloc | apply pw_below_drewN | apply below_drew1) | exact HB.out)⟩⟩
                            · rw [if_neg c46] at H
                              have c46b0 : decide (5 ≤ (a0.size : Int)) = false := decide_eq_false c46
                              have c46b1 : decide (5 ≤ a0.size) = false := decide_eq_false (by omega)
                              clear c46
                              have H' := Aside0.mk H
                              clear H
                              go_wp2
                              go_meet
                              case rel => exact ⟨_, (false), (by first | rfl | (simp; done) | (simp [*]; done)), H', ⟨by have := HJ2.out; have := HJ15.out; first | omega | exact Nat.le_refl _⟩, ⟨by repeat (first | (with_reducible first | exact HB.out | apply below_alloc | apply pw_below_drewN | apply below_drew1) | exact HB.out)⟩⟩
                        · rw [if_neg c44] at H
                          have c44b0 : (t144.toList == ([] : List UInt8)) = false := beq_eq_false_iff_ne.mpr c44
                          have c44b1 : (t144.toList != ([] : List UInt8)) = true := bne_iff_ne.mpr c44
                          by_cases c50 : (a0.size : Int) ≥ 5
                          · rw [if_pos c50] at H
                            have c50b0 : decide (5 ≤ (a0.size : Int)) = true := decide_eq_true c50
                            have c50b1 : decide (5 ≤ a0.size) = true := decide_eq_true (by omega)
                            clear c50
                            by_cases c51 : t146 = 0
                            · rw [if_pos c51] at H
                              have c51b0 : (t146 == 0) = true := beq_iff_eq.mpr c51
                              have c51b1 : (t146 != 0) = false := bne_eq_false_iff_eq.mpr c51
                              clear c51
                              by_cases c52 : 5 ≤ (a0.size : Int)
                              · rw [if_pos c52] at H
                                have c52b0 := eq_true c52
                                have c52b1 : decide (5 ≤ (a0.size : Int)) = true := decide_eq_true c52
                                clear c52
                                by_cases c53 : t144.toList = (a0.extract 5 a0.size).toList
                                · rw [if_pos c53] at H
                                  have c53b0 : (t144.toList == (a0.extract 5 a0.size).toList) = true := beq_iff_eq.mpr c53
                                  have c53b1 : (t144.toList != (a0.extract 5 a0.size).toList) = false := bne_eq_false_iff_eq.mpr c53
                                  clear c53
                                  have H' := Aside0.mk H
                                  clear H
                                  go_wp2
                                  go_meet
                                  case rel => exact ⟨_, ((t145 == 5)), (by first | rfl | (simp; done) | (simp [*]; done)), H', ⟨by have := HJ2.out; have := HJ15.out; first | omega | exact Nat.le_refl _⟩, ⟨by repeat (first | (with_reducible first | exact HB.out | apply below_alloc | apply pw_below_drewN | apply below_drew1) | exact HB.out)⟩⟩
                                · rw [if_neg c53] at H
                                  have c53b0 : (t144.toList == (a0.extract 5 a0.size).toList) = false := beq_eq_false_iff_ne.mpr c53
                                  have c53b1 : (t144.toList != (a0.extract 5 a0.size).toList) = true := bne_iff_ne.mpr c53
                                  have H' := Aside0.mk H
                                  clear H
                                  go_wp2
                                  go_meet
                                  case rel => exact ⟨_, (false), (by first | rfl | (simp; done) | (simp [*]; done)), H', ⟨by have := HJ2.out; have := HJ15.out; first | omega | exact Nat.le_refl _⟩, ⟨by repeat (first | (with_reducible first | exact HB.out | apply below_alloc | apply pw_below_drewN | apply below_drew1) | exact HB.out)⟩⟩
                              · rw [if_neg c52] at H
                                exact absurd H (by simp)
                            · rw [if_neg c51] at H
                              have c51b0 : (t146 == 0) = false := beq_eq_false_iff_ne.mpr c51
                              have c51b1 : (t146 != 0) = true := bne_iff_ne.mpr c51
                              have H' := Aside0.mk H
                              clear H
                              go_wp2
                              go_meet
                              case rel => exact ⟨_, (false), (by first | rfl | (simp; done) | (simp [*]; done)), H', ⟨by have := HJ2.out; have := HJ15.out; first | omega | exact Nat.le_refl _⟩, ⟨by repeat (first | (with_reducible first | exact HB.out | apply below_alloc | apply pw_below_drewN | apply below_drew1) | exact HB.out)⟩⟩
                          · rw [if_neg c50] at H
                            have c50b0 : decide (5 ≤ (a0.size : Int)) = false := decide_eq_false c50
                            have c50b1 : decide (5 ≤ a0.size) = false := decide_eq_false (by omega)
                            clear c50
                            have H' := Aside0.mk H
                            clear H
                            go_wp2
                            go_meet
                            case rel => exact ⟨_, (false), (by first | rfl | (simp; done) | (simp [*]; done)), H', ⟨by have := HJ2.out; have := HJ15.out; first | omega | exact Nat.le_refl _⟩, ⟨by repeat (first | (with_reducible first | exact HB.out | apply below_alloc | apply pw_below_drewN | apply below_drew1) | exact HB.out)⟩⟩
                      · rw [if_neg c43] at H
                        have c43b0 : (t146 == 5) = false := beq_eq_false_iff_ne.mpr c43
                        have c43b1 : (t146 != 5) = true := bne_iff_ne.mpr c43
                        by_cases c54 : (a0.size : Int) ≥ 5
                        · rw [if_pos c54] at H
                          have c54b0 : decide (5 ≤ (a0.size : Int)) = true := decide_eq_true c54
                          have c54b1 : decide (5 ≤ a0.size) = true := decide_eq_true (by omega)
                          clear c54
                          by_cases c55 : t146 = 0
                          · rw [if_pos c55] at H
                            have c55b0 : (t146 == 0) = true := beq_iff_eq.mpr c55
                            have c55b1 : (t146 != 0) = false := bne_eq_false_iff_eq.mpr c55
                            clear c55
                            by_cases c56 : 5 ≤ (a0.size : Int)
                            · rw [if_pos c56] at H
                              have c56b0 := eq_true c56
                              have c56b1 : decide (5 ≤ (a0.size : Int)) = true := decide_eq_true c56
                              clear c56
                              by_cases c57 : t144.toList = (a0.extract 5 a0.size).toList
                              · rw [if_pos c57] at H
                                have c57b0 : (t144.toList == (a0.extract 5 a0.size).toList) = true := beq_iff_eq.mpr c57
                                have c57b1 : (t144.toList != (a0.extract 5 a0.size).toList) = false := bne_eq_false_iff_eq.mpr c57
                                clear c57
                                have H' := Aside0.mk H
                                clear H
                                go_wp2
                                go_meet
                                case rel => exact ⟨_, ((t145 == 5)), (by first | rfl | (simp; done) | (simp [*]; done)), H', ⟨by have := HJ2.out; have := HJ15.out; first | omega | exact Nat.le_refl _⟩, ⟨by repeat (first | (with_reducible first | exact HB.out | apply below_alloc | apply pw_below_drewN | apply below_drew1) | exact HB.out)⟩⟩
                              · rw [if_neg c57] at H
                                have c57b0 : (t144.toList == (a0.extract 5 a0.size).toList) = false := beq_eq_false_iff_ne.mpr c57
                                have c57b1 : (t144.toList != (a0.extract 5 a0.size).toList) = true := bne_iff_ne.mpr c57
                                have H' := Aside0.mk H
                                clear H
                                go_wp2
                                go_meet
                                case rel => exact ⟨_, (false), (by first | rfl | (simp; done) | (simp [*]; done)), H', ⟨by have := HJ2.out; have := HJ15.out; first | omega | exact Nat.le_refl _⟩, ⟨by repeat (first | (with_reducible first | exact HB.out | apply below_alloc | apply pw_below_drewN | apply below_drew1) | exact HB.out)⟩⟩
                            · rw [if_neg c56] at H
                              exact absurd H (by simp)
                          · rw [if_neg c55] at H
                            have c55b0 : (t146 == 0) = false := beq_eq_false_iff_ne.mpr c55
                            have c55b1 : (t146 != 0) = true := bne_iff_ne.mpr c55
                            have H' := Aside0.mk H
                            clear H
                            go_wp2
                            go_meet
                            case rel => exact ⟨_, (false), (by first | rfl | (simp; done) | (simp [*]; done)), H', ⟨by have := HJ2.out; have := HJ15.out; first | omega | exact Nat.le_refl _⟩, ⟨by repeat (first | (with_reducible first | exact HB.out | apply below_alloc | apply pw_below_drewN | apply below_drew1) | exact HB.out)⟩⟩
                        · rw [if_neg c54] at H
                          have c54b0 : decide (5 ≤ (a0.size : Int)) = false := decide_eq_false c54
                          have c54b1 : decide (5 ≤ a0.size) = false := decide_eq_false (by omega)
                          clear c54
                          have H' := Aside0.mk H
                          clear H
                          go_wp2
                          go_meet
                          case rel => exact ⟨_, (false), (by first | rfl | (simp; done) | (simp [*]; done)), H', ⟨by have := HJ2.out; have := HJ15.out; first | omega | exact Nat.le_refl _⟩, ⟨by repeat (first | (with_reducible first | exact HB.out | apply below_alloc | apply pw_below_drewN | apply below_drew1) | exact HB.out)⟩⟩
                    · rw [if_neg c42] at H
                      have c42b0 : decide ((a0.size : Int) < 5) = false := decide_eq_false c42
                      have c42b1 : decide (a0.size < 5) = false := decide_eq_false (by omega)
                      clear c42
                      by_cases c58 : (a0.size : Int) ≥ 5
                      · rw [if_pos c58] at H
                        have c58b0 : decide (5 ≤ (a0.size : Int)) = true := decide_eq_true c58
                        have c58b1 : decide (5 ≤ a0.size) = true := decide_eq_true (by omega)
                        clear c58
                        by_cases c59 : t146 = 0
                        · rw [if_pos c59] at H
                          have c59b0 : (t146 == 0) = true := beq_iff_eq.mpr c59
                          have c59b1 : (t146 != 0) = false := bne_eq_false_iff_eq.mpr c59
                          clear c59
                          by_cases c60 : 5 ≤ (a0.size : Int)
                          · rw [if_pos c60] at H
                            have c60b0 := eq_true c60
                            have c60b1 : decide (5 ≤ (a0.size : Int)) = true := decide_eq_true c60
                            clear c60
                            by_cases c61 : t144.toList = (a0.extract 5 a0.size).toList
                            · rw [if_pos c61] at H
                              have c61b0 : (t144.toList == (a0.extract 5 a0.size).toList) = true := beq_iff_eq.mpr c61
                              have c61b1 : (t144.toList != (a0.extract 5 a0.size).toList) = false := bne_eq_false_iff_eq.mpr c61
                              clear c61
                              have H' := Aside0.mk H
                              clear H
                              go_wp2
                              go_meet
                              case rel => exact ⟨_, ((t145 == 5)), (by first | rfl | (simp; done) | (simp [*]; done)), H', ⟨by have := HJ2.out; have := HJ15.out; first | omega | exact Nat.le_refl _⟩, ⟨by repeat (first | (with_reducible first | exact HB.out | apply below_alloc | apply pw_below_drewN | apply below_drew1) | exact HB.out)⟩⟩
                            · rw [if_neg c61] at H
                              have c61b0 : (t144.toList == (a0.extract 5 a0.size).toList) = false := beq_eq_false_iff_ne.mpr c61
                              have c61b1 : (t144.toList != (a0.extract 5 a0.size).toList) = true := bne_iff_ne.mpr c61
                              have H' := Aside0.mk H
                              clear H
                              go_wp2
                              go_meet
                              case rel => exact ⟨_, (false), (by first | rfl | (simp; done) | (simp [*]; done)), H', ⟨by have := HJ2.out; have := HJ15.out; first | omega | exact Nat.le_refl _⟩, ⟨by repeat (first | (with_reducible first | exact HB.out | apply below_alloc | apply pw_below_drewN | apply below_drew1) | exact HB.out)⟩⟩
                          · rw [if_neg c60] at H
                            exact absurd H (by simp)
                        · rw [if_neg c59] at H
                          have c59b0 : (t146 == 0) = false := beq_eq_false_iff_ne.mpr c59
                          have c59b1 : (t146 != 0) = true := bne_iff_ne.mpr c59
                          have H' := Aside0.mk H
                          clear H
                          go_wp2
                          go_meet
                          case rel => exact ⟨_, (false), (by first | rfl | (simp; done) | (simp [*]; done)), H', ⟨by have := HJ2.out; have := HJ15.out; first | omega | exact Nat.le_refl _⟩, ⟨by repeat (first | (with_reducible first | exact HB.out | apply below_alloc | apply pw_below_drewN | apply below_drew1) | exact HB.out)⟩⟩
                      · rw [if_neg c58] at H
                        have c58b0 : decide (5 ≤ (a0.size : Int)) = false := decide_eq_false c58
                        have c58b1 : decide (5 ≤ a0.size) = false := decide_eq_false (by omega)
                        clear c58
                        have H' := Aside0.mk H
                        clear H
                        go_wp2
                        go_meet
                        case rel => exact ⟨_, (false), (by first | rfl | (simp; done) | (simp [*]; done)), H', ⟨by have := HJ2.out; have := HJ15.out; first | omega | exact Nat.le_refl _⟩, ⟨by repeat (first | (with_reducible first | exact HB.out | apply below_alloc | apply pw_below_drewN | apply below_drew1) | exact HB.out)⟩⟩
                  · rw [if_neg c41] at H
                    have c41b0 : (t149 == 11) = false := beq_eq_false_iff_ne.mpr c41
                    have c41b1 : (t149 != 11) = true := bne_iff_ne.mpr c41
                    (first | rw [c41b0] | (simp only [i64_w, i32_w]; rw [c41b0]) | skip)
                    have H' := Aside0.mk H
                    clear H
                    go_wp2
                    go_meet
                    case rel => exact ⟨_, (false), (by first | rfl | (simp; done) | (simp [*]; done)), H', ⟨by have := HJ2.out; have := HJ15.out; first | omega | exact Nat.le_refl _⟩, ⟨by repeat (first | (with_reducible first | exact HB.out | apply below_alloc | apply pw_below_drewN | apply below_drew1) | exact HB.out)⟩⟩
                case rest =>
                  clear HC40
                  try clear c1
                  try clear hcv1
                  try clear c2
                  try clear p2
                  try clear c3
                  try clear c4
                  try clear c4b0
                  try clear c4b1
                  try clear c5
                  try clear c5b0
                  try clear c6
                  try clear c6b0
                  try clear p6
                  try clear c8
                  try clear c9
                  try clear c12
                  try clear c12b0
                  try clear c12b1
                  try clear c12b2
                  try clear c14
                  try clear hcv19
                  try clear c23
                  try clear c23b0
                  try clear c24
                  try clear c24b0
                  try clear c24b1
                  try clear c25
                  try clear c25b0
                  try clear c25b1
                  try clear c26
                  try clear c26b0
                  try clear c26b1
                  try clear c27
                  try clear c27b0
                  try clear c28
                  try clear c28b0
                  try clear c28b1
                  try clear c30
                  try clear c30b0
                  try clear c30b1
                  try clear c31
                  try clear c31b0
                  try clear c31b1
                  try clear c32
                  try clear c32b0
                  try clear c32b1
                  try clear c33
                  try clear c33b0
                  try clear c34
                  try clear c34b0
                  try clear c34b1
                  try clear c36
                  try clear c36b0
                  try clear c36b1
                  try clear c37
                  try clear c37b0
                  try clear c37b1
                  try clear c38
                  try clear c38b0
                  try clear c38b1
                  try clear c39
                  try clear c41
                  try clear c41b0
                  try clear c41b1
                  try clear c42
                  try clear c42b0
                  try clear c42b1
                  try clear c43
                  try clear c43b0
                  try clear c43b1
                  try clear c44
                  try clear c44b0
                  try clear c44b1
                  try clear c45
                  try clear c45b0
                  try clear c45b1
                  try clear c46
                  try clear c46b0
                  try clear c46b1
                  try clear c47
                  try clear c47b0
                  try clear c47b1
                  try clear c48
                  try clear c48b0
                  try clear c48b1
                  try clear c49
                  try clear c49b0
                  try clear c49b1
                  try clear c50
                  try clear c50b0
                  try clear c50b1
                  try clear c51
                  try clear c51b0
                  try clear c51b1
                  try clear c52
                  try clear c52b0
                  try clear c52b1
                  try clear c53
                  try clear c53b0
                  try clear c53b1
                  try clear c54
                  try clear c54b0
                  try clear c54b1
                  try clear c55
                  try clear c55b0
                  try clear c55b1
                  try clear c56
                  try clear c56b0
                  try clear c56b1
                  try clear c57
                  try clear c57b0
                  try clear c57b1
                  try clear c58
                  try clear c58b0
                  try clear c58b1
                  try clear c59
                  try clear c59b0
                  try clear c59b1
                  try clear c60
                  try clear c60b0
                  try clear c60b1
                  try clear c61
                  try clear c61b0
                  try clear c61b1
                  try clear p2
                  try clear p6
                  obtain ⟨kq, x4_39, rfl, HA, HJ39, HB⟩ := hcut
                  cases kq with
                  | zero => exact absurd HA.out (by simp [bywashlaw7_FrameShort.j2])
                  | succ kj39 =>
                    have H := HA.out
                    clear HA
                    simp only [bywashlaw7_FrameShort.j2] at H
                    obtain rfl := Option.some.inj H
                    go_wp2
                    go_ret
                    exact ⟨by first | rfl | (simp [errW_none, errW_some] <;> rfl) | (simp [*, errW_none, errW_some] <;> rfl), by repeat (first | (with_reducible first | exact HB.out | apply below_alloc | apply pw_below_drewN | apply below_drew1) | exact HB.out)⟩
        · rw [if_neg c12] at H
          exact absurd H (by simp)

/-- THE ONE PURE STATEMENT of bywashlaw7_FrameShort: yours. -/
def bywashlaw7_FrameShort.Pure : Prop := ∀ (a0 : ByteArray) (a1 : Int), a0.size ≤ 140737488351232 → (Lit.int .i64 a1).wf = true → ∃ k, bywashlaw7_FrameShort.f k a0 a1 = some true
theorem bywashlaw7_FrameShort.walk (P : bywashlaw7_FrameShort.Pure) (a0 : ByteArray) (a1 : Int) (w : World) (w0 : a0.size ≤ 140737488351232) (w1 : (Lit.int .i64 a1).wf = true) :
    Calls Try.prog 8 #[.string a0, .int .i64 a1] w fun e w' => e = .returned (.bool true) ∧ Below w.heap.size w w' := by
  obtain ⟨k, h⟩ := P a0 a1 w0 w1
  refine (bywashlaw7_FrameShort.calls k a0 a1 true w h).mono ?_
  rintro e w' ⟨rfl, hd⟩
  exact ⟨rfl, hd⟩

end Go.Proofs.Ytehccigpbchbcaa.PFrameShort
