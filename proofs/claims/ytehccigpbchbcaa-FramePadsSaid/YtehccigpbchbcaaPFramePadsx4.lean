-- Written by a program of this session (the kit's printer, turned): the functions that the law reaches.
import Derived.Test.YtehccigpbchbcaaPFramePadsx0
import Derived.Test.YtehccigpbchbcaaPFramePadsx2
import Derived.Test.YtehccigpbchbcaaPFramePadsx3
namespace Go.Proofs.Ytehccigpbchbcaa.PFramePads
open Go.RowKit Go.Proofs.YtehccigpbchbcaaW.PrintWords Go.Proofs.YtehccigpbchbcaaW.PrintLast Go.Proofs.YtehccigpbchbcaaW.PrintMore
attribute [local go_sem] max2_int min2_int max_two min_two max_three min_three max_four min_four   -- for this text's walks alone
set_option linter.unusedVariables false
set_option linter.unusedSimpArgs false

/-! ### bywashlaw7_FramePads: function 6 -/
mutual
def bywashlaw7_FramePads.j0 : Nat → ByteArray → Int → Bool → Bool → Bool → Option (Bool)
  | 0, _, _, _, _, _ => none
  | k + 1, x0, x1, x2, x3, x31 => if x31 = true then ((bywashlaw7_alive.f k).bind fun t137 => (some t137)) else (if x2 = true then (if 5 + x0.size ≤ 9223372036854775807 then (bywashlaw7_FramePads.j1 k x0 x1 x3 5 1 (Go.bits .or .i64 0 32) 1 ((⟨#[49, 50, 51, 52, 53]⟩ : ByteArray) ++ x0)) else (none)) else (bywashlaw7_FramePads.j1 k x0 x1 x3 0 1 0 1 x0))
def bywashlaw7_FramePads.j1 : Nat → ByteArray → Int → Bool → Int → Int → Int → Int → ByteArray → Option (Bool)
  | 0, _, _, _, _, _, _, _, _ => none
  | k + 1, x0, x1, x3, x10, x139000, x139001, x139002, x139003 => if x3 = true then ((some (([(x1) % 256] : List Int) : List Int)).bind fun y139 => (if (strOfNums y139).size + x139003.size ≤ 9223372036854775807 then (if 0 ≤ x1 then (if (x1 : Int).toNat ≤ 281474976710656 then ((some (List.replicate (x1 : Int).toNat 0 : List Int)).bind fun y142 => (if ((strOfNums y139) ++ x139003).size + (strOfNums y142).size ≤ 9223372036854775807 then (bywashlaw7_FramePads.j2 k x0 (wrap64 ((wrap64 (x10 + 1)) + x1)) x139000 (Go.bits .or .i64 x139001 8) x139002 (((strOfNums y139) ++ x139003) ++ (strOfNums y142))) else (none))) else (none)) else (none)) else (none))) else (bywashlaw7_FramePads.j2 k x0 x10 x139000 x139001 x139002 x139003)
def bywashlaw7_FramePads.j2 : Nat → ByteArray → Int → Int → Int → Int → ByteArray → Option (Bool)
  | 0, _, _, _, _, _, _ => none
  | k + 1, x0, x10, x139000, x139001, x139002, x139003 => (frame_Strip.f k x139000 x139001 x139002 x139003).bind fun bt145 => (if bt145.1.toList = x0.toList then (if bt145.2.1 = x10 then (bywashlaw7_FramePads.j3 k (bt145.2.2 != 0) x139000 x139001 x139002 x139003) else (bywashlaw7_FramePads.j3 k true x139000 x139001 x139002 x139003)) else (bywashlaw7_FramePads.j3 k true x139000 x139001 x139002 x139003))
def bywashlaw7_FramePads.j3 : Nat → Bool → Int → Int → Int → ByteArray → Option (Bool)
  | 0, _, _, _, _, _ => none
  | k + 1, x82, x139000, x139001, x139002, x139003 => if x82 = true then (some false) else ((frame_Strip.f k 9 x139001 x139002 x139003).bind fun bt148 => (if bt148.1.toList = x139003.toList then (if bt148.2.1 = 0 then (bywashlaw7_FramePads.j4 k (bt148.2.2 == 0)) else (bywashlaw7_FramePads.j4 k false)) else (bywashlaw7_FramePads.j4 k false)))
def bywashlaw7_FramePads.j4 : Nat → Bool → Option (Bool)
  | 0, _ => none
  | k + 1, x8 => some x8
end
def bywashlaw7_FramePads.f (k : Nat) (a0 : ByteArray) (a1 : Int) (a2 : Bool) (a3 : Bool) : Option (Bool) := if (a0.size : Int) > 300 then (bywashlaw7_FramePads.j0 k a0 a1 a2 a3 true) else (if a1 < 0 then (bywashlaw7_FramePads.j0 k a0 a1 a2 a3 true) else (if a1 > 255 then (bywashlaw7_FramePads.j0 k a0 a1 a2 a3 true) else ((bywashlaw7_alive.f k).bind fun t136 => (bywashlaw7_FramePads.j0 k a0 a1 a2 a3 (!t136)))))
theorem bywashlaw7_FramePads.mono_l : ∀ k, (∀ y0 y1 y2 y3 y4, LeO (bywashlaw7_FramePads.j0 k y0 y1 y2 y3 y4) (bywashlaw7_FramePads.j0 (k + 1) y0 y1 y2 y3 y4)) ∧ (∀ y0 y1 y2 y3 y4 y5 y6 y7, LeO (bywashlaw7_FramePads.j1 k y0 y1 y2 y3 y4 y5 y6 y7) (bywashlaw7_FramePads.j1 (k + 1) y0 y1 y2 y3 y4 y5 y6 y7)) ∧ (∀ y0 y1 y2 y3 y4 y5, LeO (bywashlaw7_FramePads.j2 k y0 y1 y2 y3 y4 y5) (bywashlaw7_FramePads.j2 (k + 1) y0 y1 y2 y3 y4 y5)) ∧ (∀ y0 y1 y2 y3 y4, LeO (bywashlaw7_FramePads.j3 k y0 y1 y2 y3 y4) (bywashlaw7_FramePads.j3 (k + 1) y0 y1 y2 y3 y4)) ∧ (∀ y0, LeO (bywashlaw7_FramePads.j4 k y0) (bywashlaw7_FramePads.j4 (k + 1) y0))
  | 0 => ⟨fun _ _ _ _ _ r h => by simp [bywashlaw7_FramePads.j0] at h, fun _ _ _ _ _ _ _ _ r h => by simp [bywashlaw7_FramePads.j1] at h, fun _ _ _ _ _ _ r h => by simp [bywashlaw7_FramePads.j2] at h, fun _ _ _ _ _ r h => by simp [bywashlaw7_FramePads.j3] at h, fun _ r h => by simp [bywashlaw7_FramePads.j4] at h⟩
  | k + 1 => by
    obtain ⟨ih0, ih1, ih2, ih3, ih4⟩ := bywashlaw7_FramePads.mono_l k
    refine ⟨?_, ?_, ?_, ?_, ?_⟩
    · intro y0 y1 y2 y3 y4
      unfold bywashlaw7_FramePads.j0
      repeat' first
      | (with_reducible exact ih0 _ _ _ _ _)
      | (with_reducible exact ih1 _ _ _ _ _ _ _ _)
      | (with_reducible exact ih2 _ _ _ _ _ _)
      | (with_reducible exact ih3 _ _ _ _ _)
      | (with_reducible exact ih4 _)
      | (with_reducible exact bywashlaw7_alive.mono _)
      | (with_reducible exact frame_Strip.mono _ _ _ _ _)
      | (with_reducible exact LeO.refl _)
      | (with_reducible exact LeO.none _)
      | (with_reducible refine LeO.ite ?_ ?_)
      | (with_reducible refine LeO.bind ?_ (fun _ => ?_))
      | exact ih0 _ _ _ _ _
      | exact ih1 _ _ _ _ _ _ _ _
      | exact ih2 _ _ _ _ _ _
      | exact ih3 _ _ _ _ _
      | exact ih4 _
      | exact bywashlaw7_alive.mono _
      | exact frame_Strip.mono _ _ _ _ _
      | exact LeO.none _
      | refine LeO.ite ?_ ?_
      | refine LeO.bind ?_ (fun _ => ?_)
    · intro y0 y1 y2 y3 y4 y5 y6 y7
      unfold bywashlaw7_FramePads.j1
      repeat' first
      | (with_reducible exact ih0 _ _ _ _ _)
      | (with_reducible exact ih1 _ _ _ _ _ _ _ _)
      | (with_reducible exact ih2 _ _ _ _ _ _)
      | (with_reducible exact ih3 _ _ _ _ _)
      | (with_reducible exact ih4 _)
      | (with_reducible exact bywashlaw7_alive.mono _)
      | (with_reducible exact frame_Strip.mono _ _ _ _ _)
      | (with_reducible exact LeO.refl _)
      | (with_reducible exact LeO.none _)
      | (with_reducible refine LeO.ite ?_ ?_)
      | (with_reducible refine LeO.bind ?_ (fun _ => ?_))
      | exact ih0 _ _ _ _ _
      | exact ih1 _ _ _ _ _ _ _ _
      | exact ih2 _ _ _ _ _ _
      | exact ih3 _ _ _ _ _
      | exact ih4 _
      | exact bywashlaw7_alive.mono _
      | exact frame_Strip.mono _ _ _ _ _
      | exact LeO.none _
      | refine LeO.ite ?_ ?_
      | refine LeO.bind ?_ (fun _ => ?_)
    · intro y0 y1 y2 y3 y4 y5
      unfold bywashlaw7_FramePads.j2
      repeat' first
      | (with_reducible exact ih0 _ _ _ _ _)
      | (with_reducible exact ih1 _ _ _ _ _ _ _ _)
      | (with_reducible exact ih2 _ _ _ _ _ _)
      | (with_reducible exact ih3 _ _ _ _ _)
      | (with_reducible exact ih4 _)
      | (with_reducible exact bywashlaw7_alive.mono _)
      | (with_reducible exact frame_Strip.mono _ _ _ _ _)
      | (with_reducible exact LeO.refl _)
      | (with_reducible exact LeO.none _)
      | (with_reducible refine LeO.ite ?_ ?_)
      | (with_reducible refine LeO.bind ?_ (fun _ => ?_))
      | exact ih0 _ _ _ _ _
      | exact ih1 _ _ _ _ _ _ _ _
      | exact ih2 _ _ _ _ _ _
      | exact ih3 _ _ _ _ _
      | exact ih4 _
      | exact bywashlaw7_alive.mono _
      | exact frame_Strip.mono _ _ _ _ _
      | exact LeO.none _
      | refine LeO.ite ?_ ?_
      | refine LeO.bind ?_ (fun _ => ?_)
    · intro y0 y1 y2 y3 y4
      unfold bywashlaw7_FramePads.j3
      repeat' first
      | (with_reducible exact ih0 _ _ _ _ _)
      | (with_reducible exact ih1 _ _ _ _ _ _ _ _)
      | (with_reducible exact ih2 _ _ _ _ _ _)
      | (with_reducible exact ih3 _ _ _ _ _)
      | (with_reducible exact ih4 _)
      | (with_reducible exact bywashlaw7_alive.mono _)
      | (with_reducible exact frame_Strip.mono _ _ _ _ _)
      | (with_reducible exact LeO.refl _)
      | (with_reducible exact LeO.none _)
      | (with_reducible refine LeO.ite ?_ ?_)
      | (with_reducible refine LeO.bind ?_ (fun _ => ?_))
      | exact ih0 _ _ _ _ _
      | exact ih1 _ _ _ _ _ _ _ _
      | exact ih2 _ _ _ _ _ _
      | exact ih3 _ _ _ _ _
      | exact ih4 _
      | exact bywashlaw7_alive.mono _
      | exact frame_Strip.mono _ _ _ _ _
      | exact LeO.none _
      | refine LeO.ite ?_ ?_
      | refine LeO.bind ?_ (fun _ => ?_)
    · intro y0
      unfold bywashlaw7_FramePads.j4
      repeat' first
      | (with_reducible exact ih0 _ _ _ _ _)
      | (with_reducible exact ih1 _ _ _ _ _ _ _ _)
      | (with_reducible exact ih2 _ _ _ _ _ _)
      | (with_reducible exact ih3 _ _ _ _ _)
      | (with_reducible exact ih4 _)
      | (with_reducible exact bywashlaw7_alive.mono _)
      | (with_reducible exact frame_Strip.mono _ _ _ _ _)
      | (with_reducible exact LeO.refl _)
      | (with_reducible exact LeO.none _)
      | (with_reducible refine LeO.ite ?_ ?_)
      | (with_reducible refine LeO.bind ?_ (fun _ => ?_))
      | exact ih0 _ _ _ _ _
      | exact ih1 _ _ _ _ _ _ _ _
      | exact ih2 _ _ _ _ _ _
      | exact ih3 _ _ _ _ _
      | exact ih4 _
      | exact bywashlaw7_alive.mono _
      | exact frame_Strip.mono _ _ _ _ _
      | exact LeO.none _
      | refine LeO.ite ?_ ?_
      | refine LeO.bind ?_ (fun _ => ?_)
theorem bywashlaw7_FramePads.mono : ∀ a0 a1 a2 a3 k, LeO (bywashlaw7_FramePads.f k a0 a1 a2 a3) (bywashlaw7_FramePads.f (k + 1) a0 a1 a2 a3) := by
  intro a0 a1 a2 a3 k
  obtain ⟨ih0, ih1, ih2, ih3, ih4⟩ := bywashlaw7_FramePads.mono_l k
  unfold bywashlaw7_FramePads.f
  repeat' first
      | (with_reducible exact ih0 _ _ _ _ _)
      | (with_reducible exact ih1 _ _ _ _ _ _ _ _)
      | (with_reducible exact ih2 _ _ _ _ _ _)
      | (with_reducible exact ih3 _ _ _ _ _)
      | (with_reducible exact ih4 _)
      | (with_reducible exact bywashlaw7_alive.mono _)
      | (with_reducible exact frame_Strip.mono _ _ _ _ _)
      | (with_reducible exact LeO.refl _)
      | (with_reducible exact LeO.none _)
      | (with_reducible refine LeO.ite ?_ ?_)
      | (with_reducible refine LeO.bind ?_ (fun _ => ?_))
      | exact ih0 _ _ _ _ _
      | exact ih1 _ _ _ _ _ _ _ _
      | exact ih2 _ _ _ _ _ _
      | exact ih3 _ _ _ _ _
      | exact ih4 _
      | exact bywashlaw7_alive.mono _
      | exact frame_Strip.mono _ _ _ _ _
      | exact LeO.none _
      | refine LeO.ite ?_ ?_
      | refine LeO.bind ?_ (fun _ => ?_)
def bywashlaw7_FramePads.T10 : Bool × List (List Nat × List Nat) := (true, [([], []), ([0], [0]), ([1], [1]), ([2], [2]), ([], []), ([4], [4]), ([3, 5], [3, 5]), ([], []), ([7, 7], [7]), ([8], [8]), ([6, 9], [6, 9]), ([], []), ([11], [11]), ([], []), ([12, 13], [12, 13]), ([0, 1, 2, 3, 4, 5, 6, 7, 8, 9, 10], []), ([15, 10, 0, 1, 2, 3, 4, 5, 6, 7, 8, 9, 10], [10, 15]), ([14, 16, 0, 1, 2, 3, 4, 5, 6, 7, 8, 9, 10, 11, 12, 13, 14, 15, 16], [11, 14])])
def bywashlaw7_FramePads.B10 : List Nat := [0, 1, 3, 7, 0, 16, 63, 0, 128, 384, 1023, 0, 2048, 0, 14336, 2047, 34815, 131071]
theorem bywashlaw7_FramePads.tab10 : rtab .any (opsOf Try.f6 10) = bywashlaw7_FramePads.T10 := by kernel_rfl
theorem bywashlaw7_FramePads.bits10 : waitsOk bywashlaw7_FramePads.T10.2 bywashlaw7_FramePads.B10 = true := by kernel_rfl
set_option maxHeartbeats 8000000 in
set_option maxRecDepth 100000 in
theorem bywashlaw7_FramePads.calls (k : Nat) (a0 : ByteArray) (a1 : Int) (a2 : Bool) (a3 : Bool) (r : Bool) (w : World) (h : bywashlaw7_FramePads.f k a0 a1 a2 a3 = some r) :
    Calls Try.prog 6 #[.string a0, .int .i64 a1, .bool a2, .bool a3] w fun e w' => e = .returned (.bool r) ∧ Below w.heap.size w w' := by
  have hu23 := Try.underlying23
  have HB := Aside0.mk (Below.refl w.heap.size w)
  have H : (if (a0.size : Int) > 300 then (bywashlaw7_FramePads.j0 k a0 a1 a2 a3 true) else (if a1 < 0 then (bywashlaw7_FramePads.j0 k a0 a1 a2 a3 true) else (if a1 > 255 then (bywashlaw7_FramePads.j0 k a0 a1 a2 a3 true) else ((bywashlaw7_alive.f k).bind fun t136 => (bywashlaw7_FramePads.j0 k a0 a1 a2 a3 (!t136)))))) = some r := h
  clear h
  have HC5 := Aside0.mk H
  clear H
  go_enter Try.func6, Try.ntmps6
  go_upto_region 1 with (fail)
  go_cut [31] (fun v31 wc => ∃ (kq : Nat) (x31_4 : Bool), v31 = .bool x31_4 ∧ Aside0 (bywashlaw7_FramePads.j0 kq a0 a1 a2 a3 x31_4 = some r) ∧ Aside0 (kq ≤ k) ∧ Aside0 (Below w.heap.size w wc))
  case first =>
    have H := HC5.out
    clear HC5
    by_cases c6 : (a0.size : Int) > 300
    · rw [if_pos c6] at H
      have c6b0 : decide (300 < (a0.size : Int)) = true := decide_eq_true c6
      have c6b1 : decide (300 < a0.size) = true := decide_eq_true (by omega)
      clear c6
      (first | rw [c6b0] | (simp only [i64_w, i32_w]; rw [c6b0]) | skip)
      have H' := Aside0.mk H
      clear H
      go_wp2
      go_meet
      case rel => exact ⟨_, (true), (by first | rfl | (simp; done) | (simp [*]; done)), H', ⟨by first | omega | exact Nat.le_refl _⟩, ⟨by repeat (first | (with_reducible first | exact HB.out | apply below_alloc | apply pw_below_drewN | apply below_drew1) | exact HB.out)⟩⟩
    · rw [if_neg c6] at H
      have c6b0 : decide (300 < (a0.size : Int)) = false := decide_eq_false c6
      have c6b1 : decide (300 < a0.size) = false := decide_eq_false (by omega)
      clear c6
      (first | rw [c6b0] | (simp only [i64_w, i32_w]; rw [c6b0]) | skip)
      by_cases c7 : a1 < 0
      · rw [if_pos c7] at H
        have c7b0 : decide (a1 < 0) = true := decide_eq_true c7
        clear c7
        have H' := Aside0.mk H
        clear H
        go_wp2
        go_meet
        case rel => exact ⟨_, (true), (by first | rfl | (simp; done) | (simp [*]; done)), H', ⟨by first | omega | exact Nat.le_refl _⟩, ⟨by repeat (first | (with_reducible first | exact HB.out | apply below_alloc | apply pw_below_drewN | apply below_drew1) | exact HB.out)⟩⟩
      · rw [if_neg c7] at H
        have c7b0 : decide (a1 < 0) = false := decide_eq_false c7
        clear c7
        by_cases c8 : a1 > 255
        · rw [if_pos c8] at H
          have c8b0 : decide (255 < a1) = true := decide_eq_true c8
          clear c8
          have H' := Aside0.mk H
          clear H
          go_wp2
          go_meet
          case rel => exact ⟨_, (true), (by first | rfl | (simp; done) | (simp [*]; done)), H', ⟨by first | omega | exact Nat.le_refl _⟩, ⟨by repeat (first | (with_reducible first | exact HB.out | apply below_alloc | apply pw_below_drewN | apply below_drew1) | exact HB.out)⟩⟩
        · rw [if_neg c8] at H
          have c8b0 : decide (255 < a1) = false := decide_eq_false c8
          clear c8
          replace H := Option.bind_eq_some_iff.mp H
          obtain ⟨t136, A90, H⟩ := H
          replace H : (bywashlaw7_FramePads.j0 k a0 a1 a2 a3 (!t136)) = some r := H
          have A9 := Aside0.mk A90
          clear A90
          have H' := Aside0.mk H
          clear H
          go_wp2_with (first | (go_at_call 9; (with_reducible refine (bywashlaw7_alive.calls k  t136 _ A9.out).mono ?_); rintro e w10 ⟨rfl, hb⟩; have n0_ := Aside0.mk (below_step (by repeat (first | (with_reducible first | exact HB.out | apply below_alloc | apply pw_below_drewN | apply below_drew1) | exact HB.out)) hb); clear HB; have HB := n0_; clear n0_; (try clear hb); (try clear hb2); (try clear hk); (try clear hi)))
          go_meet
          case rel => exact ⟨_, (!t136), (by first | rfl | (simp; done) | (simp [*]; done)), H', ⟨by first | omega | exact Nat.le_refl _⟩, ⟨by repeat (first | (with_reducible first | exact HB.out | apply below_alloc | apply pw_below_drewN | apply below_drew1) | exact HB.out)⟩⟩
  case rest =>
    clear HC5
    try clear p2
    try clear c6
    try clear c6b0
    try clear c6b1
    try clear c7
    try clear c7b0
    try clear c8
    try clear c8b0
    obtain ⟨kq, x31_4, rfl, HA, HJ4, HB⟩ := hcut
    cases kq with
    | zero => exact absurd HA.out (by simp [bywashlaw7_FramePads.j0])
    | succ kj4 =>
      have H := HA.out
      clear HA
      simp only [bywashlaw7_FramePads.j0] at H
      by_cases c11 : x31_4 = true
      · subst c11
        have H1 : ((bywashlaw7_alive.f kj4).bind fun t137 => (some t137)) = some r := by rw [if_pos rfl] at H; exact H
        clear H
        have H := H1
        clear H1
        replace H := Option.bind_eq_some_iff.mp H
        obtain ⟨t137, A120, H⟩ := H
        replace H : (some t137) = some r := H
        have A12 := Aside0.mk A120
        clear A120
        obtain rfl := Option.some.inj H
        go_wp2_with (first | ((with_reducible refine gate_callee (f := 9) rfl ?_); refine goesL_ (some 32) rfl rfl Try.func9 (by kernel_rfl) rfl #[] rfl (by (try simp only [List.map_toArray, List.map_cons, List.map_nil]); first | done | rfl | (simp only [List.length_drop, List.length_take]; rfl)) ?_; (with_reducible refine (bywashlaw7_alive.calls kj4  t137 _ A12.out).mono ?_); rintro e w13 ⟨rfl, hb⟩; refine ⟨_, rfl, ?_⟩; have n0_ := Aside0.mk (below_step (by repeat (first | (with_reducible first | exact HB.out | apply below_alloc | apply pw_below_drewN | apply below_drew1) | exact HB.out)) hb); clear HB; have HB := n0_; clear n0_; (try clear hb); (try clear hb2); (try clear hk); (try clear hi)))
        go_ret
        exact ⟨by first | rfl | (simp [errW_none, errW_some] <;> rfl) | (simp [*, errW_none, errW_some] <;> rfl), by repeat (first | (with_reducible first | exact HB.out | apply below_alloc | apply pw_below_drewN | apply below_drew1) | exact HB.out)⟩
      · replace c11 := Bool.eq_false_iff.mpr c11
        subst c11
        have H1 : (if a2 = true then (if 5 + a0.size ≤ 9223372036854775807 then (bywashlaw7_FramePads.j1 kj4 a0 a1 a3 5 1 (Go.bits .or .i64 0 32) 1 ((⟨#[49, 50, 51, 52, 53]⟩ : ByteArray) ++ a0)) else (none)) else (bywashlaw7_FramePads.j1 kj4 a0 a1 a3 0 1 0 1 a0)) = some r := by rw [if_neg (show ¬ (false = true) by decide)] at H; exact H
        clear H
        have H := H1
        clear H1
        have HC14 := Aside0.mk H
        clear H
        go_upto_if 35 with (first | ((with_reducible refine gate_dst (N := 9) rfl ?_); refine box_event ?hg (N := 9) ?hd (cs := #[.int .i64 0, .int .i64 0, .int .i64 0, .string (⟨#[]⟩ : ByteArray)]) (t := 23) ?hr ?_; (case hd => rfl); (case hg => rfl); (case hr => first | (go_simp; done) | (go_simp; rfl)); intro gb138 hg w15 hbox hb; have n0_ := Aside0.mk (below_step (by repeat (first | (with_reducible first | exact HB.out | apply below_alloc | apply pw_below_drewN | apply below_drew1) | exact HB.out)) hb); have n1_ := Aside0.mk (hbox); have n2_ := Aside0.mk ((by rw [hg]; exact (below_size (by repeat (first | (with_reducible first | exact HB.out | apply below_alloc | apply pw_below_drewN | apply below_drew1) | exact HB.out))) : w.heap.size ≤ gb138)); have n3_ := Aside0.mk ((by rw [hg]; exact (below_size (by repeat (first | (with_reducible first | exact HB.out | apply below_alloc | apply pw_below_drewN | apply below_drew1) | exact HB.out))) : w.heap.size ≤ gb138)); clear HB; have HB := n0_; have BK138 := n1_; have GW138 := n2_; have GE138 := n3_; clear n0_ n1_ n2_ n3_; clear hb hbox hg; have hcz16_0 : w15.cell? ⟨gb138, 0, none⟩ = some (.int .i64 0) := (blk_cell BK138.out 0).trans rfl; have hcz16_1 : w15.cell? ⟨gb138, 1, none⟩ = some (.int .i64 0) := (blk_cell BK138.out 1).trans rfl; have hcz16_2 : w15.cell? ⟨gb138, 2, none⟩ = some (.int .i64 0) := (blk_cell BK138.out 2).trans rfl; have hcz16_3 : w15.cell? ⟨gb138, 3, none⟩ = some (.string (⟨#[]⟩ : ByteArray)) := (blk_cell BK138.out 3).trans rfl; have hfz16_0 := blk_frozen BK138.out 0; have hfz16_1 := blk_frozen BK138.out 1; have hfz16_2 := blk_frozen BK138.out 2; have hfz16_3 := blk_frozen BK138.out 3))
        (try simp only [Act.put, List.setIfInBounds_toArray, List.set_cons_zero, List.set_cons_succ])
        go_cut [10] (fun v10 wc => ∃ (kq : Nat) (x10_13 : Int) (x139001_13 : Int) (x139003_13 : ByteArray), v10 = .int .i64 x10_13 ∧ Aside0 (bywashlaw7_FramePads.j1 kq a0 a1 a3 x10_13 1 x139001_13 1 x139003_13 = some r) ∧ Aside0 (kq ≤ kj4) ∧ Aside0 (wc.heap[gb138]? = some (.cells #[.int .i64 1, .int .i64 x139001_13, .int .i64 1, .string x139003_13] 23 (0, 0))) ∧ Aside0 (Below w.heap.size w wc))
        case first =>
          have H := HC14.out
          clear HC14
          by_cases c17 : a2 = true
          · subst c17
            have H1 : (if 5 + a0.size ≤ 9223372036854775807 then (bywashlaw7_FramePads.j1 kj4 a0 a1 a3 5 1 (Go.bits .or .i64 0 32) 1 ((⟨#[49, 50, 51, 52, 53]⟩ : ByteArray) ++ a0)) else (none)) = some r := by rw [if_pos rfl] at H; exact H
            clear H
            have H := H1
            clear H1
            by_cases c18 : 5 + a0.size ≤ 9223372036854775807
            · rw [if_pos c18] at H
              have c18b0 := eq_true c18
              have c18b1 : decide (5 + a0.size ≤ 9223372036854775807) = true := decide_eq_true c18
              try have c18b2 : (9223372036854775807 < 5 + a0.size) = False := eq_false (Nat.not_lt.2 c18)
              have H' := Aside0.mk H
              clear H
              have hcz19_0 : w15.cell? ⟨gb138, 0, none⟩ = some (.int .i64 0) := (blk_cell BK138.out 0).trans rfl
              have hcz19_1 : w15.cell? ⟨gb138, 1, none⟩ = some (.int .i64 0) := (blk_cell BK138.out 1).trans rfl
              have hcz19_2 : w15.cell? ⟨gb138, 2, none⟩ = some (.int .i64 0) := (blk_cell BK138.out 2).trans rfl
              have hcz19_3 : w15.cell? ⟨gb138, 3, none⟩ = some (.string (⟨#[]⟩ : ByteArray)) := (blk_cell BK138.out 3).trans rfl
              have hfz19_0 := blk_frozen BK138.out 0
              have hfz19_1 := blk_frozen BK138.out 1
              have hfz19_2 := blk_frozen BK138.out 2
              have hfz19_3 := blk_frozen BK138.out 3
              go_wp2
              go_meet
              case rel => exact ⟨_, (5), (Go.bits .or .i64 0 32), ((⟨#[49, 50, 51, 52, 53]⟩ : ByteArray) ++ a0), (by first | rfl | (simp; done) | (simp [*]; done)), H', ⟨by have := HJ4.out; first | omega | exact Nat.le_refl _⟩, ⟨by (with_reducible repeat (first | refine blk_drewN ?_ _ | refine blk_drew ?_ | refine blk_alloc ?_ _)); refine blk_put (cs := #[.int .i64 1, .int .i64 (Go.bits .or .i64 0 32), .int .i64 1, .string a0]) ?_ 3 _ rfl; (with_reducible repeat (first | refine blk_drewN ?_ _ | refine blk_drew ?_ | refine blk_alloc ?_ _)); refine blk_put (cs := #[.int .i64 1, .int .i64 0, .int .i64 1, .string a0]) ?_ 1 _ rfl; (with_reducible repeat (first | refine blk_drewN ?_ _ | refine blk_drew ?_ | refine blk_alloc ?_ _)); refine blk_put (cs := #[.int .i64 1, .int .i64 0, .int .i64 1, .string (⟨#[]⟩ : ByteArray)]) ?_ 3 _ rfl; (with_reducible repeat (first | refine blk_drewN ?_ _ | refine blk_drew ?_ | refine blk_alloc ?_ _)); refine blk_put (cs := #[.int .i64 1, .int .i64 0, .int .i64 0, .string (⟨#[]⟩ : ByteArray)]) ?_ 2 _ rfl; (with_reducible repeat (first | refine blk_drewN ?_ _ | refine blk_drew ?_ | refine blk_alloc ?_ _)); refine blk_put (cs := #[.int .i64 1, .int .i64 0, .int .i64 0, .string (⟨#[]⟩ : ByteArray)]) ?_ 1 _ rfl; (with_reducible repeat (first | refine blk_drewN ?_ _ | refine blk_drew ?_ | refine blk_alloc ?_ _)); refine blk_put (cs := #[.int .i64 0, .int .i64 0, .int .i64 0, .string (⟨#[]⟩ : ByteArray)]) ?_ 0 _ rfl; (with_reducible repeat (first | refine blk_drewN ?_ _ | refine blk_drew ?_ | refine blk_alloc ?_ _)); exact BK138.out⟩, ⟨by repeat (first | (with_reducible first | exact HB.out | apply below_alloc | apply pw_below_drewN | apply below_drew1 | refine below_set ?_ GE138.out) | exact HB.out)⟩⟩
            · rw [if_neg c18] at H
              exact absurd H (by simp)
          · replace c17 := Bool.eq_false_iff.mpr c17
            subst c17
            have H1 : (bywashlaw7_FramePads.j1 kj4 a0 a1 a3 0 1 0 1 a0) = some r := by rw [if_neg (show ¬ (false = true) by decide)] at H; exact H
            clear H
            have H := H1
            clear H1
            have H' := Aside0.mk H
            clear H
            go_wp2
            go_meet
            case rel => exact ⟨_, (0), (0), (a0), (by first | rfl | (simp; done) | (simp [*]; done)), H', ⟨by have := HJ4.out; first | omega | exact Nat.le_refl _⟩, ⟨by (with_reducible repeat (first | refine blk_drewN ?_ _ | refine blk_drew ?_ | refine blk_alloc ?_ _)); refine blk_put (cs := #[.int .i64 1, .int .i64 0, .int .i64 1, .string (⟨#[]⟩ : ByteArray)]) ?_ 3 _ rfl; (with_reducible repeat (first | refine blk_drewN ?_ _ | refine blk_drew ?_ | refine blk_alloc ?_ _)); refine blk_put (cs := #[.int .i64 1, .int .i64 0, .int .i64 0, .string (⟨#[]⟩ : ByteArray)]) ?_ 2 _ rfl; (with_reducible repeat (first | refine blk_drewN ?_ _ | refine blk_drew ?_ | refine blk_alloc ?_ _)); refine blk_put (cs := #[.int .i64 1, .int .i64 0, .int .i64 0, .string (⟨#[]⟩ : ByteArray)]) ?_ 1 _ rfl; (with_reducible repeat (first | refine blk_drewN ?_ _ | refine blk_drew ?_ | refine blk_alloc ?_ _)); refine blk_put (cs := #[.int .i64 0, .int .i64 0, .int .i64 0, .string (⟨#[]⟩ : ByteArray)]) ?_ 0 _ rfl; (with_reducible repeat (first | refine blk_drewN ?_ _ | refine blk_drew ?_ | refine blk_alloc ?_ _)); exact BK138.out⟩, ⟨by repeat (first | (with_reducible first | exact HB.out | apply below_alloc | apply pw_below_drewN | apply below_drew1 | refine below_set ?_ GE138.out) | exact HB.out)⟩⟩
        case rest =>
          clear HC14
          try clear c1
          try clear p2
          try clear c6
          try clear c6b0
          try clear c6b1
          try clear c7
          try clear c7b0
          try clear c8
          try clear c8b0
          try clear c9
          try clear c11
          try clear c17
          try clear c18
          try clear c18b0
          try clear c18b1
          try clear c18b2
          try clear hcz16_0
          try clear hcz16_1
          try clear hcz16_2
          try clear hcz16_3
          try clear hcz19_0
          try clear hcz19_1
          try clear hcz19_2
          try clear hcz19_3
          try clear hfz16_0
          try clear hfz16_1
          try clear hfz16_2
          try clear hfz16_3
          try clear hfz19_0
          try clear hfz19_1
          try clear hfz19_2
          try clear hfz19_3
          try clear p2
          obtain ⟨kq, x10_13, x139001_13, x139003_13, rfl, HA, HJ13, BK138, HB⟩ := hcut
          cases kq with
          | zero => exact absurd HA.out (by simp [bywashlaw7_FramePads.j1])
          | succ kj13 =>
            have H := HA.out
            clear HA
            simp only [bywashlaw7_FramePads.j1] at H
            have HC20 := Aside0.mk H
            clear H
            go_upto_if 44 with (fail)
            go_cut [10] (fun v10 wc => ∃ (kq : Nat) (x10_19 : Int) (x139001_19 : Int) (x139003_19 : ByteArray), v10 = .int .i64 x10_19 ∧ Aside0 (bywashlaw7_FramePads.j2 kq a0 x10_19 1 x139001_19 1 x139003_19 = some r) ∧ Aside0 (kq ≤ kj13) ∧ Aside0 (wc.heap[gb138]? = some (.cells #[.int .i64 1, .int .i64 x139001_19, .int .i64 1, .string x139003_19] 23 (0, 0))) ∧ Aside0 (Below w.heap.size w wc))
            case first =>
              have H := HC20.out
              clear HC20
              by_cases c21 : a3 = true
              · subst c21
                have H1 : ((some (([(a1) % 256] : List Int) : List Int)).bind fun y139 => (if (strOfNums y139).size + x139003_13.size ≤ 9223372036854775807 then (if 0 ≤ a1 then (if (a1 : Int).toNat ≤ 281474976710656 then ((some (List.replicate (a1 : Int).toNat 0 : List Int)).bind fun y142 => (if ((strOfNums y139) ++ x139003_13).size + (strOfNums y142).size ≤ 9223372036854775807 then (bywashlaw7_FramePads.j2 kj13 a0 (wrap64 ((wrap64 (x10_13 + 1)) + a1)) 1 (Go.bits .or .i64 x139001_13 8) 1 (((strOfNums y139) ++ x139003_13) ++ (strOfNums y142))) else (none))) else (none)) else (none)) else (none))) = some r := by rw [if_pos rfl] at H; exact H
                clear H
                have H := H1
                clear H1
                obtain ⟨y139, hy139⟩ : ∃ y_ : List Int, y_ = (([(a1) % 256] : List Int)) := ⟨_, rfl⟩
                replace H : (if (strOfNums y139).size + x139003_13.size ≤ 9223372036854775807 then (if 0 ≤ a1 then (if (a1 : Int).toNat ≤ 281474976710656 then ((some (List.replicate (a1 : Int).toNat 0 : List Int)).bind fun y142 => (if ((strOfNums y139) ++ x139003_13).size + (strOfNums y142).size ≤ 9223372036854775807 then (bywashlaw7_FramePads.j2 kj13 a0 (wrap64 ((wrap64 (x10_13 + 1)) + a1)) 1 (Go.bits .or .i64 x139001_13 8) 1 (((strOfNums y139) ++ x139003_13) ++ (strOfNums y142))) else (none))) else (none)) else (none)) else (none)) = some r := by first | (rw [hy139]; with_reducible exact H) | (have H2_ := (Option.bind_some _ _).symm.trans H; rw [hy139]; with_reducible exact H2_) | (have H2_ := (Option.bind_some _ _).symm.trans H; with_reducible exact H2_) | with_reducible exact H | (rw [hy139]; exact H) | exact H
                have Ny139 := Aside0.mk hy139
                clear hy139
                by_cases c22 : (strOfNums y139).size + x139003_13.size ≤ 9223372036854775807
                · rw [if_pos c22] at H
                  have c22b0 := eq_true c22
                  have c22b1 : decide ((strOfNums y139).size + x139003_13.size ≤ 9223372036854775807) = true := decide_eq_true c22
                  try have c22b2 : (9223372036854775807 < (strOfNums y139).size + x139003_13.size) = False := eq_false (Nat.not_lt.2 c22)
                  by_cases c23 : 0 ≤ a1
                  · rw [if_pos c23] at H
                    have c23b0 := eq_true c23
                    have c23b1 : decide (0 ≤ a1) = true := decide_eq_true c23
                    clear c23
                    by_cases c24 : (a1 : Int).toNat ≤ 281474976710656
                    · rw [if_pos c24] at H
                      have c24b0 := eq_true c24
                      have c24b1 : decide ((a1 : Int).toNat ≤ 281474976710656) = true := decide_eq_true c24
                      clear c24
                      obtain ⟨y142, hy142⟩ : ∃ y_ : List Int, y_ = (List.replicate (a1 : Int).toNat 0) := ⟨_, rfl⟩
                      replace H : (if ((strOfNums y139) ++ x139003_13).size + (strOfNums y142).size ≤ 9223372036854775807 then (bywashlaw7_FramePads.j2 kj13 a0 (wrap64 ((wrap64 (x10_13 + 1)) + a1)) 1 (Go.bits .or .i64 x139001_13 8) 1 (((strOfNums y139) ++ x139003_13) ++ (strOfNums y142))) else (none)) = some r := by first | (rw [hy142]; with_reducible exact H) | (have H2_ := (Option.bind_some _ _).symm.trans H; rw [hy142]; with_reducible exact H2_) | (have H2_ := (Option.bind_some _ _).symm.trans H; with_reducible exact H2_) | with_reducible exact H | (rw [hy142]; exact H) | exact H
                      have Ny142 := Aside0.mk hy142
                      clear hy142
                      by_cases c25 : ((strOfNums y139) ++ x139003_13).size + (strOfNums y142).size ≤ 9223372036854775807
                      · rw [if_pos c25] at H
                        have c25b0 := eq_true c25
                        have c25b1 : decide (((strOfNums y139) ++ x139003_13).size + (strOfNums y142).size ≤ 9223372036854775807) = true := decide_eq_true c25
                        try have c25b2 : (9223372036854775807 < ((strOfNums y139) ++ x139003_13).size + (strOfNums y142).size) = False := eq_false (Nat.not_lt.2 c25)
                        (try (have c25n := c25b2; simp only [ByteArray.size_append] at c25n))
                        have H' := Aside0.mk H
                        clear H
                        have hcz26_0 : wc.cell? ⟨gb138, 0, none⟩ = some (.int .i64 1) := (blk_cell BK138.out 0).trans rfl
                        have hcz26_1 : wc.cell? ⟨gb138, 1, none⟩ = some (.int .i64 x139001_13) := (blk_cell BK138.out 1).trans rfl
                        have hcz26_2 : wc.cell? ⟨gb138, 2, none⟩ = some (.int .i64 1) := (blk_cell BK138.out 2).trans rfl
                        have hcz26_3 : wc.cell? ⟨gb138, 3, none⟩ = some (.string x139003_13) := (blk_cell BK138.out 3).trans rfl
                        have hfz26_0 := blk_frozen BK138.out 0
                        have hfz26_1 := blk_frozen BK138.out 1
                        have hfz26_2 := blk_frozen BK138.out 2
                        have hfz26_3 := blk_frozen BK138.out 3
                        try go_wp2
                        have n0_ : Aside0 ((wc.setCell ⟨gb138, 1, none⟩ (.int .i64 (Go.bits .or .i64 x139001_13 8))).heap[gb138]? = some (.cells #[.int .i64 1, .int .i64 (Go.bits .or .i64 x139001_13 8), .int .i64 1, .string x139003_13] 23 (0, 0))) := ⟨by (with_reducible repeat (first | refine blk_drewN ?_ _ | refine blk_drew ?_ | refine blk_alloc ?_ _)); refine blk_put (cs := #[.int .i64 1, .int .i64 x139001_13, .int .i64 1, .string x139003_13]) ?_ 1 _ rfl; (with_reducible repeat (first | refine blk_drewN ?_ _ | refine blk_drew ?_ | refine blk_alloc ?_ _)); exact BK138.out⟩
                        have n1_ : Aside0 (Below w.heap.size w (wc.setCell ⟨gb138, 1, none⟩ (.int .i64 (Go.bits .or .i64 x139001_13 8)))) := ⟨by repeat (first | (with_reducible first | exact HB.out | apply below_alloc | apply pw_below_drewN | apply below_drew1 | refine below_set ?_ GE138.out) | exact HB.out)⟩
                        (try clear BK138)
                        (try clear HB)
                        generalize (wc.setCell ⟨gb138, 1, none⟩ (.int .i64 (Go.bits .or .i64 x139001_13 8))) = w27 at n0_ n1_ ⊢
                        have BK138 := n0_
                        have HB := n1_
                        clear n0_ n1_
                        have n0_ := Aside0.mk (blk_drew BK138.out)
                        have n1_ := Aside0.mk (below_drew1 HB.out)
                        clear BK138
                        clear HB
                        have BK138 := n0_
                        have HB := n1_
                        clear n0_ n1_
                        refine start_ (n := 18) (S := fun w' => w'.cell? ⟨gb138, 0, none⟩ = some (.int .i64 1) ∧ w'.cell? ⟨gb138, 1, none⟩ = some (.int .i64 (Go.bits .or .i64 x139001_13 8)) ∧ w'.cell? ⟨gb138, 2, none⟩ = some (.int .i64 1) ∧ w'.cell? ⟨gb138, 3, none⟩ = some (.string x139003_13)) (ds := [16]) #[false, false, false, false, false, false, false, false, false, false, false, false, false, false, false, false, false, false] (by kernel_rfl) rfl rfl ⟨(blk_cell BK138.out 0).trans rfl, (blk_cell BK138.out 1).trans rfl, (blk_cell BK138.out 2).trans rfl, (blk_cell BK138.out 3).trans rfl⟩ (fun hHeld => ?_); refine with_tabW bywashlaw7_FramePads.tab10 bywashlaw7_FramePads.bits10 (fun HT_ HW_ => ?_)
                        generalize w27.drew = w28 at BK138 HB hHeld ⊢
                        refine pure_ (i := 0) (N := some 49) (v := ?_) (a' := ?_) #[true, false, false, false, false, false, false, false, false, false, false, false, false, false, false, false, false, false] rfl rfl (any_of HT_.out (by kernel_rfl)) (fun _ _ _ h => h) (Or.inl ⟨by rfl, ?_⟩) ?_ ?_
                        rotate_left
                        · intro w'
                          go_simp
                          with_reducible rfl
                        rotate_left
                        · simp only [Act.put, List.setIfInBounds_toArray, List.set_cons_zero, List.set_cons_succ, i64_w, i32_w]
                          rfl
                        refine pure_ (i := 1) (N := some 50) (v := ?_) (a' := ?_) #[true, true, false, false, false, false, false, false, false, false, false, false, false, false, false, false, false, false] rfl rfl (any_of HT_.out (by kernel_rfl)) (fun _ _ _ h => h) (Or.inl ⟨by rfl, ?_⟩) ?_ ?_
                        rotate_left
                        · intro w'
                          go_simp
                          with_reducible rfl
                        rotate_left
                        · simp only [Act.put, List.setIfInBounds_toArray, List.set_cons_zero, List.set_cons_succ, i64_w, i32_w]
                          rfl
                        refine pure_ (i := 4) (N := some 53) (v := ?_) (a' := ?_) #[true, true, false, false, true, false, false, false, false, false, false, false, false, false, false, false, false, false] rfl rfl (any_of HT_.out (by kernel_rfl)) (fun _ _ _ h => h) (Or.inl ⟨by rfl, ?_⟩) ?_ ?_
                        rotate_left
                        · intro w'
                          go_simp
                          with_reducible rfl
                        rotate_left
                        · simp only [Act.put, List.setIfInBounds_toArray, List.set_cons_zero, List.set_cons_succ, i64_w, i32_w]
                          rfl
                        refine pure_ (i := 7) (N := some 56) (v := ?_) (a' := ?_) #[true, true, false, false, true, false, false, true, false, false, false, false, false, false, false, false, false, false] rfl rfl (any_of HT_.out (by kernel_rfl)) (fun _ _ _ h => h) (Or.inl ⟨by rfl, ?_⟩) ?_ ?_
                        rotate_left
                        · intro w'
                          go_simp
                          with_reducible rfl
                        rotate_left
                        · simp only [Act.put, List.setIfInBounds_toArray, List.set_cons_zero, List.set_cons_succ, i64_w, i32_w]
                          rfl
                        refine pure_ (i := 11) (N := some 60) (v := ?_) (a' := ?_) #[true, true, false, false, true, false, false, true, false, false, false, true, false, false, false, false, false, false] rfl rfl (any_of HT_.out (by kernel_rfl)) (fun _ _ _ h => h) (Or.inl ⟨by rfl, ?_⟩) ?_ ?_
                        rotate_left
                        · intro w'
                          go_simp
                          with_reducible rfl
                        rotate_left
                        · simp only [Act.put, List.setIfInBounds_toArray, List.set_cons_zero, List.set_cons_succ, i64_w, i32_w]
                          rfl
                        refine pure_ (i := 12) (N := some 61) (v := ?_) (a' := ?_) #[true, true, false, false, true, false, false, true, false, false, false, true, true, false, false, false, false, false] rfl rfl (any_of HT_.out (by kernel_rfl)) (fun _ _ _ h => h) (Or.inl ⟨by rfl, ?_⟩) ?_ ?_
                        rotate_left
                        · intro w'
                          go_simp
                          with_reducible rfl
                        rotate_left
                        · simp only [Act.put, List.setIfInBounds_toArray, List.set_cons_zero, List.set_cons_succ, i64_w, i32_w]
                          rfl
                        refine pure_ (i := 13) (N := some 62) (v := ?_) (a' := ?_) #[true, true, false, false, true, false, false, true, false, false, false, true, true, true, false, false, false, false] rfl rfl (any_of HT_.out (by kernel_rfl)) (fun _ _ _ h => h) (Or.inl ⟨by rfl, ?_⟩) ?_ ?_
                        rotate_left
                        · intro w'
                          go_simp
                          with_reducible rfl
                        rotate_left
                        · simp only [Act.put, List.setIfInBounds_toArray, List.set_cons_zero, List.set_cons_succ, i64_w, i32_w]
                          rfl
                        refine pure_ (i := 14) (N := some 63) (v := ?_) (a' := ?_) #[true, true, false, false, true, false, false, true, false, false, false, true, true, true, true, false, false, false] rfl rfl (any_of HT_.out (by kernel_rfl)) (fun _ _ _ h => h) (Or.inl ⟨by rfl, ?_⟩) ?_ ?_
                        rotate_left
                        · intro w'
                          go_simp
                          with_reducible rfl
                        rotate_left
                        · simp only [Act.put, List.setIfInBounds_toArray, List.set_cons_zero, List.set_cons_succ, i64_w, i32_w]
                          rfl
                        refine take_ (i := 5) (N := some 54) (v := ?_) (a' := ?_) #[true, true, false, false, true, true, false, true, false, false, false, true, true, true, true, false, false, false] rfl rfl (take_ofW HT_.out HW_.out (by kernel_rfl)) (fun _ _ _ h => h) (Or.inl ⟨by rfl, ?_⟩) hHeld ?_ ?_
                        rotate_left
                        · rintro w' ⟨s0, s1, s2, s3⟩
                          go_simp
                          with_reducible rfl
                        rotate_left
                        · simp only [Act.put, List.setIfInBounds_toArray, List.set_cons_zero, List.set_cons_succ, i64_w, i32_w]
                          rfl
                        refine join_ (σ := Value × Value) 4 #[true, true, true, true, true, true, true, true, true, true, false, true, true, true, true, false, false, false] (fun s_ => [(51, s_.1), (52, .string (strOfNums y139)), (57, s_.2), (58, .string (strOfNums y142)), (55, .string ((strOfNums y139) ++ x139003_13))]) (fun s_ w' => (w'.cell? ⟨gb138, 0, none⟩ = some (.int .i64 1) ∧ w'.cell? ⟨gb138, 1, none⟩ = some (.int .i64 (Go.bits .or .i64 x139001_13 8)) ∧ w'.cell? ⟨gb138, 2, none⟩ = some (.int .i64 1) ∧ w'.cell? ⟨gb138, 3, none⟩ = some (.string x139003_13)) ∧ (Kd.R (Kd.int .u8) 5 w' w.heap.size (fun k_ => some k_ ≠ (s_.2 : Value).ownBlock) s_.1 y139) ∧ (Kd.R (Kd.int .u8) 5 w' w.heap.size (fun k_ => some k_ ≠ (s_.1 : Value).ownBlock) s_.2 y142) ∧ (w'.heap[gb138]? = some (.cells #[.int .i64 1, .int .i64 (Go.bits .or .i64 x139001_13 8), .int .i64 1, .string x139003_13] 23 (0, 0))) ∧ (Below w.heap.size w w')) ?_ ?_
                        rotate_left
                        · intro hJ2_3_8_9
                          refine join_ (σ := Value × Value) 5 #[true, true, true, true, true, true, true, true, true, false, false, true, true, true, true, false, false, false] (fun s_ => [(51, s_.1), (52, .string (strOfNums y139)), (57, s_.2), (55, .string ((strOfNums y139) ++ x139003_13))]) (fun s_ w' => (w'.cell? ⟨gb138, 0, none⟩ = some (.int .i64 1) ∧ w'.cell? ⟨gb138, 1, none⟩ = some (.int .i64 (Go.bits .or .i64 x139001_13 8)) ∧ w'.cell? ⟨gb138, 2, none⟩ = some (.int .i64 1) ∧ w'.cell? ⟨gb138, 3, none⟩ = some (.string x139003_13)) ∧ (Kd.R (Kd.int .u8) 5 w' w.heap.size (fun k_ => some k_ ≠ (s_.2 : Value).ownBlock) s_.1 y139) ∧ (Kd.R (Kd.int .u8) 5 w' w.heap.size (fun k_ => some k_ ≠ (s_.1 : Value).ownBlock) s_.2 y142) ∧ (w'.heap[gb138]? = some (.cells #[.int .i64 1, .int .i64 (Go.bits .or .i64 x139001_13 8), .int .i64 1, .string x139003_13] 23 (0, 0))) ∧ (Below w.heap.size w w')) ?_ ?_
                          rotate_left
                          · intro hJ2_3_8
                            refine join_ (σ := Value × Value) 6 #[true, true, true, false, true, true, false, true, true, true, false, true, true, true, true, false, false, false] (fun s_ => [(51, s_.1), (57, s_.2), (58, .string (strOfNums y142))]) (fun s_ w' => (w'.cell? ⟨gb138, 0, none⟩ = some (.int .i64 1) ∧ w'.cell? ⟨gb138, 1, none⟩ = some (.int .i64 (Go.bits .or .i64 x139001_13 8)) ∧ w'.cell? ⟨gb138, 2, none⟩ = some (.int .i64 1) ∧ w'.cell? ⟨gb138, 3, none⟩ = some (.string x139003_13)) ∧ (Kd.R (Kd.int .u8) 5 w' w.heap.size (fun k_ => some k_ ≠ (s_.2 : Value).ownBlock) s_.1 y139) ∧ (Kd.R (Kd.int .u8) 5 w' w.heap.size (fun k_ => some k_ ≠ (s_.1 : Value).ownBlock) s_.2 y142) ∧ (w'.heap[gb138]? = some (.cells #[.int .i64 1, .int .i64 (Go.bits .or .i64 x139001_13 8), .int .i64 1, .string x139003_13] 23 (0, 0))) ∧ (Below w.heap.size w w')) ?_ ?_
                            rotate_left
                            · intro hJ2_8_9
                              refine join_ (σ := Value) 6 #[true, true, true, true, true, true, true, true, false, false, false, true, true, true, true, false, false, false] (fun s_ => [(51, s_), (52, .string (strOfNums y139)), (55, .string ((strOfNums y139) ++ x139003_13))]) (fun s_ w' => (w'.cell? ⟨gb138, 0, none⟩ = some (.int .i64 1) ∧ w'.cell? ⟨gb138, 1, none⟩ = some (.int .i64 (Go.bits .or .i64 x139001_13 8)) ∧ w'.cell? ⟨gb138, 2, none⟩ = some (.int .i64 1) ∧ w'.cell? ⟨gb138, 3, none⟩ = some (.string x139003_13)) ∧ (Kd.R (Kd.int .u8) 5 w' w.heap.size (fun _ => True) s_ y139) ∧ (w'.heap[gb138]? = some (.cells #[.int .i64 1, .int .i64 (Go.bits .or .i64 x139001_13 8), .int .i64 1, .string x139003_13] 23 (0, 0))) ∧ (Below w.heap.size w w')) ?_ ?_
                              rotate_left
                              · intro hJ2_3
                                refine join_ (σ := Value × Value) 7 #[true, true, true, false, true, true, false, true, true, false, false, true, true, true, true, false, false, false] (fun s_ => [(51, s_.1), (57, s_.2)]) (fun s_ w' => (w'.cell? ⟨gb138, 0, none⟩ = some (.int .i64 1) ∧ w'.cell? ⟨gb138, 1, none⟩ = some (.int .i64 (Go.bits .or .i64 x139001_13 8)) ∧ w'.cell? ⟨gb138, 2, none⟩ = some (.int .i64 1) ∧ w'.cell? ⟨gb138, 3, none⟩ = some (.string x139003_13)) ∧ (Kd.R (Kd.int .u8) 5 w' w.heap.size (fun k_ => some k_ ≠ (s_.2 : Value).ownBlock) s_.1 y139) ∧ (Kd.R (Kd.int .u8) 5 w' w.heap.size (fun k_ => some k_ ≠ (s_.1 : Value).ownBlock) s_.2 y142) ∧ (w'.heap[gb138]? = some (.cells #[.int .i64 1, .int .i64 (Go.bits .or .i64 x139001_13 8), .int .i64 1, .string x139003_13] 23 (0, 0))) ∧ (Below w.heap.size w w')) ?_ ?_
                                rotate_left
                                · intro hJ2_8
                                  refine join_ (σ := Value) 7 #[true, true, false, false, true, true, false, true, true, true, false, true, true, true, true, false, false, false] (fun s_ => [(57, s_), (58, .string (strOfNums y142))]) (fun s_ w' => (w'.cell? ⟨gb138, 0, none⟩ = some (.int .i64 1) ∧ w'.cell? ⟨gb138, 1, none⟩ = some (.int .i64 (Go.bits .or .i64 x139001_13 8)) ∧ w'.cell? ⟨gb138, 2, none⟩ = some (.int .i64 1) ∧ w'.cell? ⟨gb138, 3, none⟩ = some (.string x139003_13)) ∧ (Kd.R (Kd.int .u8) 5 w' w.heap.size (fun _ => True) s_ y142) ∧ (w'.heap[gb138]? = some (.cells #[.int .i64 1, .int .i64 (Go.bits .or .i64 x139001_13 8), .int .i64 1, .string x139003_13] 23 (0, 0))) ∧ (Below w.heap.size w w')) ?_ ?_
                                  rotate_left
                                  · intro hJ8_9
                                    refine join_ (σ := Value) 8 #[true, true, true, false, true, true, false, true, false, false, false, true, true, true, true, false, false, false] (fun s_ => [(51, s_)]) (fun s_ w' => (w'.cell? ⟨gb138, 0, none⟩ = some (.int .i64 1) ∧ w'.cell? ⟨gb138, 1, none⟩ = some (.int .i64 (Go.bits .or .i64 x139001_13 8)) ∧ w'.cell? ⟨gb138, 2, none⟩ = some (.int .i64 1) ∧ w'.cell? ⟨gb138, 3, none⟩ = some (.string x139003_13)) ∧ (Kd.R (Kd.int .u8) 5 w' w.heap.size (fun _ => True) s_ y139) ∧ (w'.heap[gb138]? = some (.cells #[.int .i64 1, .int .i64 (Go.bits .or .i64 x139001_13 8), .int .i64 1, .string x139003_13] 23 (0, 0))) ∧ (Below w.heap.size w w')) ?_ ?_
                                    rotate_left
                                    · intro hJ2
                                      refine join_ (σ := Value) 8 #[true, true, false, false, true, true, false, true, true, false, false, true, true, true, true, false, false, false] (fun s_ => [(57, s_)]) (fun s_ w' => (w'.cell? ⟨gb138, 0, none⟩ = some (.int .i64 1) ∧ w'.cell? ⟨gb138, 1, none⟩ = some (.int .i64 (Go.bits .or .i64 x139001_13 8)) ∧ w'.cell? ⟨gb138, 2, none⟩ = some (.int .i64 1) ∧ w'.cell? ⟨gb138, 3, none⟩ = some (.string x139003_13)) ∧ (Kd.R (Kd.int .u8) 5 w' w.heap.size (fun _ => True) s_ y142) ∧ (w'.heap[gb138]? = some (.cells #[.int .i64 1, .int .i64 (Go.bits .or .i64 x139001_13 8), .int .i64 1, .string x139003_13] 23 (0, 0))) ∧ (Below w.heap.size w w')) ?_ ?_
                                      rotate_left
                                      · intro hJ8
                                        refine two_ (i := 2) (j := 8) (Ni := some 51) (Nj := some 57) #[true, true, true, false, true, true, false, true, false, false, false, true, true, true, true, false, false, false] #[true, true, false, false, true, true, false, true, true, false, false, true, true, true, true, false, false, false] rfl rfl rfl rfl (two_of HT_.out (by kernel_rfl)) (by decide) (by decide) (fun K hK => ?_) (fun K hK => ?_)
                                        · skip
                                          refine Kd.R_lit_step (Kd.int .u8) _ 5 ?hg (N := 51) ?hd (xs := ([(a1) % 256] : List Int)) (inner := [.int .u8 ((a1) % 256)]) (ok := fun _ => True) (okp := fun _ => True) ?hr ?hp (fun _ hk => hk) trivial (Below.refl _ _) (Nat.le_refl _) (by simp) ?_; (case hd => rfl); (case hg => rfl); (case hr => first | (go_simp; done) | (go_simp; rfl)); (case hp => exact (Reps.one (show Kd.M (Kd.int .u8) _ _ _ ((a1) % 256) [.int .u8 ((a1) % 256)] from rfl) (Reps.none _ _)))
                                          intro v140 w29 ho30 hb hg_ hnew_
                                          clear hg_ hnew_
                                          (first | rw [← Ny139.out] at ho30 | (simp only [Int.reduceToNat] at ho30; rw [← Ny139.out] at ho30))
                                          have n0_ := Aside0.mk (Kd.R_lower ho30 (below_size (by repeat (first | (with_reducible first | exact HB.out | apply below_alloc | apply pw_below_drewN | apply below_drew1 | refine below_set ?_ GE138.out) | exact HB.out))))
                                          have n1_ := Aside0.mk (blk_below (g := gb138) (o := .cells #[.int .i64 1, .int .i64 (Go.bits .or .i64 x139001_13 8), .int .i64 1, .string x139003_13] 23 (0, 0)) (by (with_reducible repeat (first | refine blk_drewN ?_ _ | refine blk_drew ?_ | refine blk_alloc ?_ _)); exact BK138.out) hb)
                                          have n2_ := Aside0.mk (below_step (by repeat (first | (with_reducible first | exact HB.out | apply below_alloc | apply pw_below_drewN | apply below_drew1 | refine below_set ?_ GE138.out) | exact HB.out)) hb)
                                          clear BK138
                                          clear HB
                                          have HO141 := n0_
                                          have BK138 := n1_
                                          have HB := n2_
                                          clear n0_ n1_ n2_
                                          clear hb ho30
                                          refine hK.out _ _ ⟨(blk_cell BK138.out 0).trans rfl, (blk_cell BK138.out 1).trans rfl, (blk_cell BK138.out 2).trans rfl, (blk_cell BK138.out 3).trans rfl⟩ (fun hHeld => ?_)
                                          clear hK K
                                          refine norm_ (a' := ?_) ?_ ?_
                                          rotate_left
                                          · show Act.put _ (some 51) _ = _
                                            simp only [Act.put, List.setIfInBounds_toArray, List.set_cons_zero, List.set_cons_succ, i64_w, i32_w]
                                            rfl
                                          exact norm_ (by first | (simp only [putAll, Act.put, List.setIfInBounds_toArray, List.set_cons_zero, List.set_cons_succ]; done) | (simp only [putAll, Act.put, List.setIfInBounds_toArray, List.set_cons_zero, List.set_cons_succ]; rfl)) (hJ2 (v140) _ ⟨hHeld, (by (with_reducible repeat (first | apply Kd.R_alloc | apply Kd.R_drewN | apply Kd.R_drew)); exact HO141.out), (by (with_reducible repeat (first | refine blk_drewN ?_ _ | refine blk_drew ?_ | refine blk_alloc ?_ _)); exact BK138.out), (by repeat (first | (with_reducible first | exact HB.out | apply below_alloc | apply pw_below_drewN | apply below_drew1 | refine below_set ?_ GE138.out) | exact HB.out))⟩)
                                        · skip
                                          refine Kd.R_make_step (Kd.int .u8) _ 5 (by rfl) (N := 57) rfl 35 _ _ rfl a1 rfl rfl Try.underlying35 (.int .u8 0) 1 info5 rfl (by decide) (by omega) 0 (ok := fun _ => True) (okp := fun _ => True) rfl (fun _ hk => hk) trivial (of_decide_eq_true (by first | (with_reducible assumption) | assumption)) (Nat.le_trans (Nat.mul_le_mul_right _ (of_decide_eq_true (by first | (with_reducible assumption) | assumption) : a1.toNat ≤ 281474976710656)) (by omega)) (Below.refl _ _) (Nat.le_refl _) ?_
                                          intro v143 w29 ho30 hb hg_ hnew_
                                          clear hg_ hnew_
                                          (first | rw [← Ny142.out] at ho30 | (simp only [Int.reduceToNat] at ho30; rw [← Ny142.out] at ho30))
                                          have n0_ := Aside0.mk (Kd.R_lower ho30 (below_size (by repeat (first | (with_reducible first | exact HB.out | apply below_alloc | apply pw_below_drewN | apply below_drew1 | refine below_set ?_ GE138.out) | exact HB.out))))
                                          have n1_ := Aside0.mk (blk_below (g := gb138) (o := .cells #[.int .i64 1, .int .i64 (Go.bits .or .i64 x139001_13 8), .int .i64 1, .string x139003_13] 23 (0, 0)) (by (with_reducible repeat (first | refine blk_drewN ?_ _ | refine blk_drew ?_ | refine blk_alloc ?_ _)); exact BK138.out) hb)
                                          have n2_ := Aside0.mk (below_step (by repeat (first | (with_reducible first | exact HB.out | apply below_alloc | apply pw_below_drewN | apply below_drew1 | refine below_set ?_ GE138.out) | exact HB.out)) hb)
                                          clear BK138
                                          clear HB
                                          have HO144 := n0_
                                          have BK138 := n1_
                                          have HB := n2_
                                          clear n0_ n1_ n2_
                                          clear hb ho30
                                          refine hK.out _ _ ⟨(blk_cell BK138.out 0).trans rfl, (blk_cell BK138.out 1).trans rfl, (blk_cell BK138.out 2).trans rfl, (blk_cell BK138.out 3).trans rfl⟩ (fun hHeld => ?_)
                                          clear hK K
                                          refine norm_ (a' := ?_) ?_ ?_
                                          rotate_left
                                          · show Act.put _ (some 57) _ = _
                                            simp only [Act.put, List.setIfInBounds_toArray, List.set_cons_zero, List.set_cons_succ, i64_w, i32_w]
                                            rfl
                                          exact norm_ (by first | (simp only [putAll, Act.put, List.setIfInBounds_toArray, List.set_cons_zero, List.set_cons_succ]; done) | (simp only [putAll, Act.put, List.setIfInBounds_toArray, List.set_cons_zero, List.set_cons_succ]; rfl)) (hJ8 (v143) _ ⟨hHeld, (by (with_reducible repeat (first | apply Kd.R_alloc | apply Kd.R_drewN | apply Kd.R_drew)); exact HO144.out), (by (with_reducible repeat (first | refine blk_drewN ?_ _ | refine blk_drew ?_ | refine blk_alloc ?_ _)); exact BK138.out), (by repeat (first | (with_reducible first | exact HB.out | apply below_alloc | apply pw_below_drewN | apply below_drew1 | refine below_set ?_ GE138.out) | exact HB.out))⟩)
                                      · skip
                                        rintro v143 w31 ⟨hS_, h0_, h1_, h2_⟩
                                        have n0_ : Aside0 (Kd.R (Kd.int .u8) 5 w31 w.heap.size (fun _ => True) v143 y142) := ⟨h0_⟩
                                        have n1_ : Aside0 (w31.heap[gb138]? = some (.cells #[.int .i64 1, .int .i64 (Go.bits .or .i64 x139001_13 8), .int .i64 1, .string x139003_13] 23 (0, 0))) := ⟨h1_⟩
                                        have n2_ : Aside0 (Below w.heap.size w w31) := ⟨h2_⟩
                                        clear BK138
                                        clear HB
                                        clear h0_ h1_ h2_
                                        have HO144 := n0_
                                        have BK138 := n1_
                                        have HB := n2_
                                        clear n0_ n1_ n2_
                                        have hHeld : w31.cell? ⟨gb138, 0, none⟩ = some (.int .i64 1) ∧ w31.cell? ⟨gb138, 1, none⟩ = some (.int .i64 (Go.bits .or .i64 x139001_13 8)) ∧ w31.cell? ⟨gb138, 2, none⟩ = some (.int .i64 1) ∧ w31.cell? ⟨gb138, 3, none⟩ = some (.string x139003_13) := hS_
                                        refine norm_ (a' := ?_) ?_ ?_
                                        rotate_left
                                        · simp only [putAll, Act.put, List.setIfInBounds_toArray, List.set_cons_zero, List.set_cons_succ]
                                          rfl
                                        refine two_ (i := 2) (j := 9) (Ni := some 51) (Nj := some 58) #[true, true, true, false, true, true, false, true, true, false, false, true, true, true, true, false, false, false] #[true, true, false, false, true, true, false, true, true, true, false, true, true, true, true, false, false, false] rfl rfl rfl rfl (two_of HT_.out (by kernel_rfl)) (by decide) (by decide) (fun K hK => ?_) (fun K hK => ?_)
                                        · skip
                                          refine Kd.R_lit_step (Kd.int .u8) _ 5 ?hg (N := 51) ?hd (xs := ([(a1) % 256] : List Int)) (inner := [.int .u8 ((a1) % 256)]) (ok := fun _ => True) (okp := fun _ => True) ?hr ?hp (fun _ hk => hk) trivial (Below.refl _ _) (Nat.le_refl _) (by simp) ?_; (case hd => rfl); (case hg => rfl); (case hr => first | (go_simp; done) | (go_simp; rfl)); (case hp => exact (Reps.one (show Kd.M (Kd.int .u8) _ _ _ ((a1) % 256) [.int .u8 ((a1) % 256)] from rfl) (Reps.none _ _)))
                                          intro v140 w32 ho33 hb hg_ hnew_
                                          clear hg_ hnew_
                                          (first | rw [← Ny139.out] at ho33 | (simp only [Int.reduceToNat] at ho33; rw [← Ny139.out] at ho33))
                                          have n0_ := Aside0.mk (Kd.R_elder' (by (with_reducible repeat (first | apply Kd.R_alloc | apply Kd.R_drewN | apply Kd.R_drew)); exact HO144.out) (Kd.R_base ho33) hb)
                                          have n1_ := Aside0.mk (Kd.R_lower (Kd.R_new' ho33 (Kd.R_lt (by (with_reducible repeat (first | apply Kd.R_alloc | apply Kd.R_drewN | apply Kd.R_drew)); exact HO144.out))) (below_size (by repeat (first | (with_reducible first | exact HB.out | apply below_alloc | apply pw_below_drewN | apply below_drew1 | refine below_set ?_ GE138.out) | exact HB.out))))
                                          have n2_ := Aside0.mk (blk_below (g := gb138) (o := .cells #[.int .i64 1, .int .i64 (Go.bits .or .i64 x139001_13 8), .int .i64 1, .string x139003_13] 23 (0, 0)) (by (with_reducible repeat (first | refine blk_drewN ?_ _ | refine blk_drew ?_ | refine blk_alloc ?_ _)); exact BK138.out) hb)
                                          have n3_ := Aside0.mk (below_step (by repeat (first | (with_reducible first | exact HB.out | apply below_alloc | apply pw_below_drewN | apply below_drew1 | refine below_set ?_ GE138.out) | exact HB.out)) hb)
                                          clear HO144
                                          clear BK138
                                          clear HB
                                          have HO144 := n0_
                                          have HO141 := n1_
                                          have BK138 := n2_
                                          have HB := n3_
                                          clear n0_ n1_ n2_ n3_
                                          clear hb ho33
                                          refine hK.out _ _ ⟨(blk_cell BK138.out 0).trans rfl, (blk_cell BK138.out 1).trans rfl, (blk_cell BK138.out 2).trans rfl, (blk_cell BK138.out 3).trans rfl⟩ (fun hHeld => ?_)
                                          clear hK K
                                          refine norm_ (a' := ?_) ?_ ?_
                                          rotate_left
                                          · show Act.put _ (some 51) _ = _
                                            simp only [Act.put, List.setIfInBounds_toArray, List.set_cons_zero, List.set_cons_succ, i64_w, i32_w]
                                            rfl
                                          exact norm_ (by first | (simp only [putAll, Act.put, List.setIfInBounds_toArray, List.set_cons_zero, List.set_cons_succ]; done) | (simp only [putAll, Act.put, List.setIfInBounds_toArray, List.set_cons_zero, List.set_cons_succ]; rfl)) (hJ2_8 (v140, v143) _ ⟨hHeld, (by (with_reducible repeat (first | apply Kd.R_alloc | apply Kd.R_drewN | apply Kd.R_drew)); exact Kd.R_mono HO141.out (fun _ hk => hk.2)), (by (with_reducible repeat (first | apply Kd.R_alloc | apply Kd.R_drewN | apply Kd.R_drew)); exact Kd.R_mono HO144.out (fun _ hk => hk.2)), (by (with_reducible repeat (first | refine blk_drewN ?_ _ | refine blk_drew ?_ | refine blk_alloc ?_ _)); exact BK138.out), (by repeat (first | (with_reducible first | exact HB.out | apply below_alloc | apply pw_below_drewN | apply below_drew1 | refine below_set ?_ GE138.out) | exact HB.out))⟩)
                                        · skip
                                          have hcv32 := own_string (P := Try.prog) Try.underlying35 Try.underlying5 Try.underlying9 (Kd.own_of_R HO144.out)
                                          refine value_ (w1 := ?_) (v := ?_) (by rfl) rfl ?_ ?_
                                          rotate_left 2
                                          · go_simp
                                            constructor
                                            · rfl
                                            · rfl
                                          clear hcv32
                                          refine hK.out _ _ ⟨(blk_cell BK138.out 0).trans rfl, (blk_cell BK138.out 1).trans rfl, (blk_cell BK138.out 2).trans rfl, (blk_cell BK138.out 3).trans rfl⟩ (fun hHeld => ?_)
                                          clear hK K
                                          refine norm_ (a' := ?_) ?_ ?_
                                          rotate_left
                                          · show Act.put _ (some 58) _ = _
                                            simp only [Act.put, List.setIfInBounds_toArray, List.set_cons_zero, List.set_cons_succ, i64_w, i32_w]
                                            rfl
                                          exact norm_ (by first | (simp only [putAll, Act.put, List.setIfInBounds_toArray, List.set_cons_zero, List.set_cons_succ]; done) | (simp only [putAll, Act.put, List.setIfInBounds_toArray, List.set_cons_zero, List.set_cons_succ]; rfl)) (hJ8_9 (v143) _ ⟨hHeld, (by (with_reducible repeat (first | apply Kd.R_alloc | apply Kd.R_drewN | apply Kd.R_drew)); exact HO144.out), (by (with_reducible repeat (first | refine blk_drewN ?_ _ | refine blk_drew ?_ | refine blk_alloc ?_ _)); exact BK138.out), (by repeat (first | (with_reducible first | exact HB.out | apply below_alloc | apply pw_below_drewN | apply below_drew1 | refine below_set ?_ GE138.out) | exact HB.out))⟩)
                                    · skip
                                      rintro v140 w31 ⟨hS_, h0_, h1_, h2_⟩
                                      have n0_ : Aside0 (Kd.R (Kd.int .u8) 5 w31 w.heap.size (fun _ => True) v140 y139) := ⟨h0_⟩
                                      have n1_ : Aside0 (w31.heap[gb138]? = some (.cells #[.int .i64 1, .int .i64 (Go.bits .or .i64 x139001_13 8), .int .i64 1, .string x139003_13] 23 (0, 0))) := ⟨h1_⟩
                                      have n2_ : Aside0 (Below w.heap.size w w31) := ⟨h2_⟩
                                      clear BK138
                                      clear HB
                                      clear h0_ h1_ h2_
                                      have HO141 := n0_
                                      have BK138 := n1_
                                      have HB := n2_
                                      clear n0_ n1_ n2_
                                      have hHeld : w31.cell? ⟨gb138, 0, none⟩ = some (.int .i64 1) ∧ w31.cell? ⟨gb138, 1, none⟩ = some (.int .i64 (Go.bits .or .i64 x139001_13 8)) ∧ w31.cell? ⟨gb138, 2, none⟩ = some (.int .i64 1) ∧ w31.cell? ⟨gb138, 3, none⟩ = some (.string x139003_13) := hS_
                                      refine norm_ (a' := ?_) ?_ ?_
                                      rotate_left
                                      · simp only [putAll, Act.put, List.setIfInBounds_toArray, List.set_cons_zero, List.set_cons_succ]
                                        rfl
                                      refine two_ (i := 3) (j := 8) (Ni := some 52) (Nj := some 57) #[true, true, true, true, true, true, false, true, false, false, false, true, true, true, true, false, false, false] #[true, true, true, false, true, true, false, true, true, false, false, true, true, true, true, false, false, false] rfl rfl rfl rfl (two_of HT_.out (by kernel_rfl)) (by decide) (by decide) (fun K hK => ?_) (fun K hK => ?_)
                                      · skip
                                        have hcv32 := own_string (P := Try.prog) Try.underlying35 Try.underlying5 Try.underlying9 (Kd.own_of_R HO141.out)
                                        refine value_ (w1 := ?_) (v := ?_) (by rfl) rfl ?_ ?_
                                        rotate_left 2
                                        · go_simp
                                          constructor
                                          · rfl
                                          · rfl
                                        clear hcv32
                                        refine hK.out _ _ ⟨(blk_cell BK138.out 0).trans rfl, (blk_cell BK138.out 1).trans rfl, (blk_cell BK138.out 2).trans rfl, (blk_cell BK138.out 3).trans rfl⟩ (fun hHeld => ?_)
                                        clear hK K
                                        refine norm_ (a' := ?_) ?_ ?_
                                        rotate_left
                                        · show Act.put _ (some 52) _ = _
                                          simp only [Act.put, List.setIfInBounds_toArray, List.set_cons_zero, List.set_cons_succ, i64_w, i32_w]
                                          rfl
                                        refine pure_ (i := 6) (N := some 55) (v := ?_) (a' := ?_) #[true, true, true, true, true, true, true, true, false, false, false, true, true, true, true, false, false, false] rfl rfl (any_of HT_.out (by kernel_rfl)) (fun _ _ _ h => h) (Or.inl ⟨by rfl, ?_⟩) ?_ ?_
                                        rotate_left
                                        · intro w'
                                          go_simp
                                          with_reducible rfl
                                        rotate_left
                                        · simp only [Act.put, List.setIfInBounds_toArray, List.set_cons_zero, List.set_cons_succ, i64_w, i32_w]
                                          rfl
                                        exact norm_ (by first | (simp only [putAll, Act.put, List.setIfInBounds_toArray, List.set_cons_zero, List.set_cons_succ]; done) | (simp only [putAll, Act.put, List.setIfInBounds_toArray, List.set_cons_zero, List.set_cons_succ]; rfl)) (hJ2_3 (v140) _ ⟨hHeld, (by (with_reducible repeat (first | apply Kd.R_alloc | apply Kd.R_drewN | apply Kd.R_drew)); exact HO141.out), (by (with_reducible repeat (first | refine blk_drewN ?_ _ | refine blk_drew ?_ | refine blk_alloc ?_ _)); exact BK138.out), (by repeat (first | (with_reducible first | exact HB.out | apply below_alloc | apply pw_below_drewN | apply below_drew1 | refine below_set ?_ GE138.out) | exact HB.out))⟩)
                                      · skip
                                        refine Kd.R_make_step (Kd.int .u8) _ 5 (by rfl) (N := 57) rfl 35 _ _ rfl a1 rfl rfl Try.underlying35 (.int .u8 0) 1 info5 rfl (by decide) (by omega) 0 (ok := fun _ => True) (okp := fun _ => True) rfl (fun _ hk => hk) trivial (of_decide_eq_true (by first | (with_reducible assumption) | assumption)) (Nat.le_trans (Nat.mul_le_mul_right _ (of_decide_eq_true (by first | (with_reducible assumption) | assumption) : a1.toNat ≤ 281474976710656)) (by omega)) (Below.refl _ _) (Nat.le_refl _) ?_
                                        intro v143 w32 ho33 hb hg_ hnew_
                                        clear hg_ hnew_
                                        (first | rw [← Ny142.out] at ho33 | (simp only [Int.reduceToNat] at ho33; rw [← Ny142.out] at ho33))
                                        have n0_ := Aside0.mk (Kd.R_elder' (by (with_reducible repeat (first | apply Kd.R_alloc | apply Kd.R_drewN | apply Kd.R_drew)); exact HO141.out) (Kd.R_base ho33) hb)
                                        have n1_ := Aside0.mk (Kd.R_lower (Kd.R_new' ho33 (Kd.R_lt (by (with_reducible repeat (first | apply Kd.R_alloc | apply Kd.R_drewN | apply Kd.R_drew)); exact HO141.out))) (below_size (by repeat (first | (with_reducible first | exact HB.out | apply below_alloc | apply pw_below_drewN | apply below_drew1 | refine below_set ?_ GE138.out) | exact HB.out))))
                                        have n2_ := Aside0.mk (blk_below (g := gb138) (o := .cells #[.int .i64 1, .int .i64 (Go.bits .or .i64 x139001_13 8), .int .i64 1, .string x139003_13] 23 (0, 0)) (by (with_reducible repeat (first | refine blk_drewN ?_ _ | refine blk_drew ?_ | refine blk_alloc ?_ _)); exact BK138.out) hb)
                                        have n3_ := Aside0.mk (below_step (by repeat (first | (with_reducible first | exact HB.out | apply below_alloc | apply pw_below_drewN | apply below_drew1 | refine below_set ?_ GE138.out) | exact HB.out)) hb)
                                        clear HO141
                                        clear BK138
                                        clear HB
                                        have HO141 := n0_
                                        have HO144 := n1_
                                        have BK138 := n2_
                                        have HB := n3_
                                        clear n0_ n1_ n2_ n3_
                                        clear hb ho33
                                        refine hK.out _ _ ⟨(blk_cell BK138.out 0).trans rfl, (blk_cell BK138.out 1).trans rfl, (blk_cell BK138.out 2).trans rfl, (blk_cell BK138.out 3).trans rfl⟩ (fun hHeld => ?_)
                                        clear hK K
                                        refine norm_ (a' := ?_) ?_ ?_
                                        rotate_left
                                        · show Act.put _ (some 57) _ = _
                                          simp only [Act.put, List.setIfInBounds_toArray, List.set_cons_zero, List.set_cons_succ, i64_w, i32_w]
                                          rfl
                                        exact norm_ (by first | (simp only [putAll, Act.put, List.setIfInBounds_toArray, List.set_cons_zero, List.set_cons_succ]; done) | (simp only [putAll, Act.put, List.setIfInBounds_toArray, List.set_cons_zero, List.set_cons_succ]; rfl)) (hJ2_8 (v140, v143) _ ⟨hHeld, (by (with_reducible repeat (first | apply Kd.R_alloc | apply Kd.R_drewN | apply Kd.R_drew)); exact Kd.R_mono HO141.out (fun _ hk => hk.2)), (by (with_reducible repeat (first | apply Kd.R_alloc | apply Kd.R_drewN | apply Kd.R_drew)); exact Kd.R_mono HO144.out (fun _ hk => hk.2)), (by (with_reducible repeat (first | refine blk_drewN ?_ _ | refine blk_drew ?_ | refine blk_alloc ?_ _)); exact BK138.out), (by repeat (first | (with_reducible first | exact HB.out | apply below_alloc | apply pw_below_drewN | apply below_drew1 | refine below_set ?_ GE138.out) | exact HB.out))⟩)
                                  · skip
                                    rintro v143 w32 ⟨hS_, h0_, h1_, h2_⟩
                                    have n0_ : Aside0 (Kd.R (Kd.int .u8) 5 w32 w.heap.size (fun _ => True) v143 y142) := ⟨h0_⟩
                                    have n1_ : Aside0 (w32.heap[gb138]? = some (.cells #[.int .i64 1, .int .i64 (Go.bits .or .i64 x139001_13 8), .int .i64 1, .string x139003_13] 23 (0, 0))) := ⟨h1_⟩
                                    have n2_ : Aside0 (Below w.heap.size w w32) := ⟨h2_⟩
                                    clear BK138
                                    clear HB
                                    clear h0_ h1_ h2_
                                    have HO144 := n0_
                                    have BK138 := n1_
                                    have HB := n2_
                                    clear n0_ n1_ n2_
                                    have hHeld : w32.cell? ⟨gb138, 0, none⟩ = some (.int .i64 1) ∧ w32.cell? ⟨gb138, 1, none⟩ = some (.int .i64 (Go.bits .or .i64 x139001_13 8)) ∧ w32.cell? ⟨gb138, 2, none⟩ = some (.int .i64 1) ∧ w32.cell? ⟨gb138, 3, none⟩ = some (.string x139003_13) := hS_
                                    refine norm_ (a' := ?_) ?_ ?_
                                    rotate_left
                                    · simp only [putAll, Act.put, List.setIfInBounds_toArray, List.set_cons_zero, List.set_cons_succ]
                                      rfl
                                    refine one_ (i := 2) (N := some 51) #[true, true, true, false, true, true, false, true, true, true, false, true, true, true, true, false, false, false] rfl rfl (one_of HT_.out (by kernel_rfl)) (by decide) (fun K hK => ?_)
                                    refine Kd.R_lit_step (Kd.int .u8) _ 5 ?hg (N := 51) ?hd (xs := ([(a1) % 256] : List Int)) (inner := [.int .u8 ((a1) % 256)]) (ok := fun _ => True) (okp := fun _ => True) ?hr ?hp (fun _ hk => hk) trivial (Below.refl _ _) (Nat.le_refl _) (by simp) ?_; (case hd => rfl); (case hg => rfl); (case hr => first | (go_simp; done) | (go_simp; rfl)); (case hp => exact (Reps.one (show Kd.M (Kd.int .u8) _ _ _ ((a1) % 256) [.int .u8 ((a1) % 256)] from rfl) (Reps.none _ _)))
                                    intro v140 w33 ho34 hb hg_ hnew_
                                    clear hg_ hnew_
                                    (first | rw [← Ny139.out] at ho34 | (simp only [Int.reduceToNat] at ho34; rw [← Ny139.out] at ho34))
                                    have n0_ := Aside0.mk (Kd.R_elder' (by (with_reducible repeat (first | apply Kd.R_alloc | apply Kd.R_drewN | apply Kd.R_drew)); exact HO144.out) (Kd.R_base ho34) hb)
                                    have n1_ := Aside0.mk (Kd.R_lower (Kd.R_new' ho34 (Kd.R_lt (by (with_reducible repeat (first | apply Kd.R_alloc | apply Kd.R_drewN | apply Kd.R_drew)); exact HO144.out))) (below_size (by repeat (first | (with_reducible first | exact HB.out | apply below_alloc | apply pw_below_drewN | apply below_drew1 | refine below_set ?_ GE138.out) | exact HB.out))))
                                    have n2_ := Aside0.mk (blk_below (g := gb138) (o := .cells #[.int .i64 1, .int .i64 (Go.bits .or .i64 x139001_13 8), .int .i64 1, .string x139003_13] 23 (0, 0)) (by (with_reducible repeat (first | refine blk_drewN ?_ _ | refine blk_drew ?_ | refine blk_alloc ?_ _)); exact BK138.out) hb)
                                    have n3_ := Aside0.mk (below_step (by repeat (first | (with_reducible first | exact HB.out | apply below_alloc | apply pw_below_drewN | apply below_drew1 | refine below_set ?_ GE138.out) | exact HB.out)) hb)
                                    clear HO144
                                    clear BK138
                                    clear HB
                                    have HO144 := n0_
                                    have HO141 := n1_
                                    have BK138 := n2_
                                    have HB := n3_
                                    clear n0_ n1_ n2_ n3_
                                    clear hb ho34
                                    refine hK.out _ _ ⟨(blk_cell BK138.out 0).trans rfl, (blk_cell BK138.out 1).trans rfl, (blk_cell BK138.out 2).trans rfl, (blk_cell BK138.out 3).trans rfl⟩ (fun hHeld => ?_)
                                    clear hK K
                                    refine norm_ (a' := ?_) ?_ ?_
                                    rotate_left
                                    · show Act.put _ (some 51) _ = _
                                      simp only [Act.put, List.setIfInBounds_toArray, List.set_cons_zero, List.set_cons_succ, i64_w, i32_w]
                                      rfl
                                    exact norm_ (by first | (simp only [putAll, Act.put, List.setIfInBounds_toArray, List.set_cons_zero, List.set_cons_succ]; done) | (simp only [putAll, Act.put, List.setIfInBounds_toArray, List.set_cons_zero, List.set_cons_succ]; rfl)) (hJ2_8_9 (v140, v143) _ ⟨hHeld, (by (with_reducible repeat (first | apply Kd.R_alloc | apply Kd.R_drewN | apply Kd.R_drew)); exact Kd.R_mono HO141.out (fun _ hk => hk.2)), (by (with_reducible repeat (first | apply Kd.R_alloc | apply Kd.R_drewN | apply Kd.R_drew)); exact Kd.R_mono HO144.out (fun _ hk => hk.2)), (by (with_reducible repeat (first | refine blk_drewN ?_ _ | refine blk_drew ?_ | refine blk_alloc ?_ _)); exact BK138.out), (by repeat (first | (with_reducible first | exact HB.out | apply below_alloc | apply pw_below_drewN | apply below_drew1 | refine below_set ?_ GE138.out) | exact HB.out))⟩)
                                · skip
                                  rintro ⟨v140, v143⟩ w33 ⟨hS_, h0_, h1_, h2_, h3_⟩
                                  have n0_ : Aside0 (Kd.R (Kd.int .u8) 5 w33 w.heap.size (fun k_ => some k_ ≠ (v143 : Value).ownBlock) v140 y139) := ⟨h0_⟩
                                  have n1_ : Aside0 (Kd.R (Kd.int .u8) 5 w33 w.heap.size (fun k_ => some k_ ≠ (v140 : Value).ownBlock) v143 y142) := ⟨h1_⟩
                                  have n2_ : Aside0 (w33.heap[gb138]? = some (.cells #[.int .i64 1, .int .i64 (Go.bits .or .i64 x139001_13 8), .int .i64 1, .string x139003_13] 23 (0, 0))) := ⟨h2_⟩
                                  have n3_ : Aside0 (Below w.heap.size w w33) := ⟨h3_⟩
                                  clear BK138
                                  clear HB
                                  clear h0_ h1_ h2_ h3_
                                  have HO141 := n0_
                                  have HO144 := n1_
                                  have BK138 := n2_
                                  have HB := n3_
                                  clear n0_ n1_ n2_ n3_
                                  have hHeld : w33.cell? ⟨gb138, 0, none⟩ = some (.int .i64 1) ∧ w33.cell? ⟨gb138, 1, none⟩ = some (.int .i64 (Go.bits .or .i64 x139001_13 8)) ∧ w33.cell? ⟨gb138, 2, none⟩ = some (.int .i64 1) ∧ w33.cell? ⟨gb138, 3, none⟩ = some (.string x139003_13) := hS_
                                  refine norm_ (a' := ?_) ?_ ?_
                                  rotate_left
                                  · simp only [putAll, Act.put, List.setIfInBounds_toArray, List.set_cons_zero, List.set_cons_succ]
                                    rfl
                                  refine two_ (i := 3) (j := 9) (Ni := some 52) (Nj := some 58) #[true, true, true, true, true, true, false, true, true, false, false, true, true, true, true, false, false, false] #[true, true, true, false, true, true, false, true, true, true, false, true, true, true, true, false, false, false] rfl rfl rfl rfl (two_of HT_.out (by kernel_rfl)) (by decide) (by decide) (fun K hK => ?_) (fun K hK => ?_)
                                  · skip
                                    have hcv34 := own_string (P := Try.prog) Try.underlying35 Try.underlying5 Try.underlying9 (Kd.own_of_R HO141.out)
                                    refine value_ (w1 := ?_) (v := ?_) (by rfl) rfl ?_ ?_
                                    rotate_left 2
                                    · go_simp
                                      constructor
                                      · rfl
                                      · rfl
                                    clear hcv34
                                    refine hK.out _ _ ⟨(blk_cell BK138.out 0).trans rfl, (blk_cell BK138.out 1).trans rfl, (blk_cell BK138.out 2).trans rfl, (blk_cell BK138.out 3).trans rfl⟩ (fun hHeld => ?_)
                                    clear hK K
                                    refine norm_ (a' := ?_) ?_ ?_
                                    rotate_left
                                    · show Act.put _ (some 52) _ = _
                                      simp only [Act.put, List.setIfInBounds_toArray, List.set_cons_zero, List.set_cons_succ, i64_w, i32_w]
                                      rfl
                                    refine pure_ (i := 6) (N := some 55) (v := ?_) (a' := ?_) #[true, true, true, true, true, true, true, true, true, false, false, true, true, true, true, false, false, false] rfl rfl (any_of HT_.out (by kernel_rfl)) (fun _ _ _ h => h) (Or.inl ⟨by rfl, ?_⟩) ?_ ?_
                                    rotate_left
                                    · intro w'
                                      go_simp
                                      with_reducible rfl
                                    rotate_left
                                    · simp only [Act.put, List.setIfInBounds_toArray, List.set_cons_zero, List.set_cons_succ, i64_w, i32_w]
                                      rfl
                                    exact norm_ (by first | (simp only [putAll, Act.put, List.setIfInBounds_toArray, List.set_cons_zero, List.set_cons_succ]; done) | (simp only [putAll, Act.put, List.setIfInBounds_toArray, List.set_cons_zero, List.set_cons_succ]; rfl)) (hJ2_3_8 (v140, v143) _ ⟨hHeld, (by (with_reducible repeat (first | apply Kd.R_alloc | apply Kd.R_drewN | apply Kd.R_drew)); exact HO141.out), (by (with_reducible repeat (first | apply Kd.R_alloc | apply Kd.R_drewN | apply Kd.R_drew)); exact HO144.out), (by (with_reducible repeat (first | refine blk_drewN ?_ _ | refine blk_drew ?_ | refine blk_alloc ?_ _)); exact BK138.out), (by repeat (first | (with_reducible first | exact HB.out | apply below_alloc | apply pw_below_drewN | apply below_drew1 | refine below_set ?_ GE138.out) | exact HB.out))⟩)
                                  · skip
                                    have hcv34 := own_string (P := Try.prog) Try.underlying35 Try.underlying5 Try.underlying9 (Kd.own_of_R HO144.out)
                                    refine value_ (w1 := ?_) (v := ?_) (by rfl) rfl ?_ ?_
                                    rotate_left 2
                                    · go_simp
                                      constructor
                                      · rfl
                                      · rfl
                                    clear hcv34
                                    refine hK.out _ _ ⟨(blk_cell BK138.out 0).trans rfl, (blk_cell BK138.out 1).trans rfl, (blk_cell BK138.out 2).trans rfl, (blk_cell BK138.out 3).trans rfl⟩ (fun hHeld => ?_)
                                    clear hK K
                                    refine norm_ (a' := ?_) ?_ ?_
                                    rotate_left
                                    · show Act.put _ (some 58) _ = _
                                      simp only [Act.put, List.setIfInBounds_toArray, List.set_cons_zero, List.set_cons_succ, i64_w, i32_w]
                                      rfl
                                    exact norm_ (by first | (simp only [putAll, Act.put, List.setIfInBounds_toArray, List.set_cons_zero, List.set_cons_succ]; done) | (simp only [putAll, Act.put, List.setIfInBounds_toArray, List.set_cons_zero, List.set_cons_succ]; rfl)) (hJ2_8_9 (v140, v143) _ ⟨hHeld, (by (with_reducible repeat (first | apply Kd.R_alloc | apply Kd.R_drewN | apply Kd.R_drew)); exact HO141.out), (by (with_reducible repeat (first | apply Kd.R_alloc | apply Kd.R_drewN | apply Kd.R_drew)); exact HO144.out), (by (with_reducible repeat (first | refine blk_drewN ?_ _ | refine blk_drew ?_ | refine blk_alloc ?_ _)); exact BK138.out), (by repeat (first | (with_reducible first | exact HB.out | apply below_alloc | apply pw_below_drewN | apply below_drew1 | refine below_set ?_ GE138.out) | exact HB.out))⟩)
                              · skip
                                rintro v140 w32 ⟨hS_, h0_, h1_, h2_⟩
                                have n0_ : Aside0 (Kd.R (Kd.int .u8) 5 w32 w.heap.size (fun _ => True) v140 y139) := ⟨h0_⟩
                                have n1_ : Aside0 (w32.heap[gb138]? = some (.cells #[.int .i64 1, .int .i64 (Go.bits .or .i64 x139001_13 8), .int .i64 1, .string x139003_13] 23 (0, 0))) := ⟨h1_⟩
                                have n2_ : Aside0 (Below w.heap.size w w32) := ⟨h2_⟩
                                clear BK138
                                clear HB
                                clear h0_ h1_ h2_
                                have HO141 := n0_
                                have BK138 := n1_
                                have HB := n2_
                                clear n0_ n1_ n2_
                                have hHeld : w32.cell? ⟨gb138, 0, none⟩ = some (.int .i64 1) ∧ w32.cell? ⟨gb138, 1, none⟩ = some (.int .i64 (Go.bits .or .i64 x139001_13 8)) ∧ w32.cell? ⟨gb138, 2, none⟩ = some (.int .i64 1) ∧ w32.cell? ⟨gb138, 3, none⟩ = some (.string x139003_13) := hS_
                                refine norm_ (a' := ?_) ?_ ?_
                                rotate_left
                                · simp only [putAll, Act.put, List.setIfInBounds_toArray, List.set_cons_zero, List.set_cons_succ]
                                  rfl
                                refine one_ (i := 8) (N := some 57) #[true, true, true, true, true, true, true, true, true, false, false, true, true, true, true, false, false, false] rfl rfl (one_of HT_.out (by kernel_rfl)) (by decide) (fun K hK => ?_)
                                refine Kd.R_make_step (Kd.int .u8) _ 5 (by rfl) (N := 57) rfl 35 _ _ rfl a1 rfl rfl Try.underlying35 (.int .u8 0) 1 info5 rfl (by decide) (by omega) 0 (ok := fun _ => True) (okp := fun _ => True) rfl (fun _ hk => hk) trivial (of_decide_eq_true (by first | (with_reducible assumption) | assumption)) (Nat.le_trans (Nat.mul_le_mul_right _ (of_decide_eq_true (by first | (with_reducible assumption) | assumption) : a1.toNat ≤ 281474976710656)) (by omega)) (Below.refl _ _) (Nat.le_refl _) ?_
                                intro v143 w33 ho34 hb hg_ hnew_
                                clear hg_ hnew_
                                (first | rw [← Ny142.out] at ho34 | (simp only [Int.reduceToNat] at ho34; rw [← Ny142.out] at ho34))
                                have n0_ := Aside0.mk (Kd.R_elder' (by (with_reducible repeat (first | apply Kd.R_alloc | apply Kd.R_drewN | apply Kd.R_drew)); exact HO141.out) (Kd.R_base ho34) hb)
                                have n1_ := Aside0.mk (Kd.R_lower (Kd.R_new' ho34 (Kd.R_lt (by (with_reducible repeat (first | apply Kd.R_alloc | apply Kd.R_drewN | apply Kd.R_drew)); exact HO141.out))) (below_size (by repeat (first | (with_reducible first | exact HB.out | apply below_alloc | apply pw_below_drewN | apply below_drew1 | refine below_set ?_ GE138.out) | exact HB.out))))
                                have n2_ := Aside0.mk (blk_below (g := gb138) (o := .cells #[.int .i64 1, .int .i64 (Go.bits .or .i64 x139001_13 8), .int .i64 1, .string x139003_13] 23 (0, 0)) (by (with_reducible repeat (first | refine blk_drewN ?_ _ | refine blk_drew ?_ | refine blk_alloc ?_ _)); exact BK138.out) hb)
                                have n3_ := Aside0.mk (below_step (by repeat (first | (with_reducible first | exact HB.out | apply below_alloc | apply pw_below_drewN | apply below_drew1 | refine below_set ?_ GE138.out) | exact HB.out)) hb)
                                clear HO141
                                clear BK138
                                clear HB
                                have HO141 := n0_
                                have HO144 := n1_
                                have BK138 := n2_
                                have HB := n3_
                                clear n0_ n1_ n2_ n3_
                                clear hb ho34
                                refine hK.out _ _ ⟨(blk_cell BK138.out 0).trans rfl, (blk_cell BK138.out 1).trans rfl, (blk_cell BK138.out 2).trans rfl, (blk_cell BK138.out 3).trans rfl⟩ (fun hHeld => ?_)
                                clear hK K
                                refine norm_ (a' := ?_) ?_ ?_
                                rotate_left
                                · show Act.put _ (some 57) _ = _
                                  simp only [Act.put, List.setIfInBounds_toArray, List.set_cons_zero, List.set_cons_succ, i64_w, i32_w]
                                  rfl
                                exact norm_ (by first | (simp only [putAll, Act.put, List.setIfInBounds_toArray, List.set_cons_zero, List.set_cons_succ]; done) | (simp only [putAll, Act.put, List.setIfInBounds_toArray, List.set_cons_zero, List.set_cons_succ]; rfl)) (hJ2_3_8 (v140, v143) _ ⟨hHeld, (by (with_reducible repeat (first | apply Kd.R_alloc | apply Kd.R_drewN | apply Kd.R_drew)); exact Kd.R_mono HO141.out (fun _ hk => hk.2)), (by (with_reducible repeat (first | apply Kd.R_alloc | apply Kd.R_drewN | apply Kd.R_drew)); exact Kd.R_mono HO144.out (fun _ hk => hk.2)), (by (with_reducible repeat (first | refine blk_drewN ?_ _ | refine blk_drew ?_ | refine blk_alloc ?_ _)); exact BK138.out), (by repeat (first | (with_reducible first | exact HB.out | apply below_alloc | apply pw_below_drewN | apply below_drew1 | refine below_set ?_ GE138.out) | exact HB.out))⟩)
                            · skip
                              rintro ⟨v140, v143⟩ w34 ⟨hS_, h0_, h1_, h2_, h3_⟩
                              have n0_ : Aside0 (Kd.R (Kd.int .u8) 5 w34 w.heap.size (fun k_ => some k_ ≠ (v143 : Value).ownBlock) v140 y139) := ⟨h0_⟩
                              have n1_ : Aside0 (Kd.R (Kd.int .u8) 5 w34 w.heap.size (fun k_ => some k_ ≠ (v140 : Value).ownBlock) v143 y142) := ⟨h1_⟩
                              have n2_ : Aside0 (w34.heap[gb138]? = some (.cells #[.int .i64 1, .int .i64 (Go.bits .or .i64 x139001_13 8), .int .i64 1, .string x139003_13] 23 (0, 0))) := ⟨h2_⟩
                              have n3_ : Aside0 (Below w.heap.size w w34) := ⟨h3_⟩
                              clear BK138
                              clear HB
                              clear h0_ h1_ h2_ h3_
                              have HO141 := n0_
                              have HO144 := n1_
                              have BK138 := n2_
                              have HB := n3_
                              clear n0_ n1_ n2_ n3_
                              have hHeld : w34.cell? ⟨gb138, 0, none⟩ = some (.int .i64 1) ∧ w34.cell? ⟨gb138, 1, none⟩ = some (.int .i64 (Go.bits .or .i64 x139001_13 8)) ∧ w34.cell? ⟨gb138, 2, none⟩ = some (.int .i64 1) ∧ w34.cell? ⟨gb138, 3, none⟩ = some (.string x139003_13) := hS_
                              refine norm_ (a' := ?_) ?_ ?_
                              rotate_left
                              · simp only [putAll, Act.put, List.setIfInBounds_toArray, List.set_cons_zero, List.set_cons_succ]
                                rfl
                              refine one_ (i := 3) (N := some 52) #[true, true, true, true, true, true, false, true, true, true, false, true, true, true, true, false, false, false] rfl rfl (one_of HT_.out (by kernel_rfl)) (by decide) (fun K hK => ?_)
                              have hcv35 := own_string (P := Try.prog) Try.underlying35 Try.underlying5 Try.underlying9 (Kd.own_of_R HO141.out)
                              refine value_ (w1 := ?_) (v := ?_) (by rfl) rfl ?_ ?_
                              rotate_left 2
                              · go_simp
                                constructor
                                · rfl
                                · rfl
                              clear hcv35
                              refine hK.out _ _ ⟨(blk_cell BK138.out 0).trans rfl, (blk_cell BK138.out 1).trans rfl, (blk_cell BK138.out 2).trans rfl, (blk_cell BK138.out 3).trans rfl⟩ (fun hHeld => ?_)
                              clear hK K
                              refine norm_ (a' := ?_) ?_ ?_
                              rotate_left
                              · show Act.put _ (some 52) _ = _
                                simp only [Act.put, List.setIfInBounds_toArray, List.set_cons_zero, List.set_cons_succ, i64_w, i32_w]
                                rfl
                              refine pure_ (i := 6) (N := some 55) (v := ?_) (a' := ?_) #[true, true, true, true, true, true, true, true, true, true, false, true, true, true, true, false, false, false] rfl rfl (any_of HT_.out (by kernel_rfl)) (fun _ _ _ h => h) (Or.inl ⟨by rfl, ?_⟩) ?_ ?_
                              rotate_left
                              · intro w'
                                go_simp
                                with_reducible rfl
                              rotate_left
                              · simp only [Act.put, List.setIfInBounds_toArray, List.set_cons_zero, List.set_cons_succ, i64_w, i32_w]
                                rfl
                              exact norm_ (by first | (simp only [putAll, Act.put, List.setIfInBounds_toArray, List.set_cons_zero, List.set_cons_succ]; done) | (simp only [putAll, Act.put, List.setIfInBounds_toArray, List.set_cons_zero, List.set_cons_succ]; rfl)) (hJ2_3_8_9 (v140, v143) _ ⟨hHeld, (by (with_reducible repeat (first | apply Kd.R_alloc | apply Kd.R_drewN | apply Kd.R_drew)); exact HO141.out), (by (with_reducible repeat (first | apply Kd.R_alloc | apply Kd.R_drewN | apply Kd.R_drew)); exact HO144.out), (by (with_reducible repeat (first | refine blk_drewN ?_ _ | refine blk_drew ?_ | refine blk_alloc ?_ _)); exact BK138.out), (by repeat (first | (with_reducible first | exact HB.out | apply below_alloc | apply pw_below_drewN | apply below_drew1 | refine below_set ?_ GE138.out) | exact HB.out))⟩)
                          · skip
                            rintro ⟨v140, v143⟩ w34 ⟨hS_, h0_, h1_, h2_, h3_⟩
                            have n0_ : Aside0 (Kd.R (Kd.int .u8) 5 w34 w.heap.size (fun k_ => some k_ ≠ (v143 : Value).ownBlock) v140 y139) := ⟨h0_⟩
                            have n1_ : Aside0 (Kd.R (Kd.int .u8) 5 w34 w.heap.size (fun k_ => some k_ ≠ (v140 : Value).ownBlock) v143 y142) := ⟨h1_⟩
                            have n2_ : Aside0 (w34.heap[gb138]? = some (.cells #[.int .i64 1, .int .i64 (Go.bits .or .i64 x139001_13 8), .int .i64 1, .string x139003_13] 23 (0, 0))) := ⟨h2_⟩
                            have n3_ : Aside0 (Below w.heap.size w w34) := ⟨h3_⟩
                            clear BK138
                            clear HB
                            clear h0_ h1_ h2_ h3_
                            have HO141 := n0_
                            have HO144 := n1_
                            have BK138 := n2_
                            have HB := n3_
                            clear n0_ n1_ n2_ n3_
                            have hHeld : w34.cell? ⟨gb138, 0, none⟩ = some (.int .i64 1) ∧ w34.cell? ⟨gb138, 1, none⟩ = some (.int .i64 (Go.bits .or .i64 x139001_13 8)) ∧ w34.cell? ⟨gb138, 2, none⟩ = some (.int .i64 1) ∧ w34.cell? ⟨gb138, 3, none⟩ = some (.string x139003_13) := hS_
                            refine norm_ (a' := ?_) ?_ ?_
                            rotate_left
                            · simp only [putAll, Act.put, List.setIfInBounds_toArray, List.set_cons_zero, List.set_cons_succ]
                              rfl
                            refine one_ (i := 9) (N := some 58) #[true, true, true, true, true, true, true, true, true, true, false, true, true, true, true, false, false, false] rfl rfl (one_of HT_.out (by kernel_rfl)) (by decide) (fun K hK => ?_)
                            have hcv35 := own_string (P := Try.prog) Try.underlying35 Try.underlying5 Try.underlying9 (Kd.own_of_R HO144.out)
                            refine value_ (w1 := ?_) (v := ?_) (by rfl) rfl ?_ ?_
                            rotate_left 2
                            · go_simp
                              constructor
                              · rfl
                              · rfl
                            clear hcv35
                            refine hK.out _ _ ⟨(blk_cell BK138.out 0).trans rfl, (blk_cell BK138.out 1).trans rfl, (blk_cell BK138.out 2).trans rfl, (blk_cell BK138.out 3).trans rfl⟩ (fun hHeld => ?_)
                            clear hK K
                            refine norm_ (a' := ?_) ?_ ?_
                            rotate_left
                            · show Act.put _ (some 58) _ = _
                              simp only [Act.put, List.setIfInBounds_toArray, List.set_cons_zero, List.set_cons_succ, i64_w, i32_w]
                              rfl
                            exact norm_ (by first | (simp only [putAll, Act.put, List.setIfInBounds_toArray, List.set_cons_zero, List.set_cons_succ]; done) | (simp only [putAll, Act.put, List.setIfInBounds_toArray, List.set_cons_zero, List.set_cons_succ]; rfl)) (hJ2_3_8_9 (v140, v143) _ ⟨hHeld, (by (with_reducible repeat (first | apply Kd.R_alloc | apply Kd.R_drewN | apply Kd.R_drew)); exact HO141.out), (by (with_reducible repeat (first | apply Kd.R_alloc | apply Kd.R_drewN | apply Kd.R_drew)); exact HO144.out), (by (with_reducible repeat (first | refine blk_drewN ?_ _ | refine blk_drew ?_ | refine blk_alloc ?_ _)); exact BK138.out), (by repeat (first | (with_reducible first | exact HB.out | apply below_alloc | apply pw_below_drewN | apply below_drew1 | refine below_set ?_ GE138.out) | exact HB.out))⟩)
                        rintro ⟨v140, v143⟩ w35 ⟨hS_, h0_, h1_, h2_, h3_⟩
                        have n0_ : Aside0 (Kd.R (Kd.int .u8) 5 w35 w.heap.size (fun k_ => some k_ ≠ (v143 : Value).ownBlock) v140 y139) := ⟨h0_⟩
                        have n1_ : Aside0 (Kd.R (Kd.int .u8) 5 w35 w.heap.size (fun k_ => some k_ ≠ (v140 : Value).ownBlock) v143 y142) := ⟨h1_⟩
                        have n2_ : Aside0 (w35.heap[gb138]? = some (.cells #[.int .i64 1, .int .i64 (Go.bits .or .i64 x139001_13 8), .int .i64 1, .string x139003_13] 23 (0, 0))) := ⟨h2_⟩
                        have n3_ : Aside0 (Below w.heap.size w w35) := ⟨h3_⟩
                        clear BK138
                        clear HB
                        clear h0_ h1_ h2_ h3_
                        have HO141 := n0_
                        have HO144 := n1_
                        have BK138 := n2_
                        have HB := n3_
                        clear n0_ n1_ n2_ n3_
                        have hHeld : w35.cell? ⟨gb138, 0, none⟩ = some (.int .i64 1) ∧ w35.cell? ⟨gb138, 1, none⟩ = some (.int .i64 (Go.bits .or .i64 x139001_13 8)) ∧ w35.cell? ⟨gb138, 2, none⟩ = some (.int .i64 1) ∧ w35.cell? ⟨gb138, 3, none⟩ = some (.string x139003_13) := hS_
                        refine norm_ (a' := ?_) ?_ ?_
                        rotate_left
                        · simp only [putAll, Act.put, List.setIfInBounds_toArray, List.set_cons_zero, List.set_cons_succ]
                          rfl
                        refine pure_ (i := 10) (N := some 59) (v := ?_) (a' := ?_) #[true, true, true, true, true, true, true, true, true, true, true, true, true, true, true, false, false, false] rfl rfl (any_of HT_.out (by kernel_rfl)) (fun _ _ _ h => h) (Or.inl ⟨by rfl, ?_⟩) ?_ ?_
                        rotate_left
                        · intro w'
                          go_simp
                          with_reducible rfl
                        rotate_left
                        · simp only [Act.put, List.setIfInBounds_toArray, List.set_cons_zero, List.set_cons_succ, i64_w, i32_w]
                          rfl
                        refine pure_ (i := 15) (N := some 64) (v := ?_) (a' := ?_) #[true, true, true, true, true, true, true, true, true, true, true, true, true, true, true, true, false, false] rfl rfl (any_of HT_.out (by kernel_rfl)) (fun _ _ _ h => h) (Or.inl ⟨by rfl, ?_⟩) ?_ ?_
                        rotate_left
                        · intro w'
                          go_simp
                          with_reducible rfl
                        rotate_left
                        · simp only [Act.put, List.setIfInBounds_toArray, List.set_cons_zero, List.set_cons_succ, i64_w, i32_w]
                          rfl
                        refine last_ (i := 16) (N := none) #[true, true, true, true, true, true, true, true, true, true, true, true, true, true, true, true, true, false] rfl rfl (one_of HT_.out (by kernel_rfl)) (by decide) (fun K hK => ?_)
                        have hs36 : w35.cell? ⟨gb138, 3, none⟩ = some (.string x139003_13) := (blk_cell BK138.out 3).trans rfl
                        have hfs36 := blk_frozen BK138.out 3
                        refine skip_ (w1 := ?_) (by rfl) rfl ?_ ?_
                        rotate_left
                        · go_simp
                          rfl
                        refine hK.out _ _ ?_
                        clear hK K
                        refine pure_ (i := 17) (N := some 10) (v := ?_) (a' := ?_) #[true, true, true, true, true, true, true, true, true, true, true, true, true, true, true, true, true, true] rfl rfl (any_of HT_.out (by kernel_rfl)) (fun _ _ _ h => h) (Or.inl ⟨by rfl, ?_⟩) ?_ ?_
                        rotate_left
                        · intro w'
                          go_simp
                          with_reducible rfl
                        rotate_left
                        · simp only [Act.put, List.setIfInBounds_toArray, List.set_cons_zero, List.set_cons_succ, i64_w, i32_w]
                          rfl
                        refine done_ (done_of HT_.out (by kernel_rfl)) ?_
                        try go_wp2
                        go_meet
                        case rel => exact ⟨_, (wrap64 ((wrap64 (x10_13 + 1)) + a1)), (Go.bits .or .i64 x139001_13 8), (((strOfNums y139) ++ x139003_13) ++ (strOfNums y142)), (by first | rfl | (simp; done) | (simp [*]; done)), H', ⟨by have := HJ4.out; have := HJ13.out; first | omega | exact Nat.le_refl _⟩, ⟨by (with_reducible repeat (first | refine blk_drewN ?_ _ | refine blk_drew ?_ | refine blk_alloc ?_ _)); refine blk_put (cs := #[.int .i64 1, .int .i64 (Go.bits .or .i64 x139001_13 8), .int .i64 1, .string x139003_13]) ?_ 3 _ rfl; (with_reducible repeat (first | refine blk_drewN ?_ _ | refine blk_drew ?_ | refine blk_alloc ?_ _)); exact BK138.out⟩, ⟨by repeat (first | (with_reducible first | exact HB.out | apply below_alloc | apply pw_below_drewN | apply below_drew1 | refine below_set ?_ GE138.out) | exact HB.out)⟩⟩
                      · rw [if_neg c25] at H
                        exact absurd H (by simp)
                    · rw [if_neg c24] at H
                      exact absurd H (by simp)
                  · rw [if_neg c23] at H
                    exact absurd H (by simp)
                · rw [if_neg c22] at H
                  exact absurd H (by simp)
              · replace c21 := Bool.eq_false_iff.mpr c21
                subst c21
                have H1 : (bywashlaw7_FramePads.j2 kj13 a0 x10_13 1 x139001_13 1 x139003_13) = some r := by rw [if_neg (show ¬ (false = true) by decide)] at H; exact H
                clear H
                have H := H1
                clear H1
                have H' := Aside0.mk H
                clear H
                go_wp2
                go_meet
                case rel => exact ⟨_, (x10_13), (x139001_13), (x139003_13), (by first | rfl | (simp; done) | (simp [*]; done)), H', ⟨by have := HJ4.out; have := HJ13.out; first | omega | exact Nat.le_refl _⟩, ⟨by (with_reducible repeat (first | refine blk_drewN ?_ _ | refine blk_drew ?_ | refine blk_alloc ?_ _)); exact BK138.out⟩, ⟨by repeat (first | (with_reducible first | exact HB.out | apply below_alloc | apply pw_below_drewN | apply below_drew1 | refine below_set ?_ GE138.out) | exact HB.out)⟩⟩
            case rest =>
              clear HC20
              try clear c2
              try clear p2
              try clear hcv3
              try clear p6
              try clear c21
              try clear c22
              try clear c23
              try clear c24
              try clear c25
              try clear hcv32
              try clear hcv34
              try clear hcv35
              try clear hcz26_3
              try clear hfz26_0
              try clear hfz26_1
              try clear hfz26_2
              try clear hfz26_3
              obtain ⟨kq, x10_19, x139001_19, x139003_19, rfl, HA, HJ19, BK138, HB⟩ := hcut
              cases kq with
              | zero => exact absurd HA.out (by simp [bywashlaw7_FramePads.j2])
              | succ kj19 =>
                have H := HA.out
                clear HA
                simp only [bywashlaw7_FramePads.j2] at H
                replace H := Option.bind_eq_some_iff.mp H
                obtain ⟨⟨t145, t146, t147⟩, A370, H⟩ := H
                replace H : (if t145.toList = a0.toList then (if t146 = x10_19 then (bywashlaw7_FramePads.j3 kj19 (t147 != 0) 1 x139001_19 1 x139003_19) else (bywashlaw7_FramePads.j3 kj19 true 1 x139001_19 1 x139003_19)) else (bywashlaw7_FramePads.j3 kj19 true 1 x139001_19 1 x139003_19)) = some r := H
                have A37 := Aside0.mk A370
                clear A370
                have HC38 := Aside0.mk H
                clear H
                have hcz39_0 : wc.cell? ⟨gb138, 0, none⟩ = some (.int .i64 1) := (blk_cell BK138.out 0).trans rfl
                have hcz39_1 : wc.cell? ⟨gb138, 1, none⟩ = some (.int .i64 x139001_19) := (blk_cell BK138.out 1).trans rfl
                have hcz39_2 : wc.cell? ⟨gb138, 2, none⟩ = some (.int .i64 1) := (blk_cell BK138.out 2).trans rfl
                have hcz39_3 : wc.cell? ⟨gb138, 3, none⟩ = some (.string x139003_19) := (blk_cell BK138.out 3).trans rfl
                have hfz39_0 := blk_frozen BK138.out 0
                have hfz39_1 := blk_frozen BK138.out 1
                have hfz39_2 := blk_frozen BK138.out 2
                have hfz39_3 := blk_frozen BK138.out 3
                go_upto_region 12 with (first | ((with_reducible refine gate_callee (f := 14) rfl ?_); refine goesL_ (some 67) rfl rfl Try.func14 (by kernel_rfl) rfl #[.agg #[.int .i64 1, .int .i64 x139001_19, .int .i64 1, .string x139003_19]] rfl (by (try simp only [List.map_toArray, List.map_cons, List.map_nil]); first | done | rfl | (simp only [List.length_drop, List.length_take]; rfl)) ?_; (with_reducible refine (frame_Strip.calls kj19 1 x139001_19 1 x139003_19 t145 t146 t147 _ A37.out).mono ?_); rintro e w40 ⟨rfl, hb⟩; refine ⟨_, rfl, ?_⟩; have n0_ := Aside0.mk (blk_below (g := gb138) (o := .cells #[.int .i64 1, .int .i64 x139001_19, .int .i64 1, .string x139003_19] 23 (0, 0)) (by (with_reducible repeat (first | refine blk_drewN ?_ _ | refine blk_drew ?_ | refine blk_alloc ?_ _)); exact BK138.out) hb); have n1_ := Aside0.mk (below_step (by repeat (first | (with_reducible first | exact HB.out | apply below_alloc | apply pw_below_drewN | apply below_drew1 | refine below_set ?_ GE138.out) | exact HB.out)) hb); clear BK138; clear HB; have BK138 := n0_; have HB := n1_; clear n0_ n1_; (try clear hb); (try clear hb2); (try clear hk); (try clear hi)))
                (try simp only [Act.put, List.setIfInBounds_toArray, List.set_cons_zero, List.set_cons_succ])
                go_cut [82] (fun v82 wc => ∃ (kq : Nat) (x82_37 : Bool), v82 = .bool x82_37 ∧ Aside0 (bywashlaw7_FramePads.j3 kq x82_37 1 x139001_19 1 x139003_19 = some r) ∧ Aside0 (kq ≤ kj19) ∧ Aside0 (wc.heap[gb138]? = some (.cells #[.int .i64 1, .int .i64 x139001_19, .int .i64 1, .string x139003_19] 23 (0, 0))) ∧ Aside0 (Below w.heap.size w wc))
                case first =>
                  have H := HC38.out
                  clear HC38
                  by_cases c41 : t145.toList = a0.toList
                  · rw [if_pos c41] at H
                    have c41b0 : (t145.toList == a0.toList) = true := beq_iff_eq.mpr c41
                    have c41b1 : (t145.toList != a0.toList) = false := bne_eq_false_iff_eq.mpr c41
                    clear c41
                    (first | rw [c41b0] | (simp only [i64_w, i32_w]; rw [c41b0]) | skip)
                    by_cases c42 : t146 = x10_19
                    · rw [if_pos c42] at H
                      have c42b0 : (t146 == x10_19) = true := beq_iff_eq.mpr c42
                      have c42b1 : (t146 != x10_19) = false := bne_eq_false_iff_eq.mpr c42
                      clear c42
                      have H' := Aside0.mk H
                      clear H
                      go_wp2
                      go_meet
                      case rel => exact ⟨_, ((t147 != 0)), (by first | rfl | (simp; done) | (simp [*]; done)), H', ⟨by have := HJ4.out; have := HJ13.out; have := HJ19.out; first | omega | exact Nat.le_refl _⟩, ⟨by (with_reducible repeat (first | refine blk_drewN ?_ _ | refine blk_drew ?_ | refine blk_alloc ?_ _)); exact BK138.out⟩, ⟨by repeat (first | (with_reducible first | exact HB.out | apply below_alloc | apply pw_below_drewN | apply below_drew1 | refine below_set ?_ GE138.out) | exact HB.out)⟩⟩
                    · rw [if_neg c42] at H
                      have c42b0 : (t146 == x10_19) = false := beq_eq_false_iff_ne.mpr c42
                      have c42b1 : (t146 != x10_19) = true := bne_iff_ne.mpr c42
                      have H' := Aside0.mk H
                      clear H
                      go_wp2
                      go_meet
                      case rel => exact ⟨_, (true), (by first | rfl | (simp; done) | (simp [*]; done)), H', ⟨by have := HJ4.out; have := HJ13.out; have := HJ19.out; first | omega | exact Nat.le_refl _⟩, ⟨by (with_reducible repeat (first | refine blk_drewN ?_ _ | refine blk_drew ?_ | refine blk_alloc ?_ _)); exact BK138.out⟩, ⟨by repeat (first | (with_reducible first | exact HB.out | apply below_alloc | apply pw_below_drewN | apply below_drew1 | refine below_set ?_ GE138.out) | exact HB.out)⟩⟩
                  · rw [if_neg c41] at H
                    have c41b0 : (t145.toList == a0.toList) = false := beq_eq_false_iff_ne.mpr c41
                    have c41b1 : (t145.toList != a0.toList) = true := bne_iff_ne.mpr c41
                    (first | rw [c41b0] | (simp only [i64_w, i32_w]; rw [c41b0]) | skip)
                    have H' := Aside0.mk H
                    clear H
                    go_wp2
                    go_meet
                    case rel => exact ⟨_, (true), (by first | rfl | (simp; done) | (simp [*]; done)), H', ⟨by have := HJ4.out; have := HJ13.out; have := HJ19.out; first | omega | exact Nat.le_refl _⟩, ⟨by (with_reducible repeat (first | refine blk_drewN ?_ _ | refine blk_drew ?_ | refine blk_alloc ?_ _)); exact BK138.out⟩, ⟨by repeat (first | (with_reducible first | exact HB.out | apply below_alloc | apply pw_below_drewN | apply below_drew1 | refine below_set ?_ GE138.out) | exact HB.out)⟩⟩
                case rest =>
                  clear HC38
                  try clear c1
                  try clear c2
                  try clear p2
                  try clear hcv3
                  try clear c4
                  try clear p6
                  try clear c14
                  try clear c21
                  try clear c22
                  try clear c23
                  try clear c24
                  try clear c25
                  try clear hcv32
                  try clear hcv34
                  try clear hcv35
                  try clear c41
                  try clear c41b0
                  try clear c41b1
                  try clear c42
                  try clear c42b0
                  try clear c42b1
                  try clear hcz26_3
                  try clear hcz39_0
                  try clear hcz39_1
                  try clear hcz39_2
                  try clear hcz39_3
                  try clear hfz26_0
                  try clear hfz26_1
                  try clear hfz26_2
                  try clear hfz26_3
                  try clear hfz39_0
                  try clear hfz39_1
                  try clear hfz39_2
                  try clear hfz39_3
                  try clear p2
                  try clear p6
                  obtain ⟨kq, x82_37, rfl, HA, HJ37, BK138, HB⟩ := hcut
                  cases kq with
                  | zero => exact absurd HA.out (by simp [bywashlaw7_FramePads.j3])
                  | succ kj37 =>
                    have H := HA.out
                    clear HA
                    simp only [bywashlaw7_FramePads.j3] at H
                    by_cases c43 : x82_37 = true
                    · subst c43
                      have H1 : (some false) = some r := by rw [if_pos rfl] at H; exact H
                      clear H
                      have H := H1
                      clear H1
                      obtain rfl := Option.some.inj H
                      go_wp2
                      go_ret
                      exact ⟨by first | rfl | (simp [errW_none, errW_some] <;> rfl) | (simp [*, errW_none, errW_some] <;> rfl), by repeat (first | (with_reducible first | exact HB.out | apply below_alloc | apply pw_below_drewN | apply below_drew1 | refine below_set ?_ GE138.out) | exact HB.out)⟩
                    · replace c43 := Bool.eq_false_iff.mpr c43
                      subst c43
                      have H1 : ((frame_Strip.f kj37 9 x139001_19 1 x139003_19).bind fun bt148 => (if bt148.1.toList = x139003_19.toList then (if bt148.2.1 = 0 then (bywashlaw7_FramePads.j4 kj37 (bt148.2.2 == 0)) else (bywashlaw7_FramePads.j4 kj37 false)) else (bywashlaw7_FramePads.j4 kj37 false))) = some r := by rw [if_neg (show ¬ (false = true) by decide)] at H; exact H
                      clear H
                      have H := H1
                      clear H1
                      replace H := Option.bind_eq_some_iff.mp H
                      obtain ⟨⟨t148, t149, t150⟩, A440, H⟩ := H
                      replace H : (if t148.toList = x139003_19.toList then (if t149 = 0 then (bywashlaw7_FramePads.j4 kj37 (t150 == 0)) else (bywashlaw7_FramePads.j4 kj37 false)) else (bywashlaw7_FramePads.j4 kj37 false)) = some r := H
                      have A44 := Aside0.mk A440
                      clear A440
                      have HC45 := Aside0.mk H
                      clear H
                      have hcz46_0 : wc.cell? ⟨gb138, 0, none⟩ = some (.int .i64 1) := (blk_cell BK138.out 0).trans rfl
                      have hcz46_1 : wc.cell? ⟨gb138, 1, none⟩ = some (.int .i64 x139001_19) := (blk_cell BK138.out 1).trans rfl
                      have hcz46_2 : wc.cell? ⟨gb138, 2, none⟩ = some (.int .i64 1) := (blk_cell BK138.out 2).trans rfl
                      have hcz46_3 : wc.cell? ⟨gb138, 3, none⟩ = some (.string x139003_19) := (blk_cell BK138.out 3).trans rfl
                      have hfz46_0 := blk_frozen BK138.out 0
                      have hfz46_1 := blk_frozen BK138.out 1
                      have hfz46_2 := blk_frozen BK138.out 2
                      have hfz46_3 := blk_frozen BK138.out 3
                      go_upto_region 16 with (first | ((with_reducible refine gate_callee (f := 14) rfl ?_); refine goesL_ (some 86) rfl rfl Try.func14 (by kernel_rfl) rfl #[.agg #[.int .i64 9, .int .i64 x139001_19, .int .i64 1, .string x139003_19]] rfl (by (try simp only [List.map_toArray, List.map_cons, List.map_nil]); first | done | rfl | (simp only [List.length_drop, List.length_take]; rfl)) ?_; (with_reducible refine (frame_Strip.calls kj37 9 x139001_19 1 x139003_19 t148 t149 t150 _ A44.out).mono ?_); rintro e w47 ⟨rfl, hb⟩; refine ⟨_, rfl, ?_⟩; have n0_ := Aside0.mk (blk_below (g := gb138) (o := .cells #[.int .i64 9, .int .i64 x139001_19, .int .i64 1, .string x139003_19] 23 (0, 0)) (by (with_reducible repeat (first | refine blk_drewN ?_ _ | refine blk_drew ?_ | refine blk_alloc ?_ _)); refine blk_put (cs := #[.int .i64 1, .int .i64 x139001_19, .int .i64 1, .string x139003_19]) ?_ 0 _ rfl; (with_reducible repeat (first | refine blk_drewN ?_ _ | refine blk_drew ?_ | refine blk_alloc ?_ _)); exact BK138.out) hb); have n1_ := Aside0.mk (below_step (by repeat (first | (with_reducible first | exact HB.out | apply below_alloc | apply pw_below_drewN | apply below_drew1 | refine below_set ?_ GE138.out) | exact HB.out)) hb); clear BK138; clear HB; have BK138 := n0_; have HB := n1_; clear n0_ n1_; (try clear hb); (try clear hb2); (try clear hk); (try clear hi)))
                      (try simp only [Act.put, List.setIfInBounds_toArray, List.set_cons_zero, List.set_cons_succ])
                      go_cut [8] (fun v8 wc => ∃ (kq : Nat) (x8_44 : Bool), v8 = .bool x8_44 ∧ Aside0 (bywashlaw7_FramePads.j4 kq x8_44 = some r) ∧ Aside0 (kq ≤ kj37) ∧ Aside0 (wc.heap[gb138]? = some (.cells #[.int .i64 9, .int .i64 x139001_19, .int .i64 1, .string x139003_19] 23 (0, 0))) ∧ Aside0 (Below w.heap.size w wc))
                      case first =>
                        have H := HC45.out
                        clear HC45
                        by_cases c48 : t148.toList = x139003_19.toList
                        · rw [if_pos c48] at H
                          have c48b0 : (t148.toList == x139003_19.toList) = true := beq_iff_eq.mpr c48
                          have c48b1 : (t148.toList != x139003_19.toList) = false := bne_eq_false_iff_eq.mpr c48
                          clear c48
                          (first | rw [c48b0] | (simp only [i64_w, i32_w]; rw [c48b0]) | skip)
                          by_cases c49 : t149 = 0
                          · rw [if_pos c49] at H
                            have c49b0 : (t149 == 0) = true := beq_iff_eq.mpr c49
                            have c49b1 : (t149 != 0) = false := bne_eq_false_iff_eq.mpr c49
                            clear c49
                            have H' := Aside0.mk H
                            clear H
                            have hcz50_0 : w47.cell? ⟨gb138, 0, none⟩ = some (.int .i64 9) := (blk_cell BK138.out 0).trans rfl
                            have hcz50_1 : w47.cell? ⟨gb138, 1, none⟩ = some (.int .i64 x139001_19) := (blk_cell BK138.out 1).trans rfl
                            have hcz50_2 : w47.cell? ⟨gb138, 2, none⟩ = some (.int .i64 1) := (blk_cell BK138.out 2).trans rfl
                            have hcz50_3 : w47.cell? ⟨gb138, 3, none⟩ = some (.string x139003_19) := (blk_cell BK138.out 3).trans rfl
                            have hfz50_0 := blk_frozen BK138.out 0
                            have hfz50_1 := blk_frozen BK138.out 1
                            have hfz50_2 := blk_frozen BK138.out 2
                            have hfz50_3 := blk_frozen BK138.out 3
                            go_wp2
                            go_meet
                            case rel => exact ⟨_, ((t150 == 0)), (by first | rfl | (simp; done) | (simp [*]; done)), H', ⟨by have := HJ4.out; have := HJ13.out; have := HJ19.out; have := HJ37.out; first | omega | exact Nat.le_refl _⟩, ⟨by (with_reducible repeat (first | refine blk_drewN ?_ _ | refine blk_drew ?_ | refine blk_alloc ?_ _)); exact BK138.out⟩, ⟨by repeat (first | (with_reducible first | exact HB.out | apply below_alloc | apply pw_below_drewN | apply below_drew1 | refine below_set ?_ GE138.out) | exact HB.out)⟩⟩
                          · rw [if_neg c49] at H
                            have c49b0 : (t149 == 0) = false := beq_eq_false_iff_ne.mpr c49
                            have c49b1 : (t149 != 0) = true := bne_iff_ne.mpr c49
                            have H' := Aside0.mk H
                            clear H
                            have hcz51_0 : w47.cell? ⟨gb138, 0, none⟩ = some (.int .i64 9) := (blk_cell BK138.out 0).trans rfl
                            have hcz51_1 : w47.cell? ⟨gb138, 1, none⟩ = some (.int .i64 x139001_19) := (blk_cell BK138.out 1).trans rfl
                            have hcz51_2 : w47.cell? ⟨gb138, 2, none⟩ = some (.int .i64 1) := (blk_cell BK138.out 2).trans rfl
                            have hcz51_3 : w47.cell? ⟨gb138, 3, none⟩ = some (.string x139003_19) := (blk_cell BK138.out 3).trans rfl
                            have hfz51_0 := blk_frozen BK138.out 0
                            have hfz51_1 := blk_frozen BK138.out 1
                            have hfz51_2 := blk_frozen BK138.out 2
                            have hfz51_3 := blk_frozen BK138.out 3
                            go_wp2
                            go_meet
                            case rel => exact ⟨_, (false), (by first | rfl | (simp; done) | (simp [*]; done)), H', ⟨by have := HJ4.out; have := HJ13.out; have := HJ19.out; have := HJ37.out; first | omega | exact Nat.le_refl _⟩, ⟨by (with_reducible repeat (first | refine blk_drewN ?_ _ | refine blk_drew ?_ | refine blk_alloc ?_ _)); exact BK138.out⟩, ⟨by repeat (first | (with_reducible first | exact HB.out | apply below_alloc | apply pw_below_drewN | apply below_drew1 | refine below_set ?_ GE138.out) | exact HB.out)⟩⟩
                        · rw [if_neg c48] at H
                          have c48b0 : (t148.toList == x139003_19.toList) = false := beq_eq_false_iff_ne.mpr c48
                          have c48b1 : (t148.toList != x139003_19.toList) = true := bne_iff_ne.mpr c48
                          (first | rw [c48b0] | (simp only [i64_w, i32_w]; rw [c48b0]) | skip)
                          have H' := Aside0.mk H
                          clear H
                          have hcz52_0 : w47.cell? ⟨gb138, 0, none⟩ = some (.int .i64 9) := (blk_cell BK138.out 0).trans rfl
                          have hcz52_1 : w47.cell? ⟨gb138, 1, none⟩ = some (.int .i64 x139001_19) := (blk_cell BK138.out 1).trans rfl
                          have hcz52_2 : w47.cell? ⟨gb138, 2, none⟩ = some (.int .i64 1) := (blk_cell BK138.out 2).trans rfl
                          have hcz52_3 : w47.cell? ⟨gb138, 3, none⟩ = some (.string x139003_19) := (blk_cell BK138.out 3).trans rfl
                          have hfz52_0 := blk_frozen BK138.out 0
                          have hfz52_1 := blk_frozen BK138.out 1
                          have hfz52_2 := blk_frozen BK138.out 2
                          have hfz52_3 := blk_frozen BK138.out 3
                          go_wp2
                          go_meet
                          case rel => exact ⟨_, (false), (by first | rfl | (simp; done) | (simp [*]; done)), H', ⟨by have := HJ4.out; have := HJ13.out; have := HJ19.out; have := HJ37.out; first | omega | exact Nat.le_refl _⟩, ⟨by (with_reducible repeat (first | refine blk_drewN ?_ _ | refine blk_drew ?_ | refine blk_alloc ?_ _)); exact BK138.out⟩, ⟨by repeat (first | (with_reducible first | exact HB.out | apply below_alloc | apply pw_below_drewN | apply below_drew1 | refine below_set ?_ GE138.out) | exact HB.out)⟩⟩
                      case rest =>
                        clear HC45
                        try clear c1
                        try clear c2
                        try clear p2
                        try clear hcv3
                        try clear c4
                        try clear p6
                        try clear c14
                        try clear c21
                        try clear c22
                        try clear c23
                        try clear c24
                        try clear c25
                        try clear hcv32
                        try clear hcv34
                        try clear hcv35
                        try clear c41
                        try clear c41b0
                        try clear c41b1
                        try clear c42
                        try clear c42b0
                        try clear c42b1
                        try clear c43
                        try clear c48
                        try clear c48b0
                        try clear c48b1
                        try clear c49
                        try clear c49b0
                        try clear c49b1
                        try clear hcz26_3
                        try clear hcz39_0
                        try clear hcz39_1
                        try clear hcz39_2
                        try clear hcz39_3
                        try clear hcz46_0
                        try clear hcz46_1
                        try clear hcz46_2
                        try clear hcz46_3
                        try clear hcz50_0
                        try clear hcz50_1
                        try clear hcz50_2
                        try clear hcz50_3
                        try clear hcz51_0
                        try clear hcz51_1
                        try clear hcz51_2
                        try clear hcz51_3
                        try clear hcz52_0
                        try clear hcz52_1
                        try clear hcz52_2
                        try clear hcz52_3
                        try clear hfz26_0
                        try clear hfz26_1
                        try clear hfz26_2
                        try clear hfz26_3
                        try clear hfz39_0
                        try clear hfz39_1
                        try clear hfz39_2
                        try clear hfz39_3
                        try clear hfz46_0
                        try clear hfz46_1
                        try clear hfz46_2
                        try clear hfz46_3
                        try clear hfz50_0
                        try clear hfz50_1
                        try clear hfz50_2
                        try clear hfz50_3
                        try clear hfz51_0
                        try clear hfz51_1
                        try clear hfz51_2
                        try clear hfz51_3
                        try clear hfz52_0
                        try clear hfz52_1
                        try clear hfz52_2
                        try clear hfz52_3
                        try clear p2
                        try clear p6
                        obtain ⟨kq, x8_44, rfl, HA, HJ44, BK138, HB⟩ := hcut
                        cases kq with
                        | zero => exact absurd HA.out (by simp [bywashlaw7_FramePads.j4])
                        | succ kj44 =>
                          have H := HA.out
                          clear HA
                          simp only [bywashlaw7_FramePads.j4] at H
                          obtain rfl := Option.some.inj H
                          go_wp2
                          go_ret
                          exact ⟨by first | rfl | (simp [errW_none, errW_some] <;> rfl) | (simp [*, errW_none, errW_some] <;> rfl), by repeat (first | (with_reducible first | exact HB.out | apply below_alloc | apply pw_below_drewN | apply below_drew1 | refine below_set ?_ GE138.out) | exact HB.out)⟩

/-- THE ONE PURE STATEMENT of bywashlaw7_FramePads: yours. -/
def bywashlaw7_FramePads.Pure : Prop := ∀ (a0 : ByteArray) (a1 : Int) (a2 : Bool) (a3 : Bool), a0.size ≤ 140737488351232 → (Lit.int .i64 a1).wf = true → ∃ k, bywashlaw7_FramePads.f k a0 a1 a2 a3 = some true
theorem bywashlaw7_FramePads.walk (P : bywashlaw7_FramePads.Pure) (a0 : ByteArray) (a1 : Int) (a2 : Bool) (a3 : Bool) (w : World) (w0 : a0.size ≤ 140737488351232) (w1 : (Lit.int .i64 a1).wf = true) :
    Calls Try.prog 6 #[.string a0, .int .i64 a1, .bool a2, .bool a3] w fun e w' => e = .returned (.bool true) ∧ Below w.heap.size w w' := by
  obtain ⟨k, h⟩ := P a0 a1 a2 a3 w0 w1
  refine (bywashlaw7_FramePads.calls k a0 a1 a2 a3 true w h).mono ?_
  rintro e w' ⟨rfl, hd⟩
  exact ⟨rfl, hd⟩

end Go.Proofs.Ytehccigpbchbcaa.PFramePads
