-- Written by a program of this session (the kit's printer, turned): the functions that the law reaches.
import Derived.Test.YtdonanibfifodaaPBlockTellsx0
import Derived.Test.YtdonanibfifodaaPBlockTellsx1
namespace Go.Proofs.Ytdonanibfifodaa.PBlockTells
open Go.RowKit Go.Proofs.YtdonanibfifodaaW.PrintWords Go.Proofs.YtdonanibfifodaaW.PrintLast Go.Proofs.YtdonanibfifodaaW.PrintMore
attribute [local go_sem] max2_int min2_int max_two min_two max_three min_three max_four min_four   -- for this text's walks alone
set_option linter.unusedVariables false
set_option linter.unusedSimpArgs false

attribute [local go_sem high] eqA39
/-! ### bywashbook_copyFrames: function 21 -/
def bywashbook_copyFrames.f (l0 : List (S39)) : Option ((List (S39))) := if ([] : List (S39)).length + l0.length < 3518437208883 then (some (([] : List (S39)) ++ l0)) else (none)
set_option maxHeartbeats 8000000 in
set_option maxRecDepth 100000 in
theorem bywashbook_copyFrames.calls (A0 : Option Addr) (c0 : Nat) (l0 : List (S39)) (r : List (S39)) (w : World) (hr0 : Kd.C k39 w A0 l0.length l0) (hc0 : l0.length ≤ c0) (h : bywashbook_copyFrames.f l0 = some r) :
    Calls Try.prog 21 #[.slice A0 l0.length c0] w fun e w' => ∃ v0_ : Value, e = .returned (v0_) ∧ Kd.R k39 39 w' w.heap.size (fun _ => True) v0_ r ∧ Below w.heap.size w w' := by
  have HR0 := Aside0.mk hr0
  have HC0 := Aside0.mk hc0
  clear hr0 hc0
  have HB := Aside0.mk (Below.refl w.heap.size w)
  have H : (if ([] : List (S39)).length + l0.length < 3518437208883 then (some (([] : List (S39)) ++ l0)) else (none)) = some r := h
  clear h
  by_cases c2 : ([] : List (S39)).length + l0.length < 3518437208883
  · rw [if_pos c2] at H
    have LMc2 := Aside0.mk c2
    clear c2
    obtain ⟨y202, hy202⟩ : ∃ y_ : List (S39), y_ = (([] : List (S39)) ++ l0) := ⟨_, rfl⟩
    replace H : (some y202) = some r := by first | (rw [hy202]; with_reducible exact H) | (have H2_ := (Option.bind_some _ _).symm.trans H; rw [hy202]; with_reducible exact H2_) | (have H2_ := (Option.bind_some _ _).symm.trans H; with_reducible exact H2_) | with_reducible exact H | (rw [hy202]; exact H) | exact H
    have Ny202 := Aside0.mk hy202
    clear hy202
    obtain rfl := Option.some.inj H
    go_enter Try.func21, Try.ntmps21
    go_wp2_with (first | ((with_reducible refine gate_builtin (b := .append) (xs := #[(.const (.slice none 0 0)), (.tmp 3)]) rfl ?_); at_builtin; refine Kd.R_append_rows k39 (w0 := w) w.heap.size rfl (.const (.slice none 0 0)) (.tmp 3) 23 39 (.agg #[(.int .i64 0), (.int .i64 0), (.int .i64 0), (.string ⟨#[]⟩)]) 40 rfl Try.underlying23 info39 rfl (by decide) (by omega) (.slice none 0 0) ([] : List (S39)) l0 _ _ _ (fun _ => True) (fun _ => False) rfl rfl ?aO ?aR (fun _ _ h => h) (fun _ h => h.elim) ?aF ?aB ?aS ?aL ?_; (case aR => repeat (first | exact HR0.out | (with_reducible refine Kd.C_alloc ?_ _) | (with_reducible refine Kd.C_drewN ?_ _) | (with_reducible refine Kd.C_drew ?_))); (case aB => exact (by repeat (first | (with_reducible first | exact HB.out | apply below_alloc | apply pw_below_drewN | apply below_drew1) | exact HB.out))); (case aF => exact (fun _ _ => trivial)); (case aO => exact ((Kd.R_nil _ _ _ _ (fun _ => True)))); (case aS => exact (below_size (by repeat (first | (with_reducible first | exact HB.out | apply below_alloc | apply pw_below_drewN | apply below_drew1) | exact HB.out)))); (case aL => have := LMc2.out; omega); intro v203 w3 ho hb hg hat; rw [← Ny202.out] at ho; have n0_ := Aside0.mk (hb); have n1_ := Aside0.mk (ho); clear HB; have HB := n0_; have HO204 := n1_; clear n0_ n1_; clear ho hb hg hat))
    go_ret
    exact ⟨_, by first | rfl | (simp [errW_none, errW_some] <;> rfl) | (simp [*, errW_none, errW_some] <;> rfl), by (with_reducible repeat (first | apply Kd.R_alloc | apply Kd.R_drewN | apply Kd.R_drew)); exact HO204.out, by repeat (first | (with_reducible first | exact HB.out | apply below_alloc | apply pw_below_drewN | apply below_drew1) | exact HB.out)⟩
  · rw [if_neg c2] at H
    exact absurd H (by simp)

-- NOT PRINTED: function 13 (bywashbook_Book_Frames)

/-! ### bywashbook_SameFrames: function 14 -/
def bywashbook_SameFrames.l0 : Nat → List (S39) → List (S39) → Int → Option (Bool)
  | 0, _, _, _ => none
  | k + 1, x0, x1, x5 => if x5 < (x0.length : Int) then (if 0 ≤ x5 then (if x5 < (x1.length : Int) then (if ((((rd_T39 x0 x5).f0) == ((rd_T39 x1 x5).f0) && (((rd_T39 x0 x5).f1) == ((rd_T39 x1 x5).f1) && (((rd_T39 x0 x5).f2) == ((rd_T39 x1 x5).f2) && ((((rd_T39 x0 x5).f3).toList) == (((rd_T39 x1 x5).f3).toList))))) = true) then (bywashbook_SameFrames.l0 k x0 x1 (wrap64 (x5 + 1))) else (some false)) else (none)) else (none)) else (some true)
def bywashbook_SameFrames.f (k : Nat) (l0 : List (S39)) (l1 : List (S39)) : Option (Bool) := if (l0.length : Int) = (l1.length : Int) then (bywashbook_SameFrames.l0 k l0 l1 0) else (some false)
theorem bywashbook_SameFrames.mono_l : ∀ k, (∀ y0 y1 y2, LeO (bywashbook_SameFrames.l0 k y0 y1 y2) (bywashbook_SameFrames.l0 (k + 1) y0 y1 y2))
  | 0 => fun _ _ _ r h => by simp [bywashbook_SameFrames.l0] at h
  | k + 1 => by
    have ih0 := bywashbook_SameFrames.mono_l k
    · intro y0 y1 y2
      unfold bywashbook_SameFrames.l0
      repeat' first
      | (with_reducible exact ih0 _ _ _)
      | (with_reducible exact LeO.refl _)
      | (with_reducible exact LeO.none _)
      | (with_reducible refine LeO.ite ?_ ?_)
      | (with_reducible refine LeO.bind ?_ (fun _ => ?_))
      | exact ih0 _ _ _
      | exact LeO.none _
      | refine LeO.ite ?_ ?_
      | refine LeO.bind ?_ (fun _ => ?_)
theorem bywashbook_SameFrames.mono : ∀ a0 a1 k, LeO (bywashbook_SameFrames.f k a0 a1) (bywashbook_SameFrames.f (k + 1) a0 a1) := by
  intro a0 a1 k
  have ih0 := bywashbook_SameFrames.mono_l k
  unfold bywashbook_SameFrames.f
  repeat' first
      | (with_reducible exact ih0 _ _ _)
      | (with_reducible exact LeO.refl _)
      | (with_reducible exact LeO.none _)
      | (with_reducible refine LeO.ite ?_ ?_)
      | (with_reducible refine LeO.bind ?_ (fun _ => ?_))
      | exact ih0 _ _ _
      | exact LeO.none _
      | refine LeO.ite ?_ ?_
      | refine LeO.bind ?_ (fun _ => ?_)
set_option maxHeartbeats 8000000 in
set_option maxRecDepth 100000 in
theorem bywashbook_SameFrames.calls (k : Nat) (A0 : Option Addr) (c0 : Nat) (l0 : List (S39)) (A1 : Option Addr) (c1 : Nat) (l1 : List (S39)) (r : Bool) (w : World) (hr0 : Kd.C k39 w A0 l0.length l0) (hc0 : l0.length ≤ c0) (hr1 : Kd.C k39 w A1 l1.length l1) (hc1 : l1.length ≤ c1) (h : bywashbook_SameFrames.f k l0 l1 = some r) :
    Calls Try.prog 14 #[.slice A0 l0.length c0, .slice A1 l1.length c1] w fun e w' => e = .returned (.bool r) ∧ Drawn0 w w' := by
  have hu39 := Try.underlying39
  have HR0 := Aside0.mk hr0
  have HC0 := Aside0.mk hc0
  clear hr0 hc0
  have HR1 := Aside0.mk hr1
  have HC1 := Aside0.mk hc1
  clear hr1 hc1
  have H : (if (l0.length : Int) = (l1.length : Int) then (bywashbook_SameFrames.l0 k l0 l1 0) else (some false)) = some r := h
  clear h
  by_cases c3 : (l0.length : Int) = (l1.length : Int)
  · rw [if_pos c3] at H
    have c3b0 : ((l0.length : Int) == (l1.length : Int)) = true := beq_iff_eq.mpr c3
    have c3b1 : ((l0.length : Int) != (l1.length : Int)) = false := bne_eq_false_iff_eq.mpr c3
    have c3b2 : (l0.length == l1.length) = true := by first | simpa using c3 | (simp at c3 ⊢; omega)
    clear c3
    have H' := Aside0.mk H
    clear H
    go_enter Try.func14, Try.ntmps14
    go_wp2
    repeat (go_quiet (fail); try go_wp2)
    go_loopg [5] k (fun kq v5 w' => ∃ (x5_1 : Int), v5 = .int .i64 x5_1 ∧ Aside0 (bywashbook_SameFrames.l0 kq l0 l1 x5_1 = some r) ∧ Aside0 (kq ≤ k) ∧ Drawn0 w w')
    case atStart => exact ⟨(0), (by first | rfl | (simp; done) | (simp [*]; done)), H', ⟨Nat.le_refl _⟩, by repeat (first | exact Drawn0.refl _ | apply Drawn0.step)⟩
    case round =>
      clear H'
      try clear c1
      try clear p2
      try clear c3
      try clear c3b0
      try clear c3b1
      try clear c3b2
      obtain ⟨x5_1, rfl, HA, HK1, ⟨m1, rfl⟩⟩ := hrel
      cases gk with
      | zero => exact absurd HA.out (by simp [bywashbook_SameFrames.l0])
      | succ k1 =>
        have H := HA.out
        clear HA
        simp only [bywashbook_SameFrames.l0] at H
        by_cases c4 : x5_1 < (l0.length : Int)
        · rw [if_pos c4] at H
          have c4b0 : decide (x5_1 < (l0.length : Int)) = true := decide_eq_true c4
          clear c4
          by_cases c5 : 0 ≤ x5_1
          · rw [if_pos c5] at H
            have c5b0 : decide (0 ≤ x5_1) = true := decide_eq_true c5
            clear c5
            by_cases c6 : x5_1 < (l1.length : Int)
            · rw [if_pos c6] at H
              have c6b0 : decide (x5_1 < (l1.length : Int)) = true := decide_eq_true c6
              clear c6
              by_cases c7 : ((((rd_T39 l0 x5_1).f0) == ((rd_T39 l1 x5_1).f0) && (((rd_T39 l0 x5_1).f1) == ((rd_T39 l1 x5_1).f1) && (((rd_T39 l0 x5_1).f2) == ((rd_T39 l1 x5_1).f2) && ((((rd_T39 l0 x5_1).f3).toList) == (((rd_T39 l1 x5_1).f3).toList))))) = true)
              · rw [if_pos c7] at H
                have c7b0 : (((rd_T39 l0 x5_1).f0) == ((rd_T39 l1 x5_1).f0) && (((rd_T39 l0 x5_1).f1) == ((rd_T39 l1 x5_1).f1) && (((rd_T39 l0 x5_1).f2) == ((rd_T39 l1 x5_1).f2) && ((((rd_T39 l0 x5_1).f3).toList) == (((rd_T39 l1 x5_1).f3).toList))))) = true := c7
                (try (have c7b1 : decide (((rd_T39 l0 x5_1).f0) = ((rd_T39 l1 x5_1).f0) && (((rd_T39 l0 x5_1).f1) == ((rd_T39 l1 x5_1).f1) && (((rd_T39 l0 x5_1).f2) == ((rd_T39 l1 x5_1).f2) && ((((rd_T39 l0 x5_1).f3).toList) == (((rd_T39 l1 x5_1).f3).toList))))) = true := by simpa using c7))
                (try (have c7b2 : (((rd_T39 l0 x5_1).f0) == ((rd_T39 l1 x5_1).f0) && (((rd_T39 l0 x5_1).f1) == ((rd_T39 l1 x5_1).f1) && (((rd_T39 l0 x5_1).f2) == ((rd_T39 l1 x5_1).f2) && ((((rd_T39 l0 x5_1).f3).toList) == (((rd_T39 l1 x5_1).f3).toList))))) = true := by simpa using c7))
                clear c7
                have H' := Aside0.mk H
                clear H
                have p205 : 0 ≤ (x5_1 : Int) := of_decide_eq_true (by first | (with_reducible assumption) | assumption)
                have q205 : x5_1 < (l0.length : Int) := of_decide_eq_true (by first | (with_reducible assumption) | assumption)
                obtain ⟨ad205, e205, hx205_0, hx205_1, hx205_2, hx205_3⟩ := at_T39 HR0.out x5_1 p205 q205
                cases e205
                replace p205 := eq_true p205
                replace q205 := eq_true q205
                have p206 : 0 ≤ (x5_1 : Int) := of_decide_eq_true (by first | (with_reducible assumption) | assumption)
                have q206 : x5_1 < (l1.length : Int) := of_decide_eq_true (by first | (with_reducible assumption) | assumption)
                obtain ⟨ad206, e206, hx206_0, hx206_1, hx206_2, hx206_3⟩ := at_T39 HR1.out x5_1 p206 q206
                cases e206
                replace p206 := eq_true p206
                replace q206 := eq_true q206
                go_wp2
                repeat (go_quiet (fail); try go_wp2)
                go_roundg k1
                case measure => have := HK1.out; omega
                case rel => exact ⟨(wrap64 (x5_1 + 1)), (by first | rfl | (simp; done) | (simp [*]; done)), H', ⟨by have := HK1.out; omega⟩, by repeat (first | exact Drawn0.refl _ | apply Drawn0.step)⟩
              · rw [if_neg c7] at H
                have c7b0 : (((rd_T39 l0 x5_1).f0) == ((rd_T39 l1 x5_1).f0) && (((rd_T39 l0 x5_1).f1) == ((rd_T39 l1 x5_1).f1) && (((rd_T39 l0 x5_1).f2) == ((rd_T39 l1 x5_1).f2) && ((((rd_T39 l0 x5_1).f3).toList) == (((rd_T39 l1 x5_1).f3).toList))))) = false := by simpa using c7
                (try (have c7b1 : decide (((rd_T39 l0 x5_1).f0) = ((rd_T39 l1 x5_1).f0) && (((rd_T39 l0 x5_1).f1) == ((rd_T39 l1 x5_1).f1) && (((rd_T39 l0 x5_1).f2) == ((rd_T39 l1 x5_1).f2) && ((((rd_T39 l0 x5_1).f3).toList) == (((rd_T39 l1 x5_1).f3).toList))))) = false := by simpa using c7))
                (try (have c7b2 : (((rd_T39 l0 x5_1).f0) == ((rd_T39 l1 x5_1).f0) && (((rd_T39 l0 x5_1).f1) == ((rd_T39 l1 x5_1).f1) && (((rd_T39 l0 x5_1).f2) == ((rd_T39 l1 x5_1).f2) && ((((rd_T39 l0 x5_1).f3).toList) == (((rd_T39 l1 x5_1).f3).toList))))) = false := by simpa using c7))
                (try (have c7b3 : ¬ (((rd_T39 l0 x5_1).f0) = ((rd_T39 l1 x5_1).f0) && (((rd_T39 l0 x5_1).f1) == ((rd_T39 l1 x5_1).f1) && (((rd_T39 l0 x5_1).f2) == ((rd_T39 l1 x5_1).f2) && ((((rd_T39 l0 x5_1).f3).toList) == (((rd_T39 l1 x5_1).f3).toList))))) := by simpa using c7))
                clear c7
                obtain rfl := Option.some.inj H
                have p205 : 0 ≤ (x5_1 : Int) := of_decide_eq_true (by first | (with_reducible assumption) | assumption)
                have q205 : x5_1 < (l0.length : Int) := of_decide_eq_true (by first | (with_reducible assumption) | assumption)
                obtain ⟨ad205, e205, hx205_0, hx205_1, hx205_2, hx205_3⟩ := at_T39 HR0.out x5_1 p205 q205
                cases e205
                replace p205 := eq_true p205
                replace q205 := eq_true q205
                have p206 : 0 ≤ (x5_1 : Int) := of_decide_eq_true (by first | (with_reducible assumption) | assumption)
                have q206 : x5_1 < (l1.length : Int) := of_decide_eq_true (by first | (with_reducible assumption) | assumption)
                obtain ⟨ad206, e206, hx206_0, hx206_1, hx206_2, hx206_3⟩ := at_T39 HR1.out x5_1 p206 q206
                cases e206
                replace p206 := eq_true p206
                replace q206 := eq_true q206
                go_wp2
                repeat (go_quiet (fail); try go_wp2)
                go_ret
                exact ⟨by first | rfl | (simp; done) | (simp [*]; done), by repeat (first | exact Drawn0.refl _ | apply Drawn0.step)⟩
            · rw [if_neg c6] at H
              exact absurd H (by simp)
          · rw [if_neg c5] at H
            exact absurd H (by simp)
        · rw [if_neg c4] at H
          have c4b0 : decide (x5_1 < (l0.length : Int)) = false := decide_eq_false c4
          clear c4
          obtain rfl := Option.some.inj H
          go_wp2
          repeat (go_quiet (fail); try go_wp2)
          go_ret
          exact ⟨by first | rfl | (simp; done) | (simp [*]; done), by repeat (first | exact Drawn0.refl _ | apply Drawn0.step)⟩
  · rw [if_neg c3] at H
    have c3b0 : ((l0.length : Int) == (l1.length : Int)) = false := beq_eq_false_iff_ne.mpr c3
    have c3b1 : ((l0.length : Int) != (l1.length : Int)) = true := bne_iff_ne.mpr c3
    have c3b2 : (l0.length == l1.length) = false := by first | simpa using c3 | (simp at c3 ⊢; omega)
    obtain rfl := Option.some.inj H
    go_enter Try.func14, Try.ntmps14
    go_wp2
    repeat (go_quiet (fail); try go_wp2)
    go_ret
    exact ⟨by first | rfl | (simp; done) | (simp [*]; done), by repeat (first | exact Drawn0.refl _ | apply Drawn0.step)⟩
end Go.Proofs.Ytdonanibfifodaa.PBlockTells
