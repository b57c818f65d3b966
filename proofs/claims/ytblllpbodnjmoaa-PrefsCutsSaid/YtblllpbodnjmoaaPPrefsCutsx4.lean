-- Written by a program of this session (the kit's printer, turned): the functions that the law reaches.
import Derived.Test.YtblllpbodnjmoaaPPrefsCutsx0
import Derived.Test.YtblllpbodnjmoaaPPrefsCutsx1
import Derived.Test.YtblllpbodnjmoaaPPrefsCutsx2
import Derived.Test.YtblllpbodnjmoaaPPrefsCutsx3
namespace Go.Proofs.Ytblllpbodnjmoaa.PPrefsCuts
open Go.RowKit Go.Proofs.YtblllpbodnjmoaaW.PrintWords Go.Proofs.YtblllpbodnjmoaaW.PrintLast Go.Proofs.YtblllpbodnjmoaaW.PrintMore
attribute [local go_sem] max2_int min2_int max_two min_two max_three min_three max_four min_four   -- for this text's walks alone
set_option linter.unusedVariables false
set_option linter.unusedSimpArgs false

attribute [local go_sem high] eqA48
/-! ### bywashbook_SamePrefs: function 19 -/
def bywashbook_SamePrefs.l0 : Nat → List (S48) → List (S48) → Int → Option (Bool)
  | 0, _, _, _ => none
  | k + 1, x0, x1, x5 => if x5 < (x0.length : Int) then (if 0 ≤ x5 then (if x5 < (x1.length : Int) then (if ((((rd_T48 x0 x5).f0) == ((rd_T48 x1 x5).f0) && (((rd_T48 x0 x5).f1) == ((rd_T48 x1 x5).f1))) = true) then (bywashbook_SamePrefs.l0 k x0 x1 (wrap64 (x5 + 1))) else (some false)) else (none)) else (none)) else (some true)
def bywashbook_SamePrefs.f (k : Nat) (l0 : List (S48)) (l1 : List (S48)) : Option (Bool) := if (l0.length : Int) = (l1.length : Int) then (bywashbook_SamePrefs.l0 k l0 l1 0) else (some false)
theorem bywashbook_SamePrefs.mono_l : ∀ k, (∀ y0 y1 y2, LeO (bywashbook_SamePrefs.l0 k y0 y1 y2) (bywashbook_SamePrefs.l0 (k + 1) y0 y1 y2))
  | 0 => fun _ _ _ r h => by simp [bywashbook_SamePrefs.l0] at h
  | k + 1 => by
    have ih0 := bywashbook_SamePrefs.mono_l k
    · intro y0 y1 y2
      unfold bywashbook_SamePrefs.l0
      repeat' first
      | (with_reducible exact ih0 _ _ _)
      | (with_reducible exact LeO.refl _)
      | (with_reducible exact LeO.none _)
      | (with_reducible refine LeO.ite ?_ ?_)
      | (with_reducible refine LeO.bind ?_ (fun _ => ?_))
      | exact ih0 _ _ _
      | exact LeO.none _
      | refine LeO.ite ?_ ?_
      | refine LeO.bind ?_ (fun _ => ?_)
theorem bywashbook_SamePrefs.mono : ∀ a0 a1 k, LeO (bywashbook_SamePrefs.f k a0 a1) (bywashbook_SamePrefs.f (k + 1) a0 a1) := by
  intro a0 a1 k
  have ih0 := bywashbook_SamePrefs.mono_l k
  unfold bywashbook_SamePrefs.f
  repeat' first
      | (with_reducible exact ih0 _ _ _)
      | (with_reducible exact LeO.refl _)
      | (with_reducible exact LeO.none _)
      | (with_reducible refine LeO.ite ?_ ?_)
      | (with_reducible refine LeO.bind ?_ (fun _ => ?_))
      | exact ih0 _ _ _
      | exact LeO.none _
      | refine LeO.ite ?_ ?_
      | refine LeO.bind ?_ (fun _ => ?_)
set_option maxHeartbeats 8000000 in
set_option maxRecDepth 100000 in
theorem bywashbook_SamePrefs.calls (k : Nat) (A0 : Option Addr) (c0 : Nat) (l0 : List (S48)) (A1 : Option Addr) (c1 : Nat) (l1 : List (S48)) (r : Bool) (w : World) (hr0 : Kd.C k48 w A0 l0.length l0) (hc0 : l0.length ≤ c0) (hr1 : Kd.C k48 w A1 l1.length l1) (hc1 : l1.length ≤ c1) (h : bywashbook_SamePrefs.f k l0 l1 = some r) :
    Calls Try.prog 19 #[.slice A0 l0.length c0, .slice A1 l1.length c1] w fun e w' => e = .returned (.bool r) ∧ Drawn0 w w' := by
  have hu44 := Try.underlying44
  have hu48 := Try.underlying48
  have HR0 := Aside0.mk hr0
  have HC0 := Aside0.mk hc0
  clear hr0 hc0
  have HR1 := Aside0.mk hr1
  have HC1 := Aside0.mk hc1
  clear hr1 hc1
  have H : (if (l0.length : Int) = (l1.length : Int) then (bywashbook_SamePrefs.l0 k l0 l1 0) else (some false)) = some r := h
  clear h
  by_cases c3 : (l0.length : Int) = (l1.length : Int)
  · rw [if_pos c3] at H
    have c3b0 : ((l0.length : Int) == (l1.length : Int)) = true := beq_iff_eq.mpr c3
    have c3b1 : ((l0.length : Int) != (l1.length : Int)) = false := bne_eq_false_iff_eq.mpr c3
    have c3b2 : (l0.length == l1.length) = true := by first | simpa using c3 | (simp at c3 ⊢; omega)
    clear c3
    have H' := Aside0.mk H
    clear H
    go_enter Try.func19, Try.ntmps19
    go_wp2
    repeat (go_quiet (fail); try go_wp2)
    go_loopg [5] k (fun kq v5 w' => ∃ (x5_1 : Int), v5 = .int .i64 x5_1 ∧ Aside0 (bywashbook_SamePrefs.l0 kq l0 l1 x5_1 = some r) ∧ Aside0 (kq ≤ k) ∧ Drawn0 w w')
    case atStart => exact ⟨(0), (by first | rfl | (simp; done) | (simp [*]; done)), H', ⟨Nat.le_refl _⟩, by repeat (first | exact Drawn0.refl _ | apply Drawn0.step)⟩
    case round =>
      clear H'
      try clear c1
      try clear p2
      try clear c3
      try clear c3b0
      try clear c3b1
      try clear c3b2
      obtain ⟨x5_1, rfl, HA, HK1, ⟨m1, rfl⟩⟩ := hrel
      cases gk with
      | zero => exact absurd HA.out (by simp [bywashbook_SamePrefs.l0])
      | succ k1 =>
        have H := HA.out
        clear HA
        simp only [bywashbook_SamePrefs.l0] at H
        by_cases c4 : x5_1 < (l0.length : Int)
        · rw [if_pos c4] at H
          have c4b0 : decide (x5_1 < (l0.length : Int)) = true := decide_eq_true c4
          clear c4
          by_cases c5 : 0 ≤ x5_1
          · rw [if_pos c5] at H
            have c5b0 : decide (0 ≤ x5_1) = true := decide_eq_true c5
            clear c5
            by_cases c6 : x5_1 < (l1.length : Int)
            · rw [if_pos c6] at H
              have c6b0 : decide (x5_1 < (l1.length : Int)) = true := decide_eq_true c6
              clear c6
              by_cases c7 : ((((rd_T48 l0 x5_1).f0) == ((rd_T48 l1 x5_1).f0) && (((rd_T48 l0 x5_1).f1) == ((rd_T48 l1 x5_1).f1))) = true)
              · rw [if_pos c7] at H
                have c7b0 : (((rd_T48 l0 x5_1).f0) == ((rd_T48 l1 x5_1).f0) && (((rd_T48 l0 x5_1).f1) == ((rd_T48 l1 x5_1).f1))) = true := c7
                (try (have c7b1 : decide (((rd_T48 l0 x5_1).f0) = ((rd_T48 l1 x5_1).f0) && (((rd_T48 l0 x5_1).f1) == ((rd_T48 l1 x5_1).f1))) = true := by simpa using c7))
                (try (have c7b2 : (((rd_T48 l0 x5_1).f0) == ((rd_T48 l1 x5_1).f0) && (((rd_T48 l0 x5_1).f1) == ((rd_T48 l1 x5_1).f1))) = true := by simpa using c7))
                clear c7
                have H' := Aside0.mk H
                clear H
                have p159 : 0 ≤ (x5_1 : Int) := of_decide_eq_true (by first | (with_reducible assumption) | assumption)
                have q159 : x5_1 < (l0.length : Int) := of_decide_eq_true (by first | (with_reducible assumption) | assumption)
                obtain ⟨ad159, e159, hx159_0, hx159_1⟩ := at_T48 HR0.out x5_1 p159 q159
                cases e159
                replace p159 := eq_true p159
                replace q159 := eq_true q159
                have p160 : 0 ≤ (x5_1 : Int) := of_decide_eq_true (by first | (with_reducible assumption) | assumption)
                have q160 : x5_1 < (l1.length : Int) := of_decide_eq_true (by first | (with_reducible assumption) | assumption)
                obtain ⟨ad160, e160, hx160_0, hx160_1⟩ := at_T48 HR1.out x5_1 p160 q160
                cases e160
                replace p160 := eq_true p160
                replace q160 := eq_true q160
                go_wp2
                repeat (go_quiet (fail); try go_wp2)
                go_roundg k1
                case measure => have := HK1.out; omega
                case rel => exact ⟨(wrap64 (x5_1 + 1)), (by first | rfl | (simp; done) | (simp [*]; done)), H', ⟨by have := HK1.out; omega⟩, by repeat (first | exact Drawn0.refl _ | apply Drawn0.step)⟩
              · rw [if_neg c7] at H
                have c7b0 : (((rd_T48 l0 x5_1).f0) == ((rd_T48 l1 x5_1).f0) && (((rd_T48 l0 x5_1).f1) == ((rd_T48 l1 x5_1).f1))) = false := by simpa using c7
                (try (have c7b1 : decide (((rd_T48 l0 x5_1).f0) = ((rd_T48 l1 x5_1).f0) && (((rd_T48 l0 x5_1).f1) == ((rd_T48 l1 x5_1).f1))) = false := by simpa using c7))
                (try (have c7b2 : (((rd_T48 l0 x5_1).f0) == ((rd_T48 l1 x5_1).f0) && (((rd_T48 l0 x5_1).f1) == ((rd_T48 l1 x5_1).f1))) = false := by simpa using c7))
                (try (have c7b3 : ¬ (((rd_T48 l0 x5_1).f0) = ((rd_T48 l1 x5_1).f0) && (((rd_T48 l0 x5_1).f1) == ((rd_T48 l1 x5_1).f1))) := by simpa using c7))
                clear c7
                obtain rfl := Option.some.inj H
                have p159 : 0 ≤ (x5_1 : Int) := of_decide_eq_true (by first | (with_reducible assumption) | assumption)
                have q159 : x5_1 < (l0.length : Int) := of_decide_eq_true (by first | (with_reducible assumption) | assumption)
                obtain ⟨ad159, e159, hx159_0, hx159_1⟩ := at_T48 HR0.out x5_1 p159 q159
                cases e159
                replace p159 := eq_true p159
                replace q159 := eq_true q159
                have p160 : 0 ≤ (x5_1 : Int) := of_decide_eq_true (by first | (with_reducible assumption) | assumption)
                have q160 : x5_1 < (l1.length : Int) := of_decide_eq_true (by first | (with_reducible assumption) | assumption)
                obtain ⟨ad160, e160, hx160_0, hx160_1⟩ := at_T48 HR1.out x5_1 p160 q160
                cases e160
                replace p160 := eq_true p160
                replace q160 := eq_true q160
                go_wp2
                repeat (go_quiet (fail); try go_wp2)
                go_ret
                exact ⟨by first | rfl | (simp; done) | (simp [*]; done), by repeat (first | exact Drawn0.refl _ | apply Drawn0.step)⟩
            · rw [if_neg c6] at H
              exact absurd H (by simp)
          · rw [if_neg c5] at H
            exact absurd H (by simp)
        · rw [if_neg c4] at H
          have c4b0 : decide (x5_1 < (l0.length : Int)) = false := decide_eq_false c4
          clear c4
          obtain rfl := Option.some.inj H
          go_wp2
          repeat (go_quiet (fail); try go_wp2)
          go_ret
          exact ⟨by first | rfl | (simp; done) | (simp [*]; done), by repeat (first | exact Drawn0.refl _ | apply Drawn0.step)⟩
  · rw [if_neg c3] at H
    have c3b0 : ((l0.length : Int) == (l1.length : Int)) = false := beq_eq_false_iff_ne.mpr c3
    have c3b1 : ((l0.length : Int) != (l1.length : Int)) = true := bne_iff_ne.mpr c3
    have c3b2 : (l0.length == l1.length) = false := by first | simpa using c3 | (simp at c3 ⊢; omega)
    obtain rfl := Option.some.inj H
    go_enter Try.func19, Try.ntmps19
    go_wp2
    repeat (go_quiet (fail); try go_wp2)
    go_ret
    exact ⟨by first | rfl | (simp; done) | (simp [*]; done), by repeat (first | exact Drawn0.refl _ | apply Drawn0.step)⟩

/-! ### bywashlaw10_PrefsCuts: function 7 -/
def bywashlaw10_PrefsCuts.j0 : Nat → List (S48) → Int → Bool → Option (Bool)
  | 0, _, _, _ => none
  | k + 1, x0, x1, x16 => if x16 = true then ((bywashlaw10_alive.f k).bind fun t162 => (some t162)) else ((prefs_Put.f k x0).bind fun bt163 => (if bt163.2 = true then (if (wrap64 ((bt163.1.size : Int) + 1)) = 0 then (none) else (if 0 ≤ (Int.tmod (wrap64 ((wrap64 ((Int.tmod x1 (wrap64 ((bt163.1.size : Int) + 1))) + (bt163.1.size : Int))) + 1)) (wrap64 ((bt163.1.size : Int) + 1))) then (if (Int.tmod (wrap64 ((wrap64 ((Int.tmod x1 (wrap64 ((bt163.1.size : Int) + 1))) + (bt163.1.size : Int))) + 1)) (wrap64 ((bt163.1.size : Int) + 1))) ≤ (bt163.1.size : Int) then ((prefs_Get.f k (bt163.1.extract 0 ((Int.tmod (wrap64 ((wrap64 ((Int.tmod x1 (wrap64 ((bt163.1.size : Int) + 1))) + (bt163.1.size : Int))) + 1)) (wrap64 ((bt163.1.size : Int) + 1))) : Int).toNat)).bind fun bt165 => (if (bt163.1.size : Int) = (wrap64 (6 * (x0.length : Int))) then (if bt165.2 = true then (if (Int.tmod (Int.tmod (wrap64 ((wrap64 ((Int.tmod x1 (wrap64 ((bt163.1.size : Int) + 1))) + (bt163.1.size : Int))) + 1)) (wrap64 ((bt163.1.size : Int) + 1))) 6) = 0 then (if 0 ≤ (wrap64 (Int.tdiv (Int.tmod (wrap64 ((wrap64 ((Int.tmod x1 (wrap64 ((bt163.1.size : Int) + 1))) + (bt163.1.size : Int))) + 1)) (wrap64 ((bt163.1.size : Int) + 1))) 6)) then (if (wrap64 (Int.tdiv (Int.tmod (wrap64 ((wrap64 ((Int.tmod x1 (wrap64 ((bt163.1.size : Int) + 1))) + (bt163.1.size : Int))) + 1)) (wrap64 ((bt163.1.size : Int) + 1))) 6)) ≤ (x0.length : Int) then ((bywashbook_SamePrefs.f k bt165.1 (x0.take ((wrap64 (Int.tdiv (Int.tmod (wrap64 ((wrap64 ((Int.tmod x1 (wrap64 ((bt163.1.size : Int) + 1))) + (bt163.1.size : Int))) + 1)) (wrap64 ((bt163.1.size : Int) + 1))) 6)) : Int).toNat)).bind fun t173 => (if t173 = true then (some true) else (some false))) else (none)) else (none)) else (some false)) else (if (Int.tmod (Int.tmod (wrap64 ((wrap64 ((Int.tmod x1 (wrap64 ((bt163.1.size : Int) + 1))) + (bt163.1.size : Int))) + 1)) (wrap64 ((bt163.1.size : Int) + 1))) 6) = 0 then (some false) else (some ((bt165.1.length : Int) == 0)))) else (some false))) else (none)) else (none))) else (some (bt163.1.toList == ([] : List UInt8)))))
def bywashlaw10_PrefsCuts.f (k : Nat) (l0 : List (S48)) (a1 : Int) : Option (Bool) := if (l0.length : Int) > 30 then (bywashlaw10_PrefsCuts.j0 k l0 a1 true) else ((bywashlaw10_alive.f k).bind fun t161 => (bywashlaw10_PrefsCuts.j0 k l0 a1 (!t161)))
theorem bywashlaw10_PrefsCuts.mono_l : ∀ k, (∀ y0 y1 y2, LeO (bywashlaw10_PrefsCuts.j0 k y0 y1 y2) (bywashlaw10_PrefsCuts.j0 (k + 1) y0 y1 y2))
  | 0 => fun _ _ _ r h => by simp [bywashlaw10_PrefsCuts.j0] at h
  | k + 1 => by
    have ih0 := bywashlaw10_PrefsCuts.mono_l k
    · intro y0 y1 y2
      unfold bywashlaw10_PrefsCuts.j0
      repeat' first
      | (with_reducible exact ih0 _ _ _)
      | (with_reducible exact bywashbook_SamePrefs.mono _ _ _)
      | (with_reducible exact bywashlaw10_alive.mono _)
      | (with_reducible exact prefs_Get.mono _ _)
      | (with_reducible exact prefs_Put.mono _ _)
      | (with_reducible exact LeO.refl _)
      | (with_reducible exact LeO.none _)
      | (with_reducible refine LeO.ite ?_ ?_)
      | (with_reducible refine LeO.bind ?_ (fun _ => ?_))
      | exact ih0 _ _ _
      | exact bywashbook_SamePrefs.mono _ _ _
      | exact bywashlaw10_alive.mono _
      | exact prefs_Get.mono _ _
      | exact prefs_Put.mono _ _
      | exact LeO.none _
      | refine LeO.ite ?_ ?_
      | refine LeO.bind ?_ (fun _ => ?_)
theorem bywashlaw10_PrefsCuts.mono : ∀ a0 a1 k, LeO (bywashlaw10_PrefsCuts.f k a0 a1) (bywashlaw10_PrefsCuts.f (k + 1) a0 a1) := by
  intro a0 a1 k
  have ih0 := bywashlaw10_PrefsCuts.mono_l k
  unfold bywashlaw10_PrefsCuts.f
  repeat' first
      | (with_reducible exact ih0 _ _ _)
      | (with_reducible exact bywashbook_SamePrefs.mono _ _ _)
      | (with_reducible exact bywashlaw10_alive.mono _)
      | (with_reducible exact prefs_Get.mono _ _)
      | (with_reducible exact prefs_Put.mono _ _)
      | (with_reducible exact LeO.refl _)
      | (with_reducible exact LeO.none _)
      | (with_reducible refine LeO.ite ?_ ?_)
      | (with_reducible refine LeO.bind ?_ (fun _ => ?_))
      | exact ih0 _ _ _
      | exact bywashbook_SamePrefs.mono _ _ _
      | exact bywashlaw10_alive.mono _
      | exact prefs_Get.mono _ _
      | exact prefs_Put.mono _ _
      | exact LeO.none _
      | refine LeO.ite ?_ ?_
      | refine LeO.bind ?_ (fun _ => ?_)
set_option maxHeartbeats 8000000 in
set_option maxRecDepth 100000 in
theorem bywashlaw10_PrefsCuts.calls (k : Nat) (A0 : Option Addr) (c0 : Nat) (l0 : List (S48)) (a1 : Int) (r : Bool) (w : World) (hr0 : Kd.C k48 w A0 l0.length l0) (hc0 : l0.length ≤ c0) (h : bywashlaw10_PrefsCuts.f k l0 a1 = some r) :
    Calls Try.prog 7 #[.slice A0 l0.length c0, .int .i64 a1] w fun e w' => e = .returned (.bool r) ∧ Below w.heap.size w w' := by
  have hu44 := Try.underlying44
  have HR0 := Aside0.mk hr0
  have HC0 := Aside0.mk hc0
  clear hr0 hc0
  have HB := Aside0.mk (Below.refl w.heap.size w)
  have H : (if (l0.length : Int) > 30 then (bywashlaw10_PrefsCuts.j0 k l0 a1 true) else ((bywashlaw10_alive.f k).bind fun t161 => (bywashlaw10_PrefsCuts.j0 k l0 a1 (!t161)))) = some r := h
  clear h
  have HC3 := Aside0.mk H
  clear H
  go_enter Try.func7, Try.ntmps7
  go_upto_region 1 with (fail)
  go_cut [16] (fun v16 wc => ∃ (kq : Nat) (x16_2 : Bool), v16 = .bool x16_2 ∧ Aside0 (bywashlaw10_PrefsCuts.j0 kq l0 a1 x16_2 = some r) ∧ Aside0 (kq ≤ k) ∧ Aside0 (Below w.heap.size w wc))
  case first =>
    have H := HC3.out
    clear HC3
    by_cases c4 : (l0.length : Int) > 30
    · rw [if_pos c4] at H
      have c4b0 : decide (30 < (l0.length : Int)) = true := decide_eq_true c4
      have c4b1 : decide (30 < l0.length) = true := decide_eq_true (by omega)
      clear c4
      (first | rw [c4b0] | (simp only [i64_w, i32_w]; rw [c4b0]) | skip)
      have H' := Aside0.mk H
      clear H
      go_wp2
      go_meet
      case rel => exact ⟨_, (true), (by first | rfl | (simp; done) | (simp [*]; done)), H', ⟨by first | omega | exact Nat.le_refl _⟩, ⟨by repeat (first | (with_reducible first | exact HB.out | apply below_alloc | apply pw_below_drewN | apply below_drew1) | exact HB.out)⟩⟩
    · rw [if_neg c4] at H
      have c4b0 : decide (30 < (l0.length : Int)) = false := decide_eq_false c4
      have c4b1 : decide (30 < l0.length) = false := decide_eq_false (by omega)
      clear c4
      (first | rw [c4b0] | (simp only [i64_w, i32_w]; rw [c4b0]) | skip)
      replace H := Option.bind_eq_some_iff.mp H
      obtain ⟨t161, A50, H⟩ := H
      replace H : (bywashlaw10_PrefsCuts.j0 k l0 a1 (!t161)) = some r := H
      have A5 := Aside0.mk A50
      clear A50
      have H' := Aside0.mk H
      clear H
      go_wp2_with (first | (go_at_call 10; (with_reducible refine (bywashlaw10_alive.calls k  t161 _ A5.out).mono ?_); rintro e w6 ⟨rfl, hb⟩; have n0_ := Aside0.mk (below_step (by repeat (first | (with_reducible first | exact HB.out | apply below_alloc | apply pw_below_drewN | apply below_drew1) | exact HB.out)) hb); clear HB; have HB := n0_; clear n0_; (try clear hb); (try clear hb2); (try clear hk); (try clear hi)))
      go_meet
      case rel => exact ⟨_, (!t161), (by first | rfl | (simp; done) | (simp [*]; done)), H', ⟨by first | omega | exact Nat.le_refl _⟩, ⟨by repeat (first | (with_reducible first | exact HB.out | apply below_alloc | apply pw_below_drewN | apply below_drew1) | exact HB.out)⟩⟩
  case rest =>
    clear HC3
    try clear p2
    try clear c4
    try clear c4b0
    try clear c4b1
    obtain ⟨kq, x16_2, rfl, HA, HJ2, HB⟩ := hcut
    cases kq with
    | zero => exact absurd HA.out (by simp [bywashlaw10_PrefsCuts.j0])
    | succ kj2 =>
      have H := HA.out
      clear HA
      simp only [bywashlaw10_PrefsCuts.j0] at H
      by_cases c7 : x16_2 = true
      · subst c7
        have H1 : ((bywashlaw10_alive.f kj2).bind fun t162 => (some t162)) = some r := by rw [if_pos rfl] at H; exact H
        clear H
        have H := H1
        clear H1
        replace H := Option.bind_eq_some_iff.mp H
        obtain ⟨t162, A80, H⟩ := H
        replace H : (some t162) = some r := H
        have A8 := Aside0.mk A80
        clear A80
        obtain rfl := Option.some.inj H
        go_wp2_with (first | ((with_reducible refine gate_callee (f := 10) rfl ?_); refine goesL_ (some 17) rfl rfl Try.func10 (by kernel_rfl) rfl #[] rfl (by (try simp only [List.map_toArray, List.map_cons, List.map_nil]); first | done | rfl | (simp only [List.length_drop, List.length_take]; rfl)) ?_; (with_reducible refine (bywashlaw10_alive.calls kj2  t162 _ A8.out).mono ?_); rintro e w9 ⟨rfl, hb⟩; refine ⟨_, rfl, ?_⟩; have n0_ := Aside0.mk (below_step (by repeat (first | (with_reducible first | exact HB.out | apply below_alloc | apply pw_below_drewN | apply below_drew1) | exact HB.out)) hb); clear HB; have HB := n0_; clear n0_; (try clear hb); (try clear hb2); (try clear hk); (try clear hi)))
        go_ret
        exact ⟨by first | rfl | (simp [errW_none, errW_some] <;> rfl) | (simp [*, errW_none, errW_some] <;> rfl), by repeat (first | (with_reducible first | exact HB.out | apply below_alloc | apply pw_below_drewN | apply below_drew1) | exact HB.out)⟩
      · replace c7 := Bool.eq_false_iff.mpr c7
        subst c7
        have H1 : ((prefs_Put.f kj2 l0).bind fun bt163 => (if bt163.2 = true then (if (wrap64 ((bt163.1.size : Int) + 1)) = 0 then (none) else (if 0 ≤ (Int.tmod (wrap64 ((wrap64 ((Int.tmod a1 (wrap64 ((bt163.1.size : Int) + 1))) + (bt163.1.size : Int))) + 1)) (wrap64 ((bt163.1.size : Int) + 1))) then (if (Int.tmod (wrap64 ((wrap64 ((Int.tmod a1 (wrap64 ((bt163.1.size : Int) + 1))) + (bt163.1.size : Int))) + 1)) (wrap64 ((bt163.1.size : Int) + 1))) ≤ (bt163.1.size : Int) then ((prefs_Get.f kj2 (bt163.1.extract 0 ((Int.tmod (wrap64 ((wrap64 ((Int.tmod a1 (wrap64 ((bt163.1.size : Int) + 1))) + (bt163.1.size : Int))) + 1)) (wrap64 ((bt163.1.size : Int) + 1))) : Int).toNat)).bind fun bt165 => (if (bt163.1.size : Int) = (wrap64 (6 * (l0.length : Int))) then (if bt165.2 = true then (if (Int.tmod (Int.tmod (wrap64 ((wrap64 ((Int.tmod a1 (wrap64 ((bt163.1.size : Int) + 1))) + (bt163.1.size : Int))) + 1)) (wrap64 ((bt163.1.size : Int) + 1))) 6) = 0 then (if 0 ≤ (wrap64 (Int.tdiv (Int.tmod (wrap64 ((wrap64 ((Int.tmod a1 (wrap64 ((bt163.1.size : Int) + 1))) + (bt163.1.size : Int))) + 1)) (wrap64 ((bt163.1.size : Int) + 1))) 6)) then (if (wrap64 (Int.tdiv (Int.tmod (wrap64 ((wrap64 ((Int.tmod a1 (wrap64 ((bt163.1.size : Int) + 1))) + (bt163.1.size : Int))) + 1)) (wrap64 ((bt163.1.size : Int) + 1))) 6)) ≤ (l0.length : Int) then ((bywashbook_SamePrefs.f kj2 bt165.1 (l0.take ((wrap64 (Int.tdiv (Int.tmod (wrap64 ((wrap64 ((Int.tmod a1 (wrap64 ((bt163.1.size : Int) + 1))) + (bt163.1.size : Int))) + 1)) (wrap64 ((bt163.1.size : Int) + 1))) 6)) : Int).toNat)).bind fun t173 => (if t173 = true then (some true) else (some false))) else (none)) else (none)) else (some false)) else (if (Int.tmod (Int.tmod (wrap64 ((wrap64 ((Int.tmod a1 (wrap64 ((bt163.1.size : Int) + 1))) + (bt163.1.size : Int))) + 1)) (wrap64 ((bt163.1.size : Int) + 1))) 6) = 0 then (some false) else (some ((bt165.1.length : Int) == 0)))) else (some false))) else (none)) else (none))) else (some (bt163.1.toList == ([] : List UInt8))))) = some r := by rw [if_neg (show ¬ (false = true) by decide)] at H; exact H
        clear H
        have H := H1
        clear H1
        replace H := Option.bind_eq_some_iff.mp H
        obtain ⟨⟨t163, t164⟩, A100, H⟩ := H
        replace H : (if t164 = true then (if (wrap64 ((t163.size : Int) + 1)) = 0 then (none) else (if 0 ≤ (Int.tmod (wrap64 ((wrap64 ((Int.tmod a1 (wrap64 ((t163.size : Int) + 1))) + (t163.size : Int))) + 1)) (wrap64 ((t163.size : Int) + 1))) then (if (Int.tmod (wrap64 ((wrap64 ((Int.tmod a1 (wrap64 ((t163.size : Int) + 1))) + (t163.size : Int))) + 1)) (wrap64 ((t163.size : Int) + 1))) ≤ (t163.size : Int) then ((prefs_Get.f kj2 (t163.extract 0 ((Int.tmod (wrap64 ((wrap64 ((Int.tmod a1 (wrap64 ((t163.size : Int) + 1))) + (t163.size : Int))) + 1)) (wrap64 ((t163.size : Int) + 1))) : Int).toNat)).bind fun bt165 => (if (t163.size : Int) = (wrap64 (6 * (l0.length : Int))) then (if bt165.2 = true then (if (Int.tmod (Int.tmod (wrap64 ((wrap64 ((Int.tmod a1 (wrap64 ((t163.size : Int) + 1))) + (t163.size : Int))) + 1)) (wrap64 ((t163.size : Int) + 1))) 6) = 0 then (if 0 ≤ (wrap64 (Int.tdiv (Int.tmod (wrap64 ((wrap64 ((Int.tmod a1 (wrap64 ((t163.size : Int) + 1))) + (t163.size : Int))) + 1)) (wrap64 ((t163.size : Int) + 1))) 6)) then (if (wrap64 (Int.tdiv (Int.tmod (wrap64 ((wrap64 ((Int.tmod a1 (wrap64 ((t163.size : Int) + 1))) + (t163.size : Int))) + 1)) (wrap64 ((t163.size : Int) + 1))) 6)) ≤ (l0.length : Int) then ((bywashbook_SamePrefs.f kj2 bt165.1 (l0.take ((wrap64 (Int.tdiv (Int.tmod (wrap64 ((wrap64 ((Int.tmod a1 (wrap64 ((t163.size : Int) + 1))) + (t163.size : Int))) + 1)) (wrap64 ((t163.size : Int) + 1))) 6)) : Int).toNat)).bind fun t173 => (if t173 = true then (some true) else (some false))) else (none)) else (none)) else (some false)) else (if (Int.tmod (Int.tmod (wrap64 ((wrap64 ((Int.tmod a1 (wrap64 ((t163.size : Int) + 1))) + (t163.size : Int))) + 1)) (wrap64 ((t163.size : Int) + 1))) 6) = 0 then (some false) else (some ((bt165.1.length : Int) == 0)))) else (some false))) else (none)) else (none))) else (some (t163.toList == ([] : List UInt8)))) = some r := H
        have A10 := Aside0.mk A100
        clear A100
        by_cases c11 : t164 = true
        · subst c11
          have H1 : (if (wrap64 ((t163.size : Int) + 1)) = 0 then (none) else (if 0 ≤ (Int.tmod (wrap64 ((wrap64 ((Int.tmod a1 (wrap64 ((t163.size : Int) + 1))) + (t163.size : Int))) + 1)) (wrap64 ((t163.size : Int) + 1))) then (if (Int.tmod (wrap64 ((wrap64 ((Int.tmod a1 (wrap64 ((t163.size : Int) + 1))) + (t163.size : Int))) + 1)) (wrap64 ((t163.size : Int) + 1))) ≤ (t163.size : Int) then ((prefs_Get.f kj2 (t163.extract 0 ((Int.tmod (wrap64 ((wrap64 ((Int.tmod a1 (wrap64 ((t163.size : Int) + 1))) + (t163.size : Int))) + 1)) (wrap64 ((t163.size : Int) + 1))) : Int).toNat)).bind fun bt165 => (if (t163.size : Int) = (wrap64 (6 * (l0.length : Int))) then (if bt165.2 = true then (if (Int.tmod (Int.tmod (wrap64 ((wrap64 ((Int.tmod a1 (wrap64 ((t163.size : Int) + 1))) + (t163.size : Int))) + 1)) (wrap64 ((t163.size : Int) + 1))) 6) = 0 then (if 0 ≤ (wrap64 (Int.tdiv (Int.tmod (wrap64 ((wrap64 ((Int.tmod a1 (wrap64 ((t163.size : Int) + 1))) + (t163.size : Int))) + 1)) (wrap64 ((t163.size : Int) + 1))) 6)) then (if (wrap64 (Int.tdiv (Int.tmod (wrap64 ((wrap64 ((Int.tmod a1 (wrap64 ((t163.size : Int) + 1))) + (t163.size : Int))) + 1)) (wrap64 ((t163.size : Int) + 1))) 6)) ≤ (l0.length : Int) then ((bywashbook_SamePrefs.f kj2 bt165.1 (l0.take ((wrap64 (Int.tdiv (Int.tmod (wrap64 ((wrap64 ((Int.tmod a1 (wrap64 ((t163.size : Int) + 1))) + (t163.size : Int))) + 1)) (wrap64 ((t163.size : Int) + 1))) 6)) : Int).toNat)).bind fun t173 => (if t173 = true then (some true) else (some false))) else (none)) else (none)) else (some false)) else (if (Int.tmod (Int.tmod (wrap64 ((wrap64 ((Int.tmod a1 (wrap64 ((t163.size : Int) + 1))) + (t163.size : Int))) + 1)) (wrap64 ((t163.size : Int) + 1))) 6) = 0 then (some false) else (some ((bt165.1.length : Int) == 0)))) else (some false))) else (none)) else (none))) = some r := by rw [if_pos rfl] at H; exact H
          clear H
          have H := H1
          clear H1
          by_cases c12 : (wrap64 ((t163.size : Int) + 1)) = 0
          · rw [if_pos c12] at H
            exact absurd H (by simp)
          · rw [if_neg c12] at H
            have c12b0 : ((wrap64 ((t163.size : Int) + 1)) == 0) = false := beq_eq_false_iff_ne.mpr c12
            have c12b1 : ((wrap64 ((t163.size : Int) + 1)) != 0) = true := bne_iff_ne.mpr c12
            obtain ⟨ji13, hji13⟩ : ∃ j_ : Int, (Int.tmod (wrap64 ((wrap64 ((Int.tmod a1 (wrap64 ((t163.size : Int) + 1))) + (t163.size : Int))) + 1)) (wrap64 ((t163.size : Int) + 1))) = j_ := ⟨_, rfl⟩
            replace H : (if 0 ≤ (ji13) then (if (ji13) ≤ (t163.size : Int) then ((prefs_Get.f kj2 (t163.extract 0 ((ji13) : Int).toNat)).bind fun bt165 => (if (t163.size : Int) = (wrap64 (6 * (l0.length : Int))) then (if bt165.2 = true then (if (Int.tmod (ji13) 6) = 0 then (if 0 ≤ (wrap64 (Int.tdiv (ji13) 6)) then (if (wrap64 (Int.tdiv (ji13) 6)) ≤ (l0.length : Int) then ((bywashbook_SamePrefs.f kj2 bt165.1 (l0.take ((wrap64 (Int.tdiv (ji13) 6)) : Int).toNat)).bind fun t173 => (if t173 = true then (some true) else (some false))) else (none)) else (none)) else (some false)) else (if (Int.tmod (ji13) 6) = 0 then (some false) else (some ((bt165.1.length : Int) == 0)))) else (some false))) else (none)) else (none)) = some r := by first | (rw [hji13] at H; exact H) | (simp only [hji13] at H ⊢; exact H)
            (try rw [hji13] at A10)
            by_cases c14 : 0 ≤ (ji13)
            · rw [if_pos c14] at H
              have c14b0 := eq_true c14
              have c14b1 : decide (0 ≤ (ji13)) = true := decide_eq_true c14
              clear c14
              by_cases c15 : (ji13) ≤ (t163.size : Int)
              · rw [if_pos c15] at H
                have c15b0 := eq_true c15
                have c15b1 : decide ((ji13) ≤ (t163.size : Int)) = true := decide_eq_true c15
                clear c15
                replace H := Option.bind_eq_some_iff.mp H
                obtain ⟨⟨t165, t166⟩, A160, H⟩ := H
                replace H : (if (t163.size : Int) = (wrap64 (6 * (l0.length : Int))) then (if t166 = true then (if (Int.tmod (ji13) 6) = 0 then (if 0 ≤ (wrap64 (Int.tdiv (ji13) 6)) then (if (wrap64 (Int.tdiv (ji13) 6)) ≤ (l0.length : Int) then ((bywashbook_SamePrefs.f kj2 t165 (l0.take ((wrap64 (Int.tdiv (ji13) 6)) : Int).toNat)).bind fun t173 => (if t173 = true then (some true) else (some false))) else (none)) else (none)) else (some false)) else (if (Int.tmod (ji13) 6) = 0 then (some false) else (some ((t165.length : Int) == 0)))) else (some false)) = some r := H
                have A16 := Aside0.mk A160
                clear A160
                by_cases c17 : (t163.size : Int) = (wrap64 (6 * (l0.length : Int)))
                · rw [if_pos c17] at H
                  have c17b0 : ((t163.size : Int) == (wrap64 (6 * (l0.length : Int)))) = true := beq_iff_eq.mpr c17
                  have c17b1 : ((t163.size : Int) != (wrap64 (6 * (l0.length : Int)))) = false := bne_eq_false_iff_eq.mpr c17
                  clear c17
                  by_cases c18 : t166 = true
                  · subst c18
                    have H1 : (if (Int.tmod (ji13) 6) = 0 then (if 0 ≤ (wrap64 (Int.tdiv (ji13) 6)) then (if (wrap64 (Int.tdiv (ji13) 6)) ≤ (l0.length : Int) then ((bywashbook_SamePrefs.f kj2 t165 (l0.take ((wrap64 (Int.tdiv (ji13) 6)) : Int).toNat)).bind fun t173 => (if t173 = true then (some true) else (some false))) else (none)) else (none)) else (some false)) = some r := by rw [if_pos rfl] at H; exact H
                    clear H
                    have H := H1
                    clear H1
                    by_cases c19 : (Int.tmod (ji13) 6) = 0
                    · rw [if_pos c19] at H
                      have c19b0 : ((Int.tmod (ji13) 6) == 0) = true := beq_iff_eq.mpr c19
                      have c19b1 : ((Int.tmod (ji13) 6) != 0) = false := bne_eq_false_iff_eq.mpr c19
                      clear c19
                      obtain ⟨ji20, hji20⟩ : ∃ j_ : Int, (wrap64 (Int.tdiv (ji13) 6)) = j_ := ⟨_, rfl⟩
                      replace H : (if 0 ≤ (ji20) then (if (ji20) ≤ (l0.length : Int) then ((bywashbook_SamePrefs.f kj2 t165 (l0.take ((ji20) : Int).toNat)).bind fun t173 => (if t173 = true then (some true) else (some false))) else (none)) else (none)) = some r := by first | (rw [hji20] at H; exact H) | (simp only [hji20] at H ⊢; exact H)
                      (try rw [hji20] at A10)
                      (try rw [hji20] at A16)
                      have hji20w : (IntKind.i64.wrap (Int.tdiv (ji13) 6)) = ji20 := (i64_w _).trans hji20
                      by_cases c21 : 0 ≤ (ji20)
                      · rw [if_pos c21] at H
                        have c21b0 := eq_true c21
                        have c21b1 : decide (0 ≤ (ji20)) = true := decide_eq_true c21
                        clear c21
                        by_cases c22 : (ji20) ≤ (l0.length : Int)
                        · rw [if_pos c22] at H
                          have c22b0 := eq_true c22
                          have c22b1 : decide ((ji20) ≤ (l0.length : Int)) = true := decide_eq_true c22
                          clear c22
                          obtain ⟨y169, hy169⟩ : ∃ y_ : List (S48), y_ = (l0.take ((ji20) : Int).toNat) := ⟨_, rfl⟩
                          replace H : ((bywashbook_SamePrefs.f kj2 t165 y169).bind fun t173 => (if t173 = true then (some true) else (some false))) = some r := by first | (rw [hy169]; with_reducible exact H) | (have H2_ := (Option.bind_some _ _).symm.trans H; rw [hy169]; with_reducible exact H2_) | (have H2_ := (Option.bind_some _ _).symm.trans H; with_reducible exact H2_) | with_reducible exact H | (rw [hy169]; exact H) | exact H
                          have Ny169 := Aside0.mk hy169
                          clear hy169
                          replace H := Option.bind_eq_some_iff.mp H
                          obtain ⟨t173, A230, H⟩ := H
                          replace H : (if t173 = true then (some true) else (some false)) = some r := H
                          have A23 := Aside0.mk A230
                          clear A230
                          by_cases c24 : t173 = true
                          · subst c24
                            have H1 : (some true) = some r := by rw [if_pos rfl] at H; exact H
                            clear H
                            have H := H1
                            clear H1
                            obtain rfl := Option.some.inj H
                            go_wp2_with (first | ((with_reducible refine gate_callee (f := 12) rfl ?_); refine goesL_ (some 20) rfl rfl Try.func12 (by kernel_rfl) rfl #[.slice A0 l0.length c0] rfl (by (try simp only [List.map_toArray, List.map_cons, List.map_nil]); first | done | rfl | (simp only [List.length_drop, List.length_take]; rfl)) ?_; (with_reducible refine (prefs_Put.calls kj2 _ _ l0 t163 true _ ?side1 ?side2 A10.out).mono ?_); (case side1 => repeat (first | exact (Kd.C_below HR0.out HB.out) | (with_reducible refine Kd.C_alloc ?_ _) | (with_reducible refine Kd.C_drewN ?_ _) | (with_reducible refine Kd.C_drew ?_))); (case side2 => exact HC0.out); rintro e w25 ⟨rfl, hb⟩; refine ⟨_, rfl, ?_⟩; have n0_ := Aside0.mk (below_step (by repeat (first | (with_reducible first | exact HB.out | apply below_alloc | apply pw_below_drewN | apply below_drew1) | exact HB.out)) hb); clear HB; have HB := n0_; clear n0_; (try clear hb); (try clear hb2); (try clear hk); (try clear hi)) | ((with_reducible refine gate_callee (f := 14) rfl ?_); refine goesL_ (some 44) rfl rfl Try.func14 (by kernel_rfl) rfl #[.string (t163.extract 0 ((ji13) : Int).toNat)] rfl (by (try simp only [List.map_toArray, List.map_cons, List.map_nil]); first | done | (simp only [hji13]; rfl) | rfl | (simp only [List.length_drop, List.length_take]; rfl)) ?_; (with_reducible refine (prefs_Get.calls kj2 (t163.extract 0 ((ji13) : Int).toNat) t165 true _ A16.out).mono ?_); rintro e w26 ⟨v167, rfl, ho0, hb⟩; refine ⟨_, rfl, ?_⟩; have n0_ := Aside0.mk (Kd.R_lower ho0 (below_size (by repeat (first | (with_reducible first | exact HB.out | apply below_alloc | apply pw_below_drewN | apply below_drew1) | exact HB.out)))); have n1_ := Aside0.mk (below_step (by repeat (first | (with_reducible first | exact HB.out | apply below_alloc | apply pw_below_drewN | apply below_drew1) | exact HB.out)) hb); clear HB; have HO168 := n0_; have HB := n1_; clear n0_ n1_; (try clear hb); (try clear hb2); (try clear hk); (try clear hi); (try clear ho0); have q27 : ((ji20) : Int) ≤ ((l0.length : Int) : Int) := of_decide_eq_true (by first | (with_reducible assumption) | assumption); obtain ⟨i027, hi027, _, hsz27, _⟩ := info_parts info48; have hroom27 : l0.length ≤ c0 := HC0.out; have hC27 : Kd.C k48 _ A0 l0.length l0 := HR0.out; have hcut27 := cut_to (P := Try.prog) 22 48 .i64 Try.underlying22 hi027 A0 l0.length c0 (ji20) (of_decide_eq_true (by first | (with_reducible assumption) | assumption)) q27 hroom27; have hr27 := Kd.C_take (m := ((ji20) : Int).toNat) hC27 (by omega); have hy27 : y169.length = ((ji20) : Int).toNat := (by rw [Ny169.out, List.length_take]; omega); rw [← Ny169.out] at hr27; rw [← hy27] at hcut27; have HR172 := Aside0.mk hr27; have HC172 := Aside0.mk (show y169.length ≤ c0 from by omega); clear hr27 hC27 hroom27 hi027 hsz27; have KY27 := Aside0.mk hy27; clear hy27; replace q27 := eq_true q27; obtain ⟨Ao28, co28, eo28⟩ := Kd.R_slice HO168.out; subst eo28) | (go_at_call 19; (with_reducible refine (bywashbook_SamePrefs.calls kj2 _ _ t165 _ _ y169 true _ ?side1 ?side2 ?side3 ?side4 A23.out).mono ?_); (case side1 => repeat (first | exact (Kd.R_reads' HO168.out).2.2 | (with_reducible refine Kd.C_alloc ?_ _) | (with_reducible refine Kd.C_drewN ?_ _) | (with_reducible refine Kd.C_drew ?_))); (case side2 => exact (Kd.R_reads' HO168.out).2.1); (case side3 => repeat (first | exact (Kd.C_below HR172.out HB.out) | (with_reducible refine Kd.C_alloc ?_ _) | (with_reducible refine Kd.C_drewN ?_ _) | (with_reducible refine Kd.C_drew ?_))); (case side4 => exact HC172.out); rintro e w' ⟨rfl, ⟨nd, rfl⟩⟩))
                            go_ret
                            exact ⟨by first | rfl | (simp [errW_none, errW_some] <;> rfl) | (simp only [← hji13, ← hji20]; first | rfl | (simp [errW_none, errW_some] <;> rfl)) | (simp [*, errW_none, errW_some] <;> rfl), by repeat (first | (with_reducible first | exact HB.out | apply below_alloc | apply pw_below_drewN | apply below_drew1) | exact HB.out)⟩
                          · replace c24 := Bool.eq_false_iff.mpr c24
                            subst c24
                            have H1 : (some false) = some r := by rw [if_neg (show ¬ (false = true) by decide)] at H; exact H
                            clear H
                            have H := H1
                            clear H1
                            obtain rfl := Option.some.inj H
                            go_wp2_with (first | ((with_reducible refine gate_callee (f := 12) rfl ?_); refine goesL_ (some 20) rfl rfl Try.func12 (by kernel_rfl) rfl #[.slice A0 l0.length c0] rfl (by (try simp only [List.map_toArray, List.map_cons, List.map_nil]); first | done | rfl | (simp only [List.length_drop, List.length_take]; rfl)) ?_; (with_reducible refine (prefs_Put.calls kj2 _ _ l0 t163 true _ ?side1 ?side2 A10.out).mono ?_); (case side1 => repeat (first | exact (Kd.C_below HR0.out HB.out) | (with_reducible refine Kd.C_alloc ?_ _) | (with_reducible refine Kd.C_drewN ?_ _) | (with_reducible refine Kd.C_drew ?_))); (case side2 => exact HC0.out); rintro e w29 ⟨rfl, hb⟩; refine ⟨_, rfl, ?_⟩; have n0_ := Aside0.mk (below_step (by repeat (first | (with_reducible first | exact HB.out | apply below_alloc | apply pw_below_drewN | apply below_drew1) | exact HB.out)) hb); clear HB; have HB := n0_; clear n0_; (try clear hb); (try clear hb2); (try clear hk); (try clear hi)) | ((with_reducible refine gate_callee (f := 14) rfl ?_); refine goesL_ (some 44) rfl rfl Try.func14 (by kernel_rfl) rfl #[.string (t163.extract 0 ((ji13) : Int).toNat)] rfl (by (try simp only [List.map_toArray, List.map_cons, List.map_nil]); first | done | (simp only [hji13]; rfl) | rfl | (simp only [List.length_drop, List.length_take]; rfl)) ?_; (with_reducible refine (prefs_Get.calls kj2 (t163.extract 0 ((ji13) : Int).toNat) t165 true _ A16.out).mono ?_); rintro e w30 ⟨v167, rfl, ho0, hb⟩; refine ⟨_, rfl, ?_⟩; have n0_ := Aside0.mk (Kd.R_lower ho0 (below_size (by repeat (first | (with_reducible first | exact HB.out | apply below_alloc | apply pw_below_drewN | apply below_drew1) | exact HB.out)))); have n1_ := Aside0.mk (below_step (by repeat (first | (with_reducible first | exact HB.out | apply below_alloc | apply pw_below_drewN | apply below_drew1) | exact HB.out)) hb); clear HB; have HO168 := n0_; have HB := n1_; clear n0_ n1_; (try clear hb); (try clear hb2); (try clear hk); (try clear hi); (try clear ho0); have q31 : ((ji20) : Int) ≤ ((l0.length : Int) : Int) := of_decide_eq_true (by first | (with_reducible assumption) | assumption); obtain ⟨i031, hi031, _, hsz31, _⟩ := info_parts info48; have hroom31 : l0.length ≤ c0 := HC0.out; have hC31 : Kd.C k48 _ A0 l0.length l0 := HR0.out; have hcut31 := cut_to (P := Try.prog) 22 48 .i64 Try.underlying22 hi031 A0 l0.length c0 (ji20) (of_decide_eq_true (by first | (with_reducible assumption) | assumption)) q31 hroom31; have hr31 := Kd.C_take (m := ((ji20) : Int).toNat) hC31 (by omega); have hy31 : y169.length = ((ji20) : Int).toNat := (by rw [Ny169.out, List.length_take]; omega); rw [← Ny169.out] at hr31; rw [← hy31] at hcut31; have HR172 := Aside0.mk hr31; have HC172 := Aside0.mk (show y169.length ≤ c0 from by omega); clear hr31 hC31 hroom31 hi031 hsz31; have KY31 := Aside0.mk hy31; clear hy31; replace q31 := eq_true q31; obtain ⟨Ao32, co32, eo32⟩ := Kd.R_slice HO168.out; subst eo32) | (go_at_call 19; (with_reducible refine (bywashbook_SamePrefs.calls kj2 _ _ t165 _ _ y169 false _ ?side1 ?side2 ?side3 ?side4 A23.out).mono ?_); (case side1 => repeat (first | exact (Kd.R_reads' HO168.out).2.2 | (with_reducible refine Kd.C_alloc ?_ _) | (with_reducible refine Kd.C_drewN ?_ _) | (with_reducible refine Kd.C_drew ?_))); (case side2 => exact (Kd.R_reads' HO168.out).2.1); (case side3 => repeat (first | exact (Kd.C_below HR172.out HB.out) | (with_reducible refine Kd.C_alloc ?_ _) | (with_reducible refine Kd.C_drewN ?_ _) | (with_reducible refine Kd.C_drew ?_))); (case side4 => exact HC172.out); rintro e w' ⟨rfl, ⟨nd, rfl⟩⟩))
                            go_ret
                            exact ⟨by first | rfl | (simp [errW_none, errW_some] <;> rfl) | (simp only [← hji13, ← hji20]; first | rfl | (simp [errW_none, errW_some] <;> rfl)) | (simp [*, errW_none, errW_some] <;> rfl), by repeat (first | (with_reducible first | exact HB.out | apply below_alloc | apply pw_below_drewN | apply below_drew1) | exact HB.out)⟩
                        · rw [if_neg c22] at H
                          exact absurd H (by simp)
                      · rw [if_neg c21] at H
                        exact absurd H (by simp)
                    · rw [if_neg c19] at H
                      have c19b0 : ((Int.tmod (ji13) 6) == 0) = false := beq_eq_false_iff_ne.mpr c19
                      have c19b1 : ((Int.tmod (ji13) 6) != 0) = true := bne_iff_ne.mpr c19
                      obtain rfl := Option.some.inj H
                      go_wp2_with (first | ((with_reducible refine gate_callee (f := 12) rfl ?_); refine goesL_ (some 20) rfl rfl Try.func12 (by kernel_rfl) rfl #[.slice A0 l0.length c0] rfl (by (try simp only [List.map_toArray, List.map_cons, List.map_nil]); first | done | rfl | (simp only [List.length_drop, List.length_take]; rfl)) ?_; (with_reducible refine (prefs_Put.calls kj2 _ _ l0 t163 true _ ?side1 ?side2 A10.out).mono ?_); (case side1 => repeat (first | exact (Kd.C_below HR0.out HB.out) | (with_reducible refine Kd.C_alloc ?_ _) | (with_reducible refine Kd.C_drewN ?_ _) | (with_reducible refine Kd.C_drew ?_))); (case side2 => exact HC0.out); rintro e w33 ⟨rfl, hb⟩; refine ⟨_, rfl, ?_⟩; have n0_ := Aside0.mk (below_step (by repeat (first | (with_reducible first | exact HB.out | apply below_alloc | apply pw_below_drewN | apply below_drew1) | exact HB.out)) hb); clear HB; have HB := n0_; clear n0_; (try clear hb); (try clear hb2); (try clear hk); (try clear hi)) | ((with_reducible refine gate_callee (f := 14) rfl ?_); refine goesL_ (some 44) rfl rfl Try.func14 (by kernel_rfl) rfl #[.string (t163.extract 0 ((ji13) : Int).toNat)] rfl (by (try simp only [List.map_toArray, List.map_cons, List.map_nil]); first | done | (simp only [hji13]; rfl) | rfl | (simp only [List.length_drop, List.length_take]; rfl)) ?_; (with_reducible refine (prefs_Get.calls kj2 (t163.extract 0 ((ji13) : Int).toNat) t165 true _ A16.out).mono ?_); rintro e w34 ⟨v167, rfl, ho0, hb⟩; refine ⟨_, rfl, ?_⟩; have n0_ := Aside0.mk (Kd.R_lower ho0 (below_size (by repeat (first | (with_reducible first | exact HB.out | apply below_alloc | apply pw_below_drewN | apply below_drew1) | exact HB.out)))); have n1_ := Aside0.mk (below_step (by repeat (first | (with_reducible first | exact HB.out | apply below_alloc | apply pw_below_drewN | apply below_drew1) | exact HB.out)) hb); clear HB; have HO168 := n0_; have HB := n1_; clear n0_ n1_; (try clear hb); (try clear hb2); (try clear hk); (try clear hi); (try clear ho0)))
                      go_ret
                      exact ⟨by first | rfl | (simp [errW_none, errW_some] <;> rfl) | (simp only [← hji13]; first | rfl | (simp [errW_none, errW_some] <;> rfl)) | (simp [*, errW_none, errW_some] <;> rfl), by repeat (first | (with_reducible first | exact HB.out | apply below_alloc | apply pw_below_drewN | apply below_drew1) | exact HB.out)⟩
                  · replace c18 := Bool.eq_false_iff.mpr c18
                    subst c18
                    have H1 : (if (Int.tmod (ji13) 6) = 0 then (some false) else (some ((t165.length : Int) == 0))) = some r := by rw [if_neg (show ¬ (false = true) by decide)] at H; exact H
                    clear H
                    have H := H1
                    clear H1
                    by_cases c35 : (Int.tmod (ji13) 6) = 0
                    · rw [if_pos c35] at H
                      have c35b0 : ((Int.tmod (ji13) 6) == 0) = true := beq_iff_eq.mpr c35
                      have c35b1 : ((Int.tmod (ji13) 6) != 0) = false := bne_eq_false_iff_eq.mpr c35
                      clear c35
                      obtain rfl := Option.some.inj H
                      go_wp2_with (first | ((with_reducible refine gate_callee (f := 12) rfl ?_); refine goesL_ (some 20) rfl rfl Try.func12 (by kernel_rfl) rfl #[.slice A0 l0.length c0] rfl (by (try simp only [List.map_toArray, List.map_cons, List.map_nil]); first | done | rfl | (simp only [List.length_drop, List.length_take]; rfl)) ?_; (with_reducible refine (prefs_Put.calls kj2 _ _ l0 t163 true _ ?side1 ?side2 A10.out).mono ?_); (case side1 => repeat (first | exact (Kd.C_below HR0.out HB.out) | (with_reducible refine Kd.C_alloc ?_ _) | (with_reducible refine Kd.C_drewN ?_ _) | (with_reducible refine Kd.C_drew ?_))); (case side2 => exact HC0.out); rintro e w36 ⟨rfl, hb⟩; refine ⟨_, rfl, ?_⟩; have n0_ := Aside0.mk (below_step (by repeat (first | (with_reducible first | exact HB.out | apply below_alloc | apply pw_below_drewN | apply below_drew1) | exact HB.out)) hb); clear HB; have HB := n0_; clear n0_; (try clear hb); (try clear hb2); (try clear hk); (try clear hi)) | ((with_reducible refine gate_callee (f := 14) rfl ?_); refine goesL_ (some 44) rfl rfl Try.func14 (by kernel_rfl) rfl #[.string (t163.extract 0 ((ji13) : Int).toNat)] rfl (by (try simp only [List.map_toArray, List.map_cons, List.map_nil]); first | done | (simp only [hji13]; rfl) | rfl | (simp only [List.length_drop, List.length_take]; rfl)) ?_; (with_reducible refine (prefs_Get.calls kj2 (t163.extract 0 ((ji13) : Int).toNat) t165 false _ A16.out).mono ?_); rintro e w37 ⟨v167, rfl, ho0, hb⟩; refine ⟨_, rfl, ?_⟩; have n0_ := Aside0.mk (Kd.R_lower ho0 (below_size (by repeat (first | (with_reducible first | exact HB.out | apply below_alloc | apply pw_below_drewN | apply below_drew1) | exact HB.out)))); have n1_ := Aside0.mk (below_step (by repeat (first | (with_reducible first | exact HB.out | apply below_alloc | apply pw_below_drewN | apply below_drew1) | exact HB.out)) hb); clear HB; have HO168 := n0_; have HB := n1_; clear n0_ n1_; (try clear hb); (try clear hb2); (try clear hk); (try clear hi); (try clear ho0)))
                      go_ret
                      exact ⟨by first | rfl | (simp [errW_none, errW_some] <;> rfl) | (simp only [← hji13]; first | rfl | (simp [errW_none, errW_some] <;> rfl)) | (simp [*, errW_none, errW_some] <;> rfl), by repeat (first | (with_reducible first | exact HB.out | apply below_alloc | apply pw_below_drewN | apply below_drew1) | exact HB.out)⟩
                    · rw [if_neg c35] at H
                      have c35b0 : ((Int.tmod (ji13) 6) == 0) = false := beq_eq_false_iff_ne.mpr c35
                      have c35b1 : ((Int.tmod (ji13) 6) != 0) = true := bne_iff_ne.mpr c35
                      obtain rfl := Option.some.inj H
                      go_wp2_with (first | ((with_reducible refine gate_callee (f := 12) rfl ?_); refine goesL_ (some 20) rfl rfl Try.func12 (by kernel_rfl) rfl #[.slice A0 l0.length c0] rfl (by (try simp only [List.map_toArray, List.map_cons, List.map_nil]); first | done | rfl | (simp only [List.length_drop, List.length_take]; rfl)) ?_; (with_reducible refine (prefs_Put.calls kj2 _ _ l0 t163 true _ ?side1 ?side2 A10.out).mono ?_); (case side1 => repeat (first | exact (Kd.C_below HR0.out HB.out) | (with_reducible refine Kd.C_alloc ?_ _) | (with_reducible refine Kd.C_drewN ?_ _) | (with_reducible refine Kd.C_drew ?_))); (case side2 => exact HC0.out); rintro e w38 ⟨rfl, hb⟩; refine ⟨_, rfl, ?_⟩; have n0_ := Aside0.mk (below_step (by repeat (first | (with_reducible first | exact HB.out | apply below_alloc | apply pw_below_drewN | apply below_drew1) | exact HB.out)) hb); clear HB; have HB := n0_; clear n0_; (try clear hb); (try clear hb2); (try clear hk); (try clear hi)) | ((with_reducible refine gate_callee (f := 14) rfl ?_); refine goesL_ (some 44) rfl rfl Try.func14 (by kernel_rfl) rfl #[.string (t163.extract 0 ((ji13) : Int).toNat)] rfl (by (try simp only [List.map_toArray, List.map_cons, List.map_nil]); first | done | (simp only [hji13]; rfl) | rfl | (simp only [List.length_drop, List.length_take]; rfl)) ?_; (with_reducible refine (prefs_Get.calls kj2 (t163.extract 0 ((ji13) : Int).toNat) t165 false _ A16.out).mono ?_); rintro e w39 ⟨v167, rfl, ho0, hb⟩; refine ⟨_, rfl, ?_⟩; have n0_ := Aside0.mk (Kd.R_lower ho0 (below_size (by repeat (first | (with_reducible first | exact HB.out | apply below_alloc | apply pw_below_drewN | apply below_drew1) | exact HB.out)))); have n1_ := Aside0.mk (below_step (by repeat (first | (with_reducible first | exact HB.out | apply below_alloc | apply pw_below_drewN | apply below_drew1) | exact HB.out)) hb); clear HB; have HO168 := n0_; have HB := n1_; clear n0_ n1_; (try clear hb); (try clear hb2); (try clear hk); (try clear hi); (try clear ho0); obtain ⟨Ao40, co40, eo40⟩ := Kd.R_slice HO168.out; subst eo40))
                      go_ret
                      exact ⟨by first | rfl | (simp [errW_none, errW_some] <;> rfl) | (simp only [← hji13]; first | rfl | (simp [errW_none, errW_some] <;> rfl)) | (simp [*, errW_none, errW_some] <;> rfl), by repeat (first | (with_reducible first | exact HB.out | apply below_alloc | apply pw_below_drewN | apply below_drew1) | exact HB.out)⟩
                · rw [if_neg c17] at H
                  have c17b0 : ((t163.size : Int) == (wrap64 (6 * (l0.length : Int)))) = false := beq_eq_false_iff_ne.mpr c17
                  have c17b1 : ((t163.size : Int) != (wrap64 (6 * (l0.length : Int)))) = true := bne_iff_ne.mpr c17
                  obtain rfl := Option.some.inj H
                  go_wp2_with (first | ((with_reducible refine gate_callee (f := 12) rfl ?_); refine goesL_ (some 20) rfl rfl Try.func12 (by kernel_rfl) rfl #[.slice A0 l0.length c0] rfl (by (try simp only [List.map_toArray, List.map_cons, List.map_nil]); first | done | rfl | (simp only [List.length_drop, List.length_take]; rfl)) ?_; (with_reducible refine (prefs_Put.calls kj2 _ _ l0 t163 true _ ?side1 ?side2 A10.out).mono ?_); (case side1 => repeat (first | exact (Kd.C_below HR0.out HB.out) | (with_reducible refine Kd.C_alloc ?_ _) | (with_reducible refine Kd.C_drewN ?_ _) | (with_reducible refine Kd.C_drew ?_))); (case side2 => exact HC0.out); rintro e w41 ⟨rfl, hb⟩; refine ⟨_, rfl, ?_⟩; have n0_ := Aside0.mk (below_step (by repeat (first | (with_reducible first | exact HB.out | apply below_alloc | apply pw_below_drewN | apply below_drew1) | exact HB.out)) hb); clear HB; have HB := n0_; clear n0_; (try clear hb); (try clear hb2); (try clear hk); (try clear hi)) | ((with_reducible refine gate_callee (f := 14) rfl ?_); refine goesL_ (some 44) rfl rfl Try.func14 (by kernel_rfl) rfl #[.string (t163.extract 0 ((ji13) : Int).toNat)] rfl (by (try simp only [List.map_toArray, List.map_cons, List.map_nil]); first | done | (simp only [hji13]; rfl) | rfl | (simp only [List.length_drop, List.length_take]; rfl)) ?_; (with_reducible refine (prefs_Get.calls kj2 (t163.extract 0 ((ji13) : Int).toNat) t165 t166 _ A16.out).mono ?_); rintro e w42 ⟨v167, rfl, ho0, hb⟩; refine ⟨_, rfl, ?_⟩; have n0_ := Aside0.mk (Kd.R_lower ho0 (below_size (by repeat (first | (with_reducible first | exact HB.out | apply below_alloc | apply pw_below_drewN | apply below_drew1) | exact HB.out)))); have n1_ := Aside0.mk (below_step (by repeat (first | (with_reducible first | exact HB.out | apply below_alloc | apply pw_below_drewN | apply below_drew1) | exact HB.out)) hb); clear HB; have HO168 := n0_; have HB := n1_; clear n0_ n1_; (try clear hb); (try clear hb2); (try clear hk); (try clear hi); (try clear ho0)))
                  go_ret
                  exact ⟨by first | rfl | (simp [errW_none, errW_some] <;> rfl) | (simp only [← hji13]; first | rfl | (simp [errW_none, errW_some] <;> rfl)) | (simp [*, errW_none, errW_some] <;> rfl), by repeat (first | (with_reducible first | exact HB.out | apply below_alloc | apply pw_below_drewN | apply below_drew1) | exact HB.out)⟩
              · rw [if_neg c15] at H
                exact absurd H (by simp)
            · rw [if_neg c14] at H
              exact absurd H (by simp)
        · replace c11 := Bool.eq_false_iff.mpr c11
          subst c11
          have H1 : (some (t163.toList == ([] : List UInt8))) = some r := by rw [if_neg (show ¬ (false = true) by decide)] at H; exact H
          clear H
          have H := H1
          clear H1
          obtain rfl := Option.some.inj H
          go_wp2_with (first | ((with_reducible refine gate_callee (f := 12) rfl ?_); refine goesL_ (some 20) rfl rfl Try.func12 (by kernel_rfl) rfl #[.slice A0 l0.length c0] rfl (by (try simp only [List.map_toArray, List.map_cons, List.map_nil]); first | done | rfl | (simp only [List.length_drop, List.length_take]; rfl)) ?_; (with_reducible refine (prefs_Put.calls kj2 _ _ l0 t163 false _ ?side1 ?side2 A10.out).mono ?_); (case side1 => repeat (first | exact (Kd.C_below HR0.out HB.out) | (with_reducible refine Kd.C_alloc ?_ _) | (with_reducible refine Kd.C_drewN ?_ _) | (with_reducible refine Kd.C_drew ?_))); (case side2 => exact HC0.out); rintro e w43 ⟨rfl, hb⟩; refine ⟨_, rfl, ?_⟩; have n0_ := Aside0.mk (below_step (by repeat (first | (with_reducible first | exact HB.out | apply below_alloc | apply pw_below_drewN | apply below_drew1) | exact HB.out)) hb); clear HB; have HB := n0_; clear n0_; (try clear hb); (try clear hb2); (try clear hk); (try clear hi)))
          go_ret
          exact ⟨by first | rfl | (simp [errW_none, errW_some] <;> rfl) | (simp [*, errW_none, errW_some] <;> rfl), by repeat (first | (with_reducible first | exact HB.out | apply below_alloc | apply pw_below_drewN | apply below_drew1) | exact HB.out)⟩

end Go.Proofs.Ytblllpbodnjmoaa.PPrefsCuts
