-- Written by a program of this session (the kit's printer, turned): the functions that the law reaches.
import Derived.Test.YtfeihaoppahmnaaPPrefsTellsx0
import Derived.Test.YtfeihaoppahmnaaPPrefsTellsx1
import Derived.Test.YtfeihaoppahmnaaPPrefsTellsx6
namespace Go.Proofs.Ytfeihaoppahmnaa.PPrefsTells
open Go.RowKit Go.Proofs.YtfeihaoppahmnaaW.PrintWords Go.Proofs.YtfeihaoppahmnaaW.PrintLast Go.Proofs.YtfeihaoppahmnaaW.PrintMore
attribute [local go_sem] max2_int min2_int max_two min_two max_three min_three max_four min_four   -- for this text's walks alone
set_option linter.unusedVariables false
set_option linter.unusedSimpArgs false

attribute [local go_sem high] eqA48
/-! ### bywashref1_PrefsGet: function 9 -/
def bywashref1_PrefsGet.l0 : Nat → ByteArray → List (S48) → Int → Option ((List (S48)) × Bool)
  | 0, _, _, _ => none
  | k + 1, x0, x4, x5 => if x5 < (x0.size : Int) then (if 0 ≤ x5 then (if x5 ≤ (wrap64 (x5 + 2)) then (if (wrap64 (x5 + 2)) ≤ (x0.size : Int) then ((bywashref1_Of.f k (x0.extract (x5 : Int).toNat ((wrap64 (x5 + 2)) : Int).toNat)).bind fun t183 => (if 0 ≤ (wrap64 (x5 + 2)) then (if (wrap64 (x5 + 2)) ≤ (wrap64 (x5 + 6)) then (if (wrap64 (x5 + 6)) ≤ (x0.size : Int) then ((bywashref1_Of.f k (x0.extract ((wrap64 (x5 + 2)) : Int).toNat ((wrap64 (x5 + 6)) : Int).toNat)).bind fun t184 => (if x4.length < 8796093022208 then (bywashref1_PrefsGet.l0 k x0 (x4 ++ [(⟨t183, t184⟩ : S48)]) (wrap64 (x5 + 6))) else (none))) else (none)) else (none)) else (none))) else (none)) else (none)) else (none)) else (some (x4, true))
def bywashref1_PrefsGet.f (k : Nat) (a0 : ByteArray) : Option ((List (S48)) × Bool) := if ((a0.size : Int) % 6) = 0 then (bywashref1_PrefsGet.l0 k a0 ([] : List (S48)) 0) else (some (([] : List (S48)), false))
theorem bywashref1_PrefsGet.mono_l : ∀ k, (∀ y0 y1 y2, LeO (bywashref1_PrefsGet.l0 k y0 y1 y2) (bywashref1_PrefsGet.l0 (k + 1) y0 y1 y2))
  | 0 => fun _ _ _ r h => by simp [bywashref1_PrefsGet.l0] at h
  | k + 1 => by
    have ih0 := bywashref1_PrefsGet.mono_l k
    · intro y0 y1 y2
      unfold bywashref1_PrefsGet.l0
      repeat' first
      | (with_reducible exact ih0 _ _ _)
      | (with_reducible exact bywashref1_Of.mono _ _)
      | (with_reducible exact LeO.refl _)
      | (with_reducible exact LeO.none _)
      | (with_reducible refine LeO.ite ?_ ?_)
      | (with_reducible refine LeO.bind ?_ (fun _ => ?_))
      | exact ih0 _ _ _
      | exact bywashref1_Of.mono _ _
      | exact LeO.none _
      | refine LeO.ite ?_ ?_
      | refine LeO.bind ?_ (fun _ => ?_)
theorem bywashref1_PrefsGet.mono : ∀ a0 k, LeO (bywashref1_PrefsGet.f k a0) (bywashref1_PrefsGet.f (k + 1) a0) := by
  intro a0 k
  have ih0 := bywashref1_PrefsGet.mono_l k
  unfold bywashref1_PrefsGet.f
  repeat' first
      | (with_reducible exact ih0 _ _ _)
      | (with_reducible exact bywashref1_Of.mono _ _)
      | (with_reducible exact LeO.refl _)
      | (with_reducible exact LeO.none _)
      | (with_reducible refine LeO.ite ?_ ?_)
      | (with_reducible refine LeO.bind ?_ (fun _ => ?_))
      | exact ih0 _ _ _
      | exact bywashref1_Of.mono _ _
      | exact LeO.none _
      | refine LeO.ite ?_ ?_
      | refine LeO.bind ?_ (fun _ => ?_)
def bywashref1_PrefsGet.T7 : Bool × List (List Nat × List Nat) := (true, [([], []), ([], []), ([], []), ([], []), ([3], [3]), ([1, 2, 4], [1, 2, 4]), ([5], [5]), ([], []), ([], []), ([8], [8]), ([], []), ([10], [10]), ([7, 9, 11], [7, 9, 11]), ([12, 6], [12]), ([6, 13], [6, 13]), ([14], [14]), ([0, 15, 13], [0, 15]), ([16, 16, 0, 1, 2, 3, 4, 5, 6, 7, 8, 9, 10, 11, 12, 13, 14, 15, 16], [0, 16])])
def bywashref1_PrefsGet.B7 : List Nat := [0, 0, 0, 0, 8, 30, 62, 0, 0, 256, 0, 1024, 3968, 8190, 16382, 32766, 65535, 131071]
theorem bywashref1_PrefsGet.tab7 : rtab .any (opsOf Try.f9 7) = bywashref1_PrefsGet.T7 := by kernel_rfl
theorem bywashref1_PrefsGet.bits7 : waitsOk bywashref1_PrefsGet.T7.2 bywashref1_PrefsGet.B7 = true := by kernel_rfl
set_option maxHeartbeats 8000000 in
set_option maxRecDepth 100000 in
theorem bywashref1_PrefsGet.calls (k : Nat) (a0 : ByteArray) (r1 : List (S48)) (r2 : Bool) (w : World) (h : bywashref1_PrefsGet.f k a0 = some (r1, r2)) :
    Calls Try.prog 9 #[.string a0] w fun e w' => ∃ v0_ : Value, e = .returned (.tuple #[v0_, .bool r2]) ∧ Kd.R k48 48 w' w.heap.size (fun _ => True) v0_ r1 ∧ Below w.heap.size w w' := by
  have hu48 := Try.underlying48
  have HB := Aside0.mk (Below.refl w.heap.size w)
  have H : (if ((a0.size : Int) % 6) = 0 then (bywashref1_PrefsGet.l0 k a0 ([] : List (S48)) 0) else (some (([] : List (S48)), false))) = some (r1, r2) := h
  clear h
  by_cases c2 : ((a0.size : Int) % 6) = 0
  · rw [if_pos c2] at H
    have c2b0 : (((a0.size : Int) % 6) == 0) = true := beq_iff_eq.mpr c2
    have c2b1 : (((a0.size : Int) % 6) != 0) = false := bne_eq_false_iff_eq.mpr c2
    clear c2
    have H' := Aside0.mk H
    clear H
    go_enter Try.func9, Try.ntmps9
    go_wp2
    go_loopg [4, 5] k (fun kq v4 v5 w' => ∃ (x4_1 : List (S48)) (x5_1 : Int), v5 = .int .i64 x5_1 ∧ Aside0 (bywashref1_PrefsGet.l0 kq a0 x4_1 x5_1 = some (r1, r2)) ∧ Aside0 (kq ≤ k) ∧ Aside0 (Kd.R k48 48 w' w.heap.size (fun _ => True) v4 x4_1) ∧ Aside0 (Below w.heap.size w w'))
    case atStart => exact ⟨(([] : List (S48))), (0), (by first | rfl | (simp; done) | (simp [*]; done)), H', ⟨Nat.le_refl _⟩, ⟨by first | exact Kd.R_nil _ _ _ _ _ | exact Kd.N_nil _ _ _ _ _ | exact Kd.V_nil _ _ _ _ _ | exact Kd.Q_nil _ _ _ _ _ | exact Kd.S_nil _ _ _ _ _⟩, ⟨by repeat (first | (with_reducible first | exact HB.out | apply below_alloc | apply pw_below_drewN | apply below_drew1) | exact HB.out)⟩⟩
    case round =>
      clear H'
      try clear c2
      try clear c2b0
      try clear c2b1
      try clear p2
      obtain ⟨x4_1, x5_1, rfl, HA, HK1, HO_4, HB⟩ := hrel
      cases gk with
      | zero => exact absurd HA.out (by simp [bywashref1_PrefsGet.l0])
      | succ k1 =>
        have H := HA.out
        clear HA
        simp only [bywashref1_PrefsGet.l0] at H
        by_cases c3 : x5_1 < (a0.size : Int)
        · rw [if_pos c3] at H
          have c3b0 : decide (x5_1 < (a0.size : Int)) = true := decide_eq_true c3
          clear c3
          by_cases c4 : 0 ≤ x5_1
          · rw [if_pos c4] at H
            have c4b0 := eq_true c4
            have c4b1 : decide (0 ≤ x5_1) = true := decide_eq_true c4
            clear c4
            by_cases c5 : x5_1 ≤ (wrap64 (x5_1 + 2))
            · rw [if_pos c5] at H
              have c5b0 := eq_true c5
              have c5b1 : decide (x5_1 ≤ (wrap64 (x5_1 + 2))) = true := decide_eq_true c5
              by_cases c6 : (wrap64 (x5_1 + 2)) ≤ (a0.size : Int)
              · rw [if_pos c6] at H
                have c6b0 := eq_true c6
                have c6b1 : decide ((wrap64 (x5_1 + 2)) ≤ (a0.size : Int)) = true := decide_eq_true c6
                replace H := Option.bind_eq_some_iff.mp H
                obtain ⟨t183, A70, H⟩ := H
                replace H : (if 0 ≤ (wrap64 (x5_1 + 2)) then (if (wrap64 (x5_1 + 2)) ≤ (wrap64 (x5_1 + 6)) then (if (wrap64 (x5_1 + 6)) ≤ (a0.size : Int) then ((bywashref1_Of.f k1 (a0.extract ((wrap64 (x5_1 + 2)) : Int).toNat ((wrap64 (x5_1 + 6)) : Int).toNat)).bind fun t184 => (if x4_1.length < 8796093022208 then (bywashref1_PrefsGet.l0 k1 a0 (x4_1 ++ [(⟨t183, t184⟩ : S48)]) (wrap64 (x5_1 + 6))) else (none))) else (none)) else (none)) else (none)) = some (r1, r2) := H
                have A7 := Aside0.mk A70
                clear A70
                obtain ⟨ji8, hji8⟩ : ∃ j_ : Int, (wrap64 (x5_1 + 2)) = j_ := ⟨_, rfl⟩
                replace H : (if 0 ≤ (ji8) then (if (ji8) ≤ (wrap64 (x5_1 + 6)) then (if (wrap64 (x5_1 + 6)) ≤ (a0.size : Int) then ((bywashref1_Of.f k1 (a0.extract ((ji8) : Int).toNat ((wrap64 (x5_1 + 6)) : Int).toNat)).bind fun t184 => (if x4_1.length < 8796093022208 then (bywashref1_PrefsGet.l0 k1 a0 (x4_1 ++ [(⟨t183, t184⟩ : S48)]) (wrap64 (x5_1 + 6))) else (none))) else (none)) else (none)) else (none)) = some (r1, r2) := by first | (rw [hji8] at H; exact H) | (simp only [hji8] at H ⊢; exact H)
                (try rw [hji8] at c5b0)
                (try rw [hji8] at c5b1)
                (try rw [hji8] at c5)
                (try rw [hji8] at c6b0)
                (try rw [hji8] at c6b1)
                (try rw [hji8] at c6)
                (try rw [hji8] at A7)
                have hji8w : (IntKind.i64.wrap (x5_1 + 2)) = ji8 := (i64_w _).trans hji8
                by_cases c9 : 0 ≤ (ji8)
                · rw [if_pos c9] at H
                  have c9b0 := eq_true c9
                  have c9b1 : decide (0 ≤ (ji8)) = true := decide_eq_true c9
                  clear c9
                  by_cases c10 : (ji8) ≤ (wrap64 (x5_1 + 6))
                  · rw [if_pos c10] at H
                    have c10b0 := eq_true c10
                    have c10b1 : decide ((ji8) ≤ (wrap64 (x5_1 + 6))) = true := decide_eq_true c10
                    by_cases c11 : (wrap64 (x5_1 + 6)) ≤ (a0.size : Int)
                    · rw [if_pos c11] at H
                      have c11b0 := eq_true c11
                      have c11b1 : decide ((wrap64 (x5_1 + 6)) ≤ (a0.size : Int)) = true := decide_eq_true c11
                      replace H := Option.bind_eq_some_iff.mp H
                      obtain ⟨t184, A120, H⟩ := H
                      replace H : (if x4_1.length < 8796093022208 then (bywashref1_PrefsGet.l0 k1 a0 (x4_1 ++ [(⟨t183, t184⟩ : S48)]) (wrap64 (x5_1 + 6))) else (none)) = some (r1, r2) := H
                      have A12 := Aside0.mk A120
                      clear A120
                      by_cases c13 : x4_1.length < 8796093022208
                      · rw [if_pos c13] at H
                        have LMc13 := Aside0.mk c13
                        clear c13
                        obtain ⟨y185, hy185⟩ : ∃ y_ : List (S48), y_ = (x4_1 ++ [(⟨t183, t184⟩ : S48)]) := ⟨_, rfl⟩
                        replace H : (bywashref1_PrefsGet.l0 k1 a0 y185 (wrap64 (x5_1 + 6))) = some (r1, r2) := by first | (rw [hy185]; with_reducible exact H) | (have H2_ := (Option.bind_some _ _).symm.trans H; rw [hy185]; with_reducible exact H2_) | (have H2_ := (Option.bind_some _ _).symm.trans H; with_reducible exact H2_) | with_reducible exact H | (rw [hy185]; exact H) | exact H
                        have Ny185 := Aside0.mk hy185
                        clear hy185
                        have H' := Aside0.mk H
                        clear H
                        try go_wp2
                        have n0_ := Aside0.mk (Kd.R_drew HO_4.out)
                        have n1_ := Aside0.mk (below_drew1 HB.out)
                        clear HO_4
                        clear HB
                        have HO_4 := n0_
                        have HB := n1_
                        clear n0_ n1_
                        refine start_ (n := 18) (S := fun w' => True) (ds := []) #[false, false, false, false, false, false, false, false, false, false, false, false, false, false, false, false, false, false] (by kernel_rfl) rfl rfl trivial (fun hHeld => ?_); refine with_tabW bywashref1_PrefsGet.tab7 bywashref1_PrefsGet.bits7 (fun HT_ HW_ => ?_)
                        generalize wr.drew = w14 at HO_4 HB hHeld ⊢
                        refine pure_ (i := 0) (N := some 16) (v := ?_) (a' := ?_) #[true, false, false, false, false, false, false, false, false, false, false, false, false, false, false, false, false, false] rfl rfl (any_of HT_.out (by kernel_rfl)) (fun _ _ _ h => h) (Or.inl ⟨by rfl, ?_⟩) ?_ ?_
                        rotate_left
                        · intro w'
                          go_simp
                          with_reducible rfl
                        rotate_left
                        · simp only [Act.put, List.setIfInBounds_toArray, List.set_cons_zero, List.set_cons_succ, i64_w, i32_w]
                          rfl
                        refine pure_ (i := 1) (N := some 17) (v := ?_) (a' := ?_) #[true, true, false, false, false, false, false, false, false, false, false, false, false, false, false, false, false, false] rfl rfl (any_of HT_.out (by kernel_rfl)) (fun _ _ _ h => h) (Or.inl ⟨by rfl, ?_⟩) ?_ ?_
                        rotate_left
                        · intro w'
                          go_simp
                          with_reducible rfl
                        rotate_left
                        · simp only [Act.put, List.setIfInBounds_toArray, List.set_cons_zero, List.set_cons_succ, i64_w, i32_w]
                          rfl
                        refine pure_ (i := 2) (N := some 18) (v := ?_) (a' := ?_) #[true, true, true, false, false, false, false, false, false, false, false, false, false, false, false, false, false, false] rfl rfl (any_of HT_.out (by kernel_rfl)) (fun _ _ _ h => h) (Or.inl ⟨by rfl, ?_⟩) ?_ ?_
                        rotate_left
                        · intro w'
                          go_simp
                          with_reducible rfl
                        rotate_left
                        · simp only [Act.put, List.setIfInBounds_toArray, List.set_cons_zero, List.set_cons_succ, i64_w, i32_w]
                          rfl
                        refine pure_ (i := 3) (N := some 19) (v := ?_) (a' := ?_) #[true, true, true, true, false, false, false, false, false, false, false, false, false, false, false, false, false, false] rfl rfl (any_of HT_.out (by kernel_rfl)) (fun _ _ _ h => h) (Or.inl ⟨by rfl, ?_⟩) ?_ ?_
                        rotate_left
                        · intro w'
                          go_simp
                          with_reducible rfl
                        rotate_left
                        · simp only [Act.put, List.setIfInBounds_toArray, List.set_cons_zero, List.set_cons_succ, i64_w, i32_w]
                          rfl
                        refine pure_ (i := 4) (N := some 20) (v := ?_) (a' := ?_) #[true, true, true, true, true, false, false, false, false, false, false, false, false, false, false, false, false, false] rfl rfl (any_of HT_.out (by kernel_rfl)) (fun _ _ _ h => h) (Or.inl ⟨by rfl, ?_⟩) ?_ ?_
                        rotate_left
                        · intro w'
                          go_simp
                          with_reducible rfl
                        rotate_left
                        · simp only [Act.put, List.setIfInBounds_toArray, List.set_cons_zero, List.set_cons_succ, i64_w, i32_w]
                          rfl
                        refine pure_ (i := 5) (N := some 21) (v := ?_) (a' := ?_) #[true, true, true, true, true, true, false, false, false, false, false, false, false, false, false, false, false, false] rfl rfl (any_of HT_.out (by kernel_rfl)) (fun _ _ _ h => h) (Or.inl ⟨by rfl, ?_⟩) ?_ ?_
                        rotate_left
                        · intro w'
                          go_simp
                          with_reducible rfl
                        rotate_left
                        · simp only [Act.put, List.setIfInBounds_toArray, List.set_cons_zero, List.set_cons_succ, i64_w, i32_w]
                          rfl
                        refine pure_ (i := 7) (N := some 23) (v := ?_) (a' := ?_) #[true, true, true, true, true, true, false, true, false, false, false, false, false, false, false, false, false, false] rfl rfl (any_of HT_.out (by kernel_rfl)) (fun _ _ _ h => h) (Or.inl ⟨by rfl, ?_⟩) ?_ ?_
                        rotate_left
                        · intro w'
                          go_simp
                          with_reducible rfl
                        rotate_left
                        · simp only [Act.put, List.setIfInBounds_toArray, List.set_cons_zero, List.set_cons_succ, i64_w, i32_w]
                          rfl
                        refine pure_ (i := 8) (N := some 24) (v := ?_) (a' := ?_) #[true, true, true, true, true, true, false, true, true, false, false, false, false, false, false, false, false, false] rfl rfl (any_of HT_.out (by kernel_rfl)) (fun _ _ _ h => h) (Or.inl ⟨by rfl, ?_⟩) ?_ ?_
                        rotate_left
                        · intro w'
                          go_simp
                          with_reducible rfl
                        rotate_left
                        · simp only [Act.put, List.setIfInBounds_toArray, List.set_cons_zero, List.set_cons_succ, i64_w, i32_w]
                          rfl
                        refine pure_ (i := 9) (N := some 25) (v := ?_) (a' := ?_) #[true, true, true, true, true, true, false, true, true, true, false, false, false, false, false, false, false, false] rfl rfl (any_of HT_.out (by kernel_rfl)) (fun _ _ _ h => h) (Or.inl ⟨by rfl, ?_⟩) ?_ ?_
                        rotate_left
                        · intro w'
                          go_simp
                          with_reducible rfl
                        rotate_left
                        · simp only [Act.put, List.setIfInBounds_toArray, List.set_cons_zero, List.set_cons_succ, i64_w, i32_w]
                          rfl
                        refine pure_ (i := 10) (N := some 26) (v := ?_) (a' := ?_) #[true, true, true, true, true, true, false, true, true, true, true, false, false, false, false, false, false, false] rfl rfl (any_of HT_.out (by kernel_rfl)) (fun _ _ _ h => h) (Or.inl ⟨by rfl, ?_⟩) ?_ ?_
                        rotate_left
                        · intro w'
                          go_simp
                          with_reducible rfl
                        rotate_left
                        · simp only [Act.put, List.setIfInBounds_toArray, List.set_cons_zero, List.set_cons_succ, i64_w, i32_w]
                          rfl
                        refine pure_ (i := 11) (N := some 27) (v := ?_) (a' := ?_) #[true, true, true, true, true, true, false, true, true, true, true, true, false, false, false, false, false, false] rfl rfl (any_of HT_.out (by kernel_rfl)) (fun _ _ _ h => h) (Or.inl ⟨by rfl, ?_⟩) ?_ ?_
                        rotate_left
                        · intro w'
                          go_simp
                          with_reducible rfl
                        rotate_left
                        · simp only [Act.put, List.setIfInBounds_toArray, List.set_cons_zero, List.set_cons_succ, i64_w, i32_w]
                          rfl
                        refine pure_ (i := 12) (N := some 28) (v := ?_) (a' := ?_) #[true, true, true, true, true, true, false, true, true, true, true, true, true, false, false, false, false, false] rfl rfl (any_of HT_.out (by kernel_rfl)) (fun _ _ _ h => h) (Or.inl ⟨by rfl, ?_⟩) ?_ ?_
                        rotate_left
                        · intro w'
                          go_simp
                          with_reducible rfl
                        rotate_left
                        · simp only [Act.put, List.setIfInBounds_toArray, List.set_cons_zero, List.set_cons_succ, i64_w, i32_w]
                          rfl
                        refine one_ (i := 6) (N := some 22) #[true, true, true, true, true, true, true, true, true, true, true, true, true, false, false, false, false, false] rfl rfl (one_of HT_.out (by kernel_rfl)) (by decide) (fun K hK => ?_)
                        refine goes_ Try.func23 (by kernel_rfl) rfl #[.string (a0.extract (x5_1 : Int).toNat ((ji8) : Int).toNat)] (by rfl) rfl rfl (by (try simp only [List.map_toArray, List.map_cons, List.map_nil]); first | done | (simp only [hji8]; rfl) | rfl | (simp only [List.length_drop, List.length_take]; rfl)) ?_
                        with_reducible refine (bywashref1_Of.calls k1 (a0.extract (x5_1 : Int).toNat ((ji8) : Int).toNat) t183 _ A7.out).mono ?_
                        rintro e w' ⟨rfl, ⟨nd, rfl⟩⟩
                        refine ⟨_, rfl, ?_⟩
                        refine hK.out _ _ trivial (fun hHeld => ?_)
                        clear hK K
                        refine norm_ (a' := ?_) ?_ ?_
                        rotate_left
                        · show Act.put _ (some 22) _ = _
                          simp only [Act.put, List.setIfInBounds_toArray, List.set_cons_zero, List.set_cons_succ, i64_w, i32_w]
                          rfl
                        refine one_ (i := 13) (N := some 29) #[true, true, true, true, true, true, true, true, true, true, true, true, true, true, false, false, false, false] rfl rfl (one_of HT_.out (by kernel_rfl)) (by decide) (fun K hK => ?_)
                        refine goes_ Try.func23 (by kernel_rfl) rfl #[.string (a0.extract ((ji8) : Int).toNat ((wrap64 (x5_1 + 6)) : Int).toNat)] (by rfl) rfl rfl (by (try simp only [List.map_toArray, List.map_cons, List.map_nil]); first | done | (simp only [hji8]; rfl) | rfl | (simp only [List.length_drop, List.length_take]; rfl)) ?_
                        with_reducible refine (bywashref1_Of.calls k1 (a0.extract ((ji8) : Int).toNat ((wrap64 (x5_1 + 6)) : Int).toNat) t184 _ A12.out).mono ?_
                        rintro e w' ⟨rfl, ⟨nd, rfl⟩⟩
                        refine ⟨_, rfl, ?_⟩
                        refine hK.out _ _ trivial (fun hHeld => ?_)
                        clear hK K
                        refine norm_ (a' := ?_) ?_ ?_
                        rotate_left
                        · show Act.put _ (some 29) _ = _
                          simp only [Act.put, List.setIfInBounds_toArray, List.set_cons_zero, List.set_cons_succ, i64_w, i32_w]
                          rfl
                        refine pure_ (i := 14) (N := some 30) (v := ?_) (a' := ?_) #[true, true, true, true, true, true, true, true, true, true, true, true, true, true, true, false, false, false] rfl rfl (any_of HT_.out (by kernel_rfl)) (fun _ _ _ h => h) (Or.inl ⟨by rfl, ?_⟩) ?_ ?_
                        rotate_left
                        · intro w'
                          go_simp
                          with_reducible rfl
                        rotate_left
                        · simp only [Act.put, List.setIfInBounds_toArray, List.set_cons_zero, List.set_cons_succ, i64_w, i32_w]
                          rfl
                        refine one_ (i := 15) (N := some 31) #[true, true, true, true, true, true, true, true, true, true, true, true, true, true, true, true, false, false] rfl rfl (one_of HT_.out (by kernel_rfl)) (by decide) (fun K hK => ?_)
                        refine value_ (w1 := ?_) (v := ?_) (by rfl) rfl ?_ ?_
                        rotate_left 2
                        · go_simp
                          constructor
                          · rfl
                          · rfl
                        refine hK.out _ _ trivial (fun hHeld => ?_)
                        clear hK K
                        refine norm_ (a' := ?_) ?_ ?_
                        rotate_left
                        · show Act.put _ (some 31) _ = _
                          simp only [Act.put, List.setIfInBounds_toArray, List.set_cons_zero, List.set_cons_succ, i64_w, i32_w]
                          rfl
                        refine one_ (i := 16) (N := some 32) #[true, true, true, true, true, true, true, true, true, true, true, true, true, true, true, true, true, false] rfl rfl (one_of HT_.out (by kernel_rfl)) (by decide) (fun K hK => ?_)
                        refine Kd.R_append_step k48 (w0 := w) w.heap.size (by rfl) (.tmp 16) (.tmp 31) 22 48 (.agg #[(.int .i64 0), (.int .i64 0)]) 16 rfl Try.underlying22 info48 rfl (by decide) (by omega) u4 x4_1 (⟨t183, t184⟩ : S48) [.int .i64 t183, .int .i64 t184] (fun _ => True) (fun _ => False) rfl rfl ?aP (fun _ hk => hk.elim) ?aF ?aO ?aB ?aS ?aL ?_
                        (case aP => exact k48_mkM _ _ _ (⟨t183, t184⟩ : S48))
                        (case aB => exact (by repeat (first | (with_reducible first | exact HB.out | apply below_alloc | apply pw_below_drewN | apply below_drew1) | exact HB.out)))
                        (case aF => exact (fun _ _ => trivial))
                        (case aO => exact (by (with_reducible repeat (first | apply Kd.R_alloc | apply Kd.R_drewN | apply Kd.R_drew)); exact HO_4.out))
                        (case aS => exact (below_size (by repeat (first | (with_reducible first | exact HB.out | apply below_alloc | apply pw_below_drewN | apply below_drew1) | exact HB.out))))
                        (case aL => have := LMc13.out; omega)
                        intro v186 w15 ho hb hg hat
                        rw [← Ny185.out] at ho
                        have n0_ := Aside0.mk (hb)
                        have n1_ := Aside0.mk (ho)
                        clear HB
                        clear HO_4
                        have HB := n0_
                        have HO187 := n1_
                        clear n0_ n1_
                        clear ho hb hg hat
                        refine hK.out _ _ trivial (fun hHeld => ?_)
                        clear hK K
                        refine norm_ (a' := ?_) ?_ ?_
                        rotate_left
                        · show Act.put _ (some 32) _ = _
                          simp only [Act.put, List.setIfInBounds_toArray, List.set_cons_zero, List.set_cons_succ, i64_w, i32_w]
                          rfl
                        refine pure_ (i := 17) (N := some 4) (v := ?_) (a' := ?_) #[true, true, true, true, true, true, true, true, true, true, true, true, true, true, true, true, true, true] rfl rfl (any_of HT_.out (by kernel_rfl)) (fun _ _ _ h => h) (Or.inl ⟨by rfl, ?_⟩) ?_ ?_
                        rotate_left
                        · intro w'
                          go_simp
                          with_reducible rfl
                        rotate_left
                        · simp only [Act.put, List.setIfInBounds_toArray, List.set_cons_zero, List.set_cons_succ, i64_w, i32_w]
                          rfl
                        refine done_ (done_of HT_.out (by kernel_rfl)) ?_
                        try go_wp2
                        go_roundg k1
                        case measure => have := HK1.out; omega
                        case rel => exact ⟨(y185), (wrap64 (x5_1 + 6)), (by first | rfl | (simp; done) | (simp [*]; done)), H', ⟨by have := HK1.out; omega⟩, ⟨by (with_reducible repeat (first | apply Kd.R_alloc | apply Kd.R_drewN | apply Kd.R_drew)); exact HO187.out⟩, ⟨by repeat (first | (with_reducible first | exact HB.out | apply below_alloc | apply pw_below_drewN | apply below_drew1) | exact HB.out)⟩⟩
                      · rw [if_neg c13] at H
                        exact absurd H (by simp)
                    · rw [if_neg c11] at H
                      exact absurd H (by simp)
                  · rw [if_neg c10] at H
                    exact absurd H (by simp)
                · rw [if_neg c9] at H
                  exact absurd H (by simp)
              · rw [if_neg c6] at H
                exact absurd H (by simp)
            · rw [if_neg c5] at H
              exact absurd H (by simp)
          · rw [if_neg c4] at H
            exact absurd H (by simp)
        · rw [if_neg c3] at H
          have c3b0 : decide (x5_1 < (a0.size : Int)) = false := decide_eq_false c3
          clear c3
          simp only [Option.some.injEq, Prod.mk.injEq] at H
          obtain ⟨rfl, rfl⟩ := H
          go_wp2
          go_ret2
          exact ⟨_, by first | rfl | (simp [errW_none, errW_some] <;> rfl) | (simp [*, errW_none, errW_some] <;> rfl), by (with_reducible repeat (first | apply Kd.R_alloc | apply Kd.R_drewN | apply Kd.R_drew)); exact HO_4.out, by repeat (first | (with_reducible first | exact HB.out | apply below_alloc | apply pw_below_drewN | apply below_drew1) | exact HB.out)⟩
  · rw [if_neg c2] at H
    have c2b0 : (((a0.size : Int) % 6) == 0) = false := beq_eq_false_iff_ne.mpr c2
    have c2b1 : (((a0.size : Int) % 6) != 0) = true := bne_iff_ne.mpr c2
    simp only [Option.some.injEq, Prod.mk.injEq] at H
    obtain ⟨rfl, rfl⟩ := H
    go_enter Try.func9, Try.ntmps9
    go_wp2
    go_ret2
    exact ⟨_, by first | rfl | (simp [errW_none, errW_some] <;> rfl) | (simp [*, errW_none, errW_some] <;> rfl), by first | exact Kd.R_nil _ _ _ _ _ | exact Kd.N_nil _ _ _ _ _ | exact Kd.V_nil _ _ _ _ _ | exact Kd.Q_nil _ _ _ _ _ | exact Kd.S_nil _ _ _ _ _, by repeat (first | (with_reducible first | exact HB.out | apply below_alloc | apply pw_below_drewN | apply below_drew1) | exact HB.out)⟩

/-! ### bywashref1_Mine: function 11 -/
def bywashref1_Mine.f (k : Nat) (a0 : Int) : Option (ByteArray × Bool) := if a0 < 1 then (some ((⟨#[]⟩ : ByteArray), false)) else (if a0 > 65535 then (some ((⟨#[]⟩ : ByteArray), false)) else ((bywashref1_PrefsPut.f k (([(⟨2, 0⟩ : S48), (⟨4, a0⟩ : S48), (⟨6, 600⟩ : S48)] : List (S48)))).bind fun bt191 => (some (bt191.1, bt191.2))))
theorem bywashref1_Mine.mono : ∀ a0 k, LeO (bywashref1_Mine.f k a0) (bywashref1_Mine.f (k + 1) a0) := by
  intro a0 k
  unfold bywashref1_Mine.f
  repeat' first
      | (with_reducible exact bywashref1_PrefsPut.mono _ _)
      | (with_reducible exact LeO.refl _)
      | (with_reducible exact LeO.none _)
      | (with_reducible refine LeO.ite ?_ ?_)
      | (with_reducible refine LeO.bind ?_ (fun _ => ?_))
      | exact bywashref1_PrefsPut.mono _ _
      | exact LeO.none _
      | refine LeO.ite ?_ ?_
      | refine LeO.bind ?_ (fun _ => ?_)
set_option maxHeartbeats 8000000 in
set_option maxRecDepth 100000 in
theorem bywashref1_Mine.calls (k : Nat) (a0 : Int) (r1 : ByteArray) (r2 : Bool) (w : World) (h : bywashref1_Mine.f k a0 = some (r1, r2)) :
    Calls Try.prog 11 #[.int .i64 a0] w fun e w' => e = .returned (.tuple #[.string r1, .bool r2]) ∧ Below w.heap.size w w' := by
  have hu48 := Try.underlying48
  have HB := Aside0.mk (Below.refl w.heap.size w)
  have H : (if a0 < 1 then (some ((⟨#[]⟩ : ByteArray), false)) else (if a0 > 65535 then (some ((⟨#[]⟩ : ByteArray), false)) else ((bywashref1_PrefsPut.f k (([(⟨2, 0⟩ : S48), (⟨4, a0⟩ : S48), (⟨6, 600⟩ : S48)] : List (S48)))).bind fun bt191 => (some (bt191.1, bt191.2))))) = some (r1, r2) := h
  clear h
  by_cases c2 : a0 < 1
  · rw [if_pos c2] at H
    have c2b0 : decide (a0 < 1) = true := decide_eq_true c2
    clear c2
    simp only [Option.some.injEq, Prod.mk.injEq] at H
    obtain ⟨rfl, rfl⟩ := H
    go_enter Try.func11, Try.ntmps11
    go_wp2
    go_ret2
    exact ⟨by first | rfl | (simp [errW_none, errW_some] <;> rfl) | (simp [*, errW_none, errW_some] <;> rfl), by repeat (first | (with_reducible first | exact HB.out | apply below_alloc | apply pw_below_drewN | apply below_drew1) | exact HB.out)⟩
  · rw [if_neg c2] at H
    have c2b0 : decide (a0 < 1) = false := decide_eq_false c2
    clear c2
    by_cases c3 : a0 > 65535
    · rw [if_pos c3] at H
      have c3b0 : decide (65535 < a0) = true := decide_eq_true c3
      clear c3
      simp only [Option.some.injEq, Prod.mk.injEq] at H
      obtain ⟨rfl, rfl⟩ := H
      go_enter Try.func11, Try.ntmps11
      go_wp2
      go_ret2
      exact ⟨by first | rfl | (simp [errW_none, errW_some] <;> rfl) | (simp [*, errW_none, errW_some] <;> rfl), by repeat (first | (with_reducible first | exact HB.out | apply below_alloc | apply pw_below_drewN | apply below_drew1) | exact HB.out)⟩
    · rw [if_neg c3] at H
      have c3b0 : decide (65535 < a0) = false := decide_eq_false c3
      clear c3
      obtain ⟨y188, hy188⟩ : ∃ y_ : List (S48), y_ = (([(⟨2, 0⟩ : S48), (⟨4, a0⟩ : S48), (⟨6, 600⟩ : S48)] : List (S48))) := ⟨_, rfl⟩
      replace H : ((bywashref1_PrefsPut.f k y188).bind fun bt191 => (some (bt191.1, bt191.2))) = some (r1, r2) := by first | (rw [hy188]; with_reducible exact H) | (have H2_ := (Option.bind_some _ _).symm.trans H; rw [hy188]; with_reducible exact H2_) | (have H2_ := (Option.bind_some _ _).symm.trans H; with_reducible exact H2_) | with_reducible exact H | (rw [hy188]; exact H) | exact H
      have Ny188 := Aside0.mk hy188
      clear hy188
      replace H := Option.bind_eq_some_iff.mp H
      obtain ⟨⟨t191, t192⟩, A40, H⟩ := H
      replace H : (some (t191, t192)) = some (r1, r2) := H
      have A4 := Aside0.mk A40
      clear A40
      simp only [Option.some.injEq, Prod.mk.injEq] at H
      obtain ⟨rfl, rfl⟩ := H
      go_enter Try.func11, Try.ntmps11
      go_wp2_with (first | ((with_reducible refine gate_dst (N := 14) rfl ?_); refine Kd.R_lit k48 _ 48 ?hg (N := 14) ?hd (xs := ([(⟨2, 0⟩ : S48), (⟨4, a0⟩ : S48), (⟨6, 600⟩ : S48)] : List (S48))) (inner := [.int .i64 2, .int .i64 0, .int .i64 4, .int .i64 a0, .int .i64 6, .int .i64 600]) (ok := fun _ => True) (okp := fun _ => True) ?hr ?hp (fun _ hk => hk) trivial (Below.refl _ _) (Nat.le_refl _) (by simp) ?_; (case hd => rfl); (case hg => rfl); (case hr => first | (go_simp; done) | (go_simp; rfl)); (case hp => exact (Reps.c2 (show Kd.M k48 _ _ _ (⟨2, 0⟩ : S48) [.int .i64 2, .int .i64 0] from (k48_mkM _ _ _ (⟨2, 0⟩ : S48) )) (Reps.c2 (show Kd.M k48 _ _ _ (⟨4, a0⟩ : S48) [.int .i64 4, .int .i64 a0] from (k48_mkM _ _ _ (⟨4, a0⟩ : S48) )) (Reps.c2 (show Kd.M k48 _ _ _ (⟨6, 600⟩ : S48) [.int .i64 6, .int .i64 600] from (k48_mkM _ _ _ (⟨6, 600⟩ : S48) )) (Reps.none _ _))))); intro v189 w5 ho6 hb hg_ hnew_; clear hg_ hnew_; (first | rw [← Ny188.out] at ho6 | (simp only [Int.reduceToNat] at ho6; rw [← Ny188.out] at ho6)); have n0_ := Aside0.mk (Kd.R_lower ho6 (below_size (by repeat (first | (with_reducible first | exact HB.out | apply below_alloc | apply pw_below_drewN | apply below_drew1) | exact HB.out)))); have n1_ := Aside0.mk (below_step (by repeat (first | (with_reducible first | exact HB.out | apply below_alloc | apply pw_below_drewN | apply below_drew1) | exact HB.out)) hb); clear HB; have HO190 := n0_; have HB := n1_; clear n0_ n1_; clear hb ho6; obtain ⟨Ao7, co7, eo7⟩ := Kd.R_slice HO190.out; subst eo7) | ((with_reducible refine gate_callee (f := 7) rfl ?_); refine goesL_ (some 15) rfl rfl Try.func7 (by kernel_rfl) rfl #[.slice Ao7 y188.length co7] rfl (by (try simp only [List.map_toArray, List.map_cons, List.map_nil]); first | done | rfl | (simp only [List.length_drop, List.length_take]; rfl)) ?_; (with_reducible refine (bywashref1_PrefsPut.calls k _ _ y188 t191 t192 _ ?side1 ?side2 A4.out).mono ?_); (case side1 => repeat (first | exact (Kd.R_reads' HO190.out).2.2 | (with_reducible refine Kd.C_alloc ?_ _) | (with_reducible refine Kd.C_drewN ?_ _) | (with_reducible refine Kd.C_drew ?_))); (case side2 => exact (Kd.R_reads' HO190.out).2.1); rintro e w8 ⟨rfl, hb⟩; refine ⟨_, rfl, ?_⟩; have n0_ := Aside0.mk (Kd.R_below (by (with_reducible repeat (first | apply Kd.R_alloc | apply Kd.R_drewN | apply Kd.R_drew)); exact HO190.out) hb); have n1_ := Aside0.mk (below_step (by repeat (first | (with_reducible first | exact HB.out | apply below_alloc | apply pw_below_drewN | apply below_drew1) | exact HB.out)) hb); clear HO190; clear HB; have HO190 := n0_; have HB := n1_; clear n0_ n1_; (try clear hb); (try clear hb2); (try clear hk); (try clear hi)))
      go_ret2
      exact ⟨by first | rfl | (simp [errW_none, errW_some] <;> rfl) | (simp [*, errW_none, errW_some] <;> rfl), by repeat (first | (with_reducible first | exact HB.out | apply below_alloc | apply pw_below_drewN | apply below_drew1) | exact HB.out)⟩

-- NOT PRINTED: function 12 (bywashbook_Book_Prefs)

/-! ### bywashbook_SamePrefs: function 13 -/
def bywashbook_SamePrefs.l0 : Nat → List (S48) → List (S48) → Int → Option (Bool)
  | 0, _, _, _ => none
  | k + 1, x0, x1, x5 => if x5 < (x0.length : Int) then (if 0 ≤ x5 then (if x5 < (x1.length : Int) then (if ((((rd_T48 x0 x5).f0) == ((rd_T48 x1 x5).f0) && (((rd_T48 x0 x5).f1) == ((rd_T48 x1 x5).f1))) = true) then (bywashbook_SamePrefs.l0 k x0 x1 (wrap64 (x5 + 1))) else (some false)) else (none)) else (none)) else (some true)
def bywashbook_SamePrefs.f (k : Nat) (l0 : List (S48)) (l1 : List (S48)) : Option (Bool) := if (l0.length : Int) = (l1.length : Int) then (bywashbook_SamePrefs.l0 k l0 l1 0) else (some false)
theorem bywashbook_SamePrefs.mono_l : ∀ k, (∀ y0 y1 y2, LeO (bywashbook_SamePrefs.l0 k y0 y1 y2) (bywashbook_SamePrefs.l0 (k + 1) y0 y1 y2))
  | 0 => fun _ _ _ r h => by simp [bywashbook_SamePrefs.l0] at h
  | k + 1 => by
    have ih0 := bywashbook_SamePrefs.mono_l k
    · intro y0 y1 y2
      unfold bywashbook_SamePrefs.l0
      repeat' first
      | (with_reducible exact ih0 _ _ _)
      | (with_reducible exact LeO.refl _)
      | (with_reducible exact LeO.none _)
      | (with_reducible refine LeO.ite ?_ ?_)
      | (with_reducible refine LeO.bind ?_ (fun _ => ?_))
      | exact ih0 _ _ _
      | exact LeO.none _
      | refine LeO.ite ?_ ?_
      | refine LeO.bind ?_ (fun _ => ?_)
theorem bywashbook_SamePrefs.mono : ∀ a0 a1 k, LeO (bywashbook_SamePrefs.f k a0 a1) (bywashbook_SamePrefs.f (k + 1) a0 a1) := by
  intro a0 a1 k
  have ih0 := bywashbook_SamePrefs.mono_l k
  unfold bywashbook_SamePrefs.f
  repeat' first
      | (with_reducible exact ih0 _ _ _)
      | (with_reducible exact LeO.refl _)
      | (with_reducible exact LeO.none _)
      | (with_reducible refine LeO.ite ?_ ?_)
      | (with_reducible refine LeO.bind ?_ (fun _ => ?_))
      | exact ih0 _ _ _
      | exact LeO.none _
      | refine LeO.ite ?_ ?_
      | refine LeO.bind ?_ (fun _ => ?_)
set_option maxHeartbeats 8000000 in
set_option maxRecDepth 100000 in
theorem bywashbook_SamePrefs.calls (k : Nat) (A0 : Option Addr) (c0 : Nat) (l0 : List (S48)) (A1 : Option Addr) (c1 : Nat) (l1 : List (S48)) (r : Bool) (w : World) (hr0 : Kd.C k48 w A0 l0.length l0) (hc0 : l0.length ≤ c0) (hr1 : Kd.C k48 w A1 l1.length l1) (hc1 : l1.length ≤ c1) (h : bywashbook_SamePrefs.f k l0 l1 = some r) :
    Calls Try.prog 13 #[.slice A0 l0.length c0, .slice A1 l1.length c1] w fun e w' => e = .returned (.bool r) ∧ Drawn0 w w' := by
  have hu48 := Try.underlying48
  have HR0 := Aside0.mk hr0
  have HC0 := Aside0.mk hc0
  clear hr0 hc0
  have HR1 := Aside0.mk hr1
  have HC1 := Aside0.mk hc1
  clear hr1 hc1
  have H : (if (l0.length : Int) = (l1.length : Int) then (bywashbook_SamePrefs.l0 k l0 l1 0) else (some false)) = some r := h
  clear h
  by_cases c3 : (l0.length : Int) = (l1.length : Int)
  · rw [if_pos c3] at H
    have c3b0 : ((l0.length : Int) == (l1.length : Int)) = true := beq_iff_eq.mpr c3
    have c3b1 : ((l0.length : Int) != (l1.length : Int)) = false := bne_eq_false_iff_eq.mpr c3
    have c3b2 : (l0.length == l1.length) = true := by first | simpa using c3 | (simp at c3 ⊢; omega)
    clear c3
    have H' := Aside0.mk H
    clear H
    go_enter Try.func13, Try.ntmps13
    go_wp2
    repeat (go_quiet (fail); try go_wp2)
    go_loopg [5] k (fun kq v5 w' => ∃ (x5_1 : Int), v5 = .int .i64 x5_1 ∧ Aside0 (bywashbook_SamePrefs.l0 kq l0 l1 x5_1 = some r) ∧ Aside0 (kq ≤ k) ∧ Drawn0 w w')
    case atStart => exact ⟨(0), (by first | rfl | (simp; done) | (simp [*]; done)), H', ⟨Nat.le_refl _⟩, by repeat (first | exact Drawn0.refl _ | apply Drawn0.step)⟩
    case round =>
      clear H'
      try clear c1
      try clear p2
      try clear c3
      try clear c3b0
      try clear c3b1
      try clear c3b2
      obtain ⟨x5_1, rfl, HA, HK1, ⟨m1, rfl⟩⟩ := hrel
      cases gk with
      | zero => exact absurd HA.out (by simp [bywashbook_SamePrefs.l0])
      | succ k1 =>
        have H := HA.out
        clear HA
        simp only [bywashbook_SamePrefs.l0] at H
        by_cases c4 : x5_1 < (l0.length : Int)
        · rw [if_pos c4] at H
          have c4b0 : decide (x5_1 < (l0.length : Int)) = true := decide_eq_true c4
          clear c4
          by_cases c5 : 0 ≤ x5_1
          · rw [if_pos c5] at H
            have c5b0 : decide (0 ≤ x5_1) = true := decide_eq_true c5
            clear c5
            by_cases c6 : x5_1 < (l1.length : Int)
            · rw [if_pos c6] at H
              have c6b0 : decide (x5_1 < (l1.length : Int)) = true := decide_eq_true c6
              clear c6
              by_cases c7 : ((((rd_T48 l0 x5_1).f0) == ((rd_T48 l1 x5_1).f0) && (((rd_T48 l0 x5_1).f1) == ((rd_T48 l1 x5_1).f1))) = true)
              · rw [if_pos c7] at H
                have c7b0 : (((rd_T48 l0 x5_1).f0) == ((rd_T48 l1 x5_1).f0) && (((rd_T48 l0 x5_1).f1) == ((rd_T48 l1 x5_1).f1))) = true := c7
                (try (have c7b1 : decide (((rd_T48 l0 x5_1).f0) = ((rd_T48 l1 x5_1).f0) && (((rd_T48 l0 x5_1).f1) == ((rd_T48 l1 x5_1).f1))) = true := by simpa using c7))
                (try (have c7b2 : (((rd_T48 l0 x5_1).f0) == ((rd_T48 l1 x5_1).f0) && (((rd_T48 l0 x5_1).f1) == ((rd_T48 l1 x5_1).f1))) = true := by simpa using c7))
                clear c7
                have H' := Aside0.mk H
                clear H
                have p193 : 0 ≤ (x5_1 : Int) := of_decide_eq_true (by first | (with_reducible assumption) | assumption)
                have q193 : x5_1 < (l0.length : Int) := of_decide_eq_true (by first | (with_reducible assumption) | assumption)
                obtain ⟨ad193, e193, hx193_0, hx193_1⟩ := at_T48 HR0.out x5_1 p193 q193
                cases e193
                replace p193 := eq_true p193
                replace q193 := eq_true q193
                have p194 : 0 ≤ (x5_1 : Int) := of_decide_eq_true (by first | (with_reducible assumption) | assumption)
                have q194 : x5_1 < (l1.length : Int) := of_decide_eq_true (by first | (with_reducible assumption) | assumption)
                obtain ⟨ad194, e194, hx194_0, hx194_1⟩ := at_T48 HR1.out x5_1 p194 q194
                cases e194
                replace p194 := eq_true p194
                replace q194 := eq_true q194
                go_wp2
                repeat (go_quiet (fail); try go_wp2)
                go_roundg k1
                case measure => have := HK1.out; omega
                case rel => exact ⟨(wrap64 (x5_1 + 1)), (by first | rfl | (simp; done) | (simp [*]; done)), H', ⟨by have := HK1.out; omega⟩, by repeat (first | exact Drawn0.refl _ | apply Drawn0.step)⟩
              · rw [if_neg c7] at H
                have c7b0 : (((rd_T48 l0 x5_1).f0) == ((rd_T48 l1 x5_1).f0) && (((rd_T48 l0 x5_1).f1) == ((rd_T48 l1 x5_1).f1))) = false := by simpa using c7
                (try (have c7b1 : decide (((rd_T48 l0 x5_1).f0) = ((rd_T48 l1 x5_1).f0) && (((rd_T48 l0 x5_1).f1) == ((rd_T48 l1 x5_1).f1))) = false := by simpa using c7))
                (try (have c7b2 : (((rd_T48 l0 x5_1).f0) == ((rd_T48 l1 x5_1).f0) && (((rd_T48 l0 x5_1).f1) == ((rd_T48 l1 x5_1).f1))) = false := by simpa using c7))
                (try (have c7b3 : ¬ (((rd_T48 l0 x5_1).f0) = ((rd_T48 l1 x5_1).f0) && (((rd_T48 l0 x5_1).f1) == ((rd_T48 l1 x5_1).f1))) := by simpa using c7))
                clear c7
                obtain rfl := Option.some.inj H
                have p193 : 0 ≤ (x5_1 : Int) := of_decide_eq_true (by first | (with_reducible assumption) | assumption)
                have q193 : x5_1 < (l0.length : Int) := of_decide_eq_true (by first | (with_reducible assumption) | assumption)
                obtain ⟨ad193, e193, hx193_0, hx193_1⟩ := at_T48 HR0.out x5_1 p193 q193
                cases e193
                replace p193 := eq_true p193
                replace q193 := eq_true q193
                have p194 : 0 ≤ (x5_1 : Int) := of_decide_eq_true (by first | (with_reducible assumption) | assumption)
                have q194 : x5_1 < (l1.length : Int) := of_decide_eq_true (by first | (with_reducible assumption) | assumption)
                obtain ⟨ad194, e194, hx194_0, hx194_1⟩ := at_T48 HR1.out x5_1 p194 q194
                cases e194
                replace p194 := eq_true p194
                replace q194 := eq_true q194
                go_wp2
                repeat (go_quiet (fail); try go_wp2)
                go_ret
                exact ⟨by first | rfl | (simp; done) | (simp [*]; done), by repeat (first | exact Drawn0.refl _ | apply Drawn0.step)⟩
            · rw [if_neg c6] at H
              exact absurd H (by simp)
          · rw [if_neg c5] at H
            exact absurd H (by simp)
        · rw [if_neg c4] at H
          have c4b0 : decide (x5_1 < (l0.length : Int)) = false := decide_eq_false c4
          clear c4
          obtain rfl := Option.some.inj H
          go_wp2
          repeat (go_quiet (fail); try go_wp2)
          go_ret
          exact ⟨by first | rfl | (simp; done) | (simp [*]; done), by repeat (first | exact Drawn0.refl _ | apply Drawn0.step)⟩
  · rw [if_neg c3] at H
    have c3b0 : ((l0.length : Int) == (l1.length : Int)) = false := beq_eq_false_iff_ne.mpr c3
    have c3b1 : ((l0.length : Int) != (l1.length : Int)) = true := bne_iff_ne.mpr c3
    have c3b2 : (l0.length == l1.length) = false := by first | simpa using c3 | (simp at c3 ⊢; omega)
    obtain rfl := Option.some.inj H
    go_enter Try.func13, Try.ntmps13
    go_wp2
    repeat (go_quiet (fail); try go_wp2)
    go_ret
    exact ⟨by first | rfl | (simp; done) | (simp [*]; done), by repeat (first | exact Drawn0.refl _ | apply Drawn0.step)⟩

/-! ### bywashlaw10_Ref: function 14 -/
def bywashlaw10_Ref.f (a0_0 : Int) (a0_1 : Int) (a0_2 : Int) (a0_3 : Int) (a0_4 : Int) : Option (Int × Int × Int × Int × Int) := some (a0_0, a0_1, a0_2, a0_3, a0_4)
set_option maxHeartbeats 8000000 in
set_option maxRecDepth 100000 in
theorem bywashlaw10_Ref.calls (a0_0 : Int) (a0_1 : Int) (a0_2 : Int) (a0_3 : Int) (a0_4 : Int) (r1 : Int) (r2 : Int) (r3 : Int) (r4 : Int) (r5 : Int) (w : World) (h : bywashlaw10_Ref.f a0_0 a0_1 a0_2 a0_3 a0_4 = some (r1, r2, r3, r4, r5)) :
    Calls Try.prog 14 #[.agg #[.int .i64 a0_0, .int .i64 a0_1, .int .i64 a0_2, .int .i64 a0_3, .int .i64 a0_4]] w fun e w' => e = .returned (.agg #[.int .i64 r1, .int .i64 r2, .int .i64 r3, .int .i64 r4, .int .i64 r5]) ∧ Below w.heap.size w w' := by
  have hu44 := Try.underlying44
  have hu42 := Try.underlying42
  have HB := Aside0.mk (Below.refl w.heap.size w)
  have H : (some (a0_0, a0_1, a0_2, a0_3, a0_4)) = some (r1, r2, r3, r4, r5) := h
  clear h
  simp only [Option.some.injEq, Prod.mk.injEq] at H
  obtain ⟨rfl, rfl, rfl, rfl, rfl⟩ := H
  go_enter Try.func14, Try.ntmps14
  go_wp2_with (first | ((with_reducible refine gate_dst (N := 1) rfl ?_); refine box_event ?hg (N := 1) ?hd (cs := #[.int .i64 a0_0, .int .i64 a0_1, .int .i64 a0_2, .int .i64 a0_3, .int .i64 a0_4]) (t := 44) ?hr ?_; (case hd => rfl); (case hg => rfl); (case hr => first | (go_simp; done) | (go_simp; rfl)); intro gb195 hg w2 hbox hb; have n0_ := Aside0.mk (below_step (by repeat (first | (with_reducible first | exact HB.out | apply below_alloc | apply pw_below_drewN | apply below_drew1) | exact HB.out)) hb); have n1_ := Aside0.mk (hbox); have n2_ := Aside0.mk ((by rw [hg]; exact (below_size (by repeat (first | (with_reducible first | exact HB.out | apply below_alloc | apply pw_below_drewN | apply below_drew1) | exact HB.out))) : w.heap.size ≤ gb195)); have n3_ := Aside0.mk ((by rw [hg]; exact (below_size (by repeat (first | (with_reducible first | exact HB.out | apply below_alloc | apply pw_below_drewN | apply below_drew1) | exact HB.out))) : w.heap.size ≤ gb195)); clear HB; have HB := n0_; have BK195 := n1_; have GW195 := n2_; have GE195 := n3_; clear n0_ n1_ n2_ n3_; clear hb hbox hg) | ((with_reducible refine gate_dst (N := 2) rfl ?_); refine box_event ?hg (N := 2) ?hd (cs := #[.int .i64 0, .int .i64 0, .int .i64 0, .int .i64 0, .int .i64 0]) (t := 42) ?hr ?_; (case hd => rfl); (case hg => rfl); (case hr => first | (go_simp; done) | (go_simp; rfl)); intro gb196 hg w3 hbox hb; have n0_ := Aside0.mk (blk_below (g := gb195) (o := .cells #[.int .i64 a0_0, .int .i64 a0_1, .int .i64 a0_2, .int .i64 a0_3, .int .i64 a0_4] 44 (0, 0)) (by (with_reducible repeat (first | refine blk_drewN ?_ _ | refine blk_drew ?_ | refine blk_alloc ?_ _)); exact BK195.out) hb); have n1_ := Aside0.mk (below_step (by repeat (first | (with_reducible first | exact HB.out | apply below_alloc | apply pw_below_drewN | apply below_drew1 | refine below_set ?_ GE195.out) | exact HB.out)) hb); have n2_ := Aside0.mk (hbox); have n3_ := Aside0.mk ((by rw [hg]; exact (below_size (by repeat (first | (with_reducible first | exact HB.out | apply below_alloc | apply pw_below_drewN | apply below_drew1 | refine below_set ?_ GE195.out) | exact HB.out))) : w.heap.size ≤ gb196)); have n4_ := Aside0.mk ((by rw [hg]; exact (below_size (by repeat (first | (with_reducible first | exact HB.out | apply below_alloc | apply pw_below_drewN | apply below_drew1 | refine below_set ?_ GE195.out) | exact HB.out))) : w.heap.size ≤ gb196)); have n5_ := Aside0.mk ((by rw [hg]; exact Nat.ne_of_lt (blk_lt (g := gb195) (o := .cells #[.int .i64 a0_0, .int .i64 a0_1, .int .i64 a0_2, .int .i64 a0_3, .int .i64 a0_4] 44 (0, 0)) (by (with_reducible repeat (first | refine blk_drewN ?_ _ | refine blk_drew ?_ | refine blk_alloc ?_ _)); exact BK195.out)) : gb195 ≠ gb196)); have n6_ := Aside0.mk ((by rw [hg]; exact Nat.ne_of_gt (blk_lt (g := gb195) (o := .cells #[.int .i64 a0_0, .int .i64 a0_1, .int .i64 a0_2, .int .i64 a0_3, .int .i64 a0_4] 44 (0, 0)) (by (with_reducible repeat (first | refine blk_drewN ?_ _ | refine blk_drew ?_ | refine blk_alloc ?_ _)); exact BK195.out)) : gb196 ≠ gb195)); clear BK195; clear HB; have BK195 := n0_; have HB := n1_; have BK196 := n2_; have GW196 := n3_; have GE196 := n4_; have NB195_196 := n5_; have NB196_195 := n6_; clear n0_ n1_ n2_ n3_ n4_ n5_ n6_; clear hb hbox hg; have hnb4 := NB195_196.out; have hnc4 := NB196_195.out; have hcz5_0 : w3.cell? ⟨gb195, 0, none⟩ = some (.int .i64 a0_0) := (blk_cell BK195.out 0).trans rfl; have hcz5_1 : w3.cell? ⟨gb195, 1, none⟩ = some (.int .i64 a0_1) := (blk_cell BK195.out 1).trans rfl; have hcz5_2 : w3.cell? ⟨gb195, 2, none⟩ = some (.int .i64 a0_2) := (blk_cell BK195.out 2).trans rfl; have hcz5_3 : w3.cell? ⟨gb195, 3, none⟩ = some (.int .i64 a0_3) := (blk_cell BK195.out 3).trans rfl; have hcz5_4 : w3.cell? ⟨gb195, 4, none⟩ = some (.int .i64 a0_4) := (blk_cell BK195.out 4).trans rfl; have hfz5_0 := blk_frozen BK195.out 0; have hfz5_1 := blk_frozen BK195.out 1; have hfz5_2 := blk_frozen BK195.out 2; have hfz5_3 := blk_frozen BK195.out 3; have hfz5_4 := blk_frozen BK195.out 4; have hcz6_0 : w3.cell? ⟨gb196, 0, none⟩ = some (.int .i64 0) := (blk_cell BK196.out 0).trans rfl; have hcz6_1 : w3.cell? ⟨gb196, 1, none⟩ = some (.int .i64 0) := (blk_cell BK196.out 1).trans rfl; have hcz6_2 : w3.cell? ⟨gb196, 2, none⟩ = some (.int .i64 0) := (blk_cell BK196.out 2).trans rfl; have hcz6_3 : w3.cell? ⟨gb196, 3, none⟩ = some (.int .i64 0) := (blk_cell BK196.out 3).trans rfl; have hcz6_4 : w3.cell? ⟨gb196, 4, none⟩ = some (.int .i64 0) := (blk_cell BK196.out 4).trans rfl; have hfz6_0 := blk_frozen BK196.out 0; have hfz6_1 := blk_frozen BK196.out 1; have hfz6_2 := blk_frozen BK196.out 2; have hfz6_3 := blk_frozen BK196.out 3; have hfz6_4 := blk_frozen BK196.out 4))
  refine bodyPost_ret (results_cell_row rfl _ _ gb196 42 #[.int .i64 a0_0, .int .i64 a0_1, .int .i64 a0_2, .int .i64 a0_3, .int .i64 a0_4] (0, 0) _ rfl (by (with_reducible repeat (first | refine blk_drewN ?_ _ | refine blk_drew ?_ | refine blk_alloc ?_ _)); refine blk_put (cs := #[.int .i64 a0_0, .int .i64 a0_1, .int .i64 a0_2, .int .i64 a0_3, .int .i64 0]) ?_ 4 _ rfl; (with_reducible repeat (first | refine blk_drewN ?_ _ | refine blk_drew ?_ | refine blk_alloc ?_ _)); refine blk_put (cs := #[.int .i64 a0_0, .int .i64 a0_1, .int .i64 a0_2, .int .i64 0, .int .i64 0]) ?_ 3 _ rfl; (with_reducible repeat (first | refine blk_drewN ?_ _ | refine blk_drew ?_ | refine blk_alloc ?_ _)); refine blk_put (cs := #[.int .i64 a0_0, .int .i64 a0_1, .int .i64 0, .int .i64 0, .int .i64 0]) ?_ 2 _ rfl; (with_reducible repeat (first | refine blk_drewN ?_ _ | refine blk_drew ?_ | refine blk_alloc ?_ _)); refine blk_put (cs := #[.int .i64 a0_0, .int .i64 0, .int .i64 0, .int .i64 0, .int .i64 0]) ?_ 1 _ rfl; (with_reducible repeat (first | refine blk_drewN ?_ _ | refine blk_drew ?_ | refine blk_alloc ?_ _)); refine blk_put (cs := #[.int .i64 0, .int .i64 0, .int .i64 0, .int .i64 0, .int .i64 0]) ?_ 0 _ rfl; (with_reducible repeat (first | refine blk_drewN ?_ _ | refine blk_drew ?_ | refine blk_alloc ?_ _)); exact BK196.out) Try.underlying42 rfl (by kernel_rfl)) rfl ?_
  exact ⟨by first | rfl | (simp [errW_none, errW_some] <;> rfl) | (simp [*, errW_none, errW_some] <;> rfl), by repeat (first | (with_reducible first | exact HB.out | apply below_alloc | apply pw_below_drewN | apply below_drew1 | refine below_set ?_ GE195.out | refine below_set ?_ GE196.out) | exact HB.out)⟩

/-! ### bywashref1_First: function 16 -/
def bywashref1_First.f  : Option (Int × Int × Int × Int × Int) := some (128, 6, 100, 64, 600)
set_option maxHeartbeats 8000000 in
set_option maxRecDepth 100000 in
theorem bywashref1_First.calls  (r1 : Int) (r2 : Int) (r3 : Int) (r4 : Int) (r5 : Int) (w : World) (h : bywashref1_First.f  = some (r1, r2, r3, r4, r5)) :
    Calls Try.prog 16 #[] w fun e w' => e = .returned (.agg #[.int .i64 r1, .int .i64 r2, .int .i64 r3, .int .i64 r4, .int .i64 r5]) ∧ Below w.heap.size w w' := by
  have hu42 := Try.underlying42
  have HB := Aside0.mk (Below.refl w.heap.size w)
  have H : (some (128, 6, 100, 64, 600)) = some (r1, r2, r3, r4, r5) := h
  clear h
  simp only [Option.some.injEq, Prod.mk.injEq] at H
  obtain ⟨rfl, rfl, rfl, rfl, rfl⟩ := H
  go_enter Try.func16, Try.ntmps16
  go_wp2_with (first | ((with_reducible refine gate_dst (N := 0) rfl ?_); refine box_event ?hg (N := 0) ?hd (cs := #[.int .i64 0, .int .i64 0, .int .i64 0, .int .i64 0, .int .i64 0]) (t := 42) ?hr ?_; (case hd => rfl); (case hg => rfl); (case hr => first | (go_simp; done) | (go_simp; rfl)); intro gb197 hg w1 hbox hb; have n0_ := Aside0.mk (below_step (by repeat (first | (with_reducible first | exact HB.out | apply below_alloc | apply pw_below_drewN | apply below_drew1) | exact HB.out)) hb); have n1_ := Aside0.mk (hbox); have n2_ := Aside0.mk ((by rw [hg]; exact (below_size (by repeat (first | (with_reducible first | exact HB.out | apply below_alloc | apply pw_below_drewN | apply below_drew1) | exact HB.out))) : w.heap.size ≤ gb197)); have n3_ := Aside0.mk ((by rw [hg]; exact (below_size (by repeat (first | (with_reducible first | exact HB.out | apply below_alloc | apply pw_below_drewN | apply below_drew1) | exact HB.out))) : w.heap.size ≤ gb197)); clear HB; have HB := n0_; have BK197 := n1_; have GW197 := n2_; have GE197 := n3_; clear n0_ n1_ n2_ n3_; clear hb hbox hg; have hcz2_0 : w1.cell? ⟨gb197, 0, none⟩ = some (.int .i64 0) := (blk_cell BK197.out 0).trans rfl; have hcz2_1 : w1.cell? ⟨gb197, 1, none⟩ = some (.int .i64 0) := (blk_cell BK197.out 1).trans rfl; have hcz2_2 : w1.cell? ⟨gb197, 2, none⟩ = some (.int .i64 0) := (blk_cell BK197.out 2).trans rfl; have hcz2_3 : w1.cell? ⟨gb197, 3, none⟩ = some (.int .i64 0) := (blk_cell BK197.out 3).trans rfl; have hcz2_4 : w1.cell? ⟨gb197, 4, none⟩ = some (.int .i64 0) := (blk_cell BK197.out 4).trans rfl; have hfz2_0 := blk_frozen BK197.out 0; have hfz2_1 := blk_frozen BK197.out 1; have hfz2_2 := blk_frozen BK197.out 2; have hfz2_3 := blk_frozen BK197.out 3; have hfz2_4 := blk_frozen BK197.out 4))
  refine bodyPost_ret (results_cell_row rfl _ _ gb197 42 #[.int .i64 128, .int .i64 6, .int .i64 100, .int .i64 64, .int .i64 600] (0, 0) _ rfl (by (with_reducible repeat (first | refine blk_drewN ?_ _ | refine blk_drew ?_ | refine blk_alloc ?_ _)); refine blk_put (cs := #[.int .i64 128, .int .i64 6, .int .i64 100, .int .i64 64, .int .i64 0]) ?_ 4 _ rfl; (with_reducible repeat (first | refine blk_drewN ?_ _ | refine blk_drew ?_ | refine blk_alloc ?_ _)); refine blk_put (cs := #[.int .i64 128, .int .i64 6, .int .i64 100, .int .i64 0, .int .i64 0]) ?_ 3 _ rfl; (with_reducible repeat (first | refine blk_drewN ?_ _ | refine blk_drew ?_ | refine blk_alloc ?_ _)); refine blk_put (cs := #[.int .i64 128, .int .i64 6, .int .i64 0, .int .i64 0, .int .i64 0]) ?_ 2 _ rfl; (with_reducible repeat (first | refine blk_drewN ?_ _ | refine blk_drew ?_ | refine blk_alloc ?_ _)); refine blk_put (cs := #[.int .i64 128, .int .i64 0, .int .i64 0, .int .i64 0, .int .i64 0]) ?_ 1 _ rfl; (with_reducible repeat (first | refine blk_drewN ?_ _ | refine blk_drew ?_ | refine blk_alloc ?_ _)); refine blk_put (cs := #[.int .i64 0, .int .i64 0, .int .i64 0, .int .i64 0, .int .i64 0]) ?_ 0 _ rfl; (with_reducible repeat (first | refine blk_drewN ?_ _ | refine blk_drew ?_ | refine blk_alloc ?_ _)); exact BK197.out) Try.underlying42 rfl (by kernel_rfl)) rfl ?_
  exact ⟨by first | rfl | (simp [errW_none, errW_some] <;> rfl) | (simp [*, errW_none, errW_some] <;> rfl), by repeat (first | (with_reducible first | exact HB.out | apply below_alloc | apply pw_below_drewN | apply below_drew1 | refine below_set ?_ GE197.out) | exact HB.out)⟩
end Go.Proofs.Ytfeihaoppahmnaa.PPrefsTells
