-- Written by a program of this session (the kit's printer, turned): the functions that the law reaches.
import Derived.Test.YtndchendimbfnaaPPumpTellsx0
import Derived.Test.YtndchendimbfnaaPPumpTellsx2
import Derived.Test.YtndchendimbfnaaPPumpTellsx3
namespace Go.Proofs.Ytndchendimbfnaa.PPumpTells
open Go.RowKit Go.Proofs.YtndchendimbfnaaW.PrintWords Go.Proofs.YtndchendimbfnaaW.PrintLast Go.Proofs.YtndchendimbfnaaW.PrintMore
attribute [local go_sem] max2_int min2_int max_two min_two max_three min_three max_four min_four   -- for this text's walks alone
set_option linter.unusedVariables false
set_option linter.unusedSimpArgs false

attribute [local go_sem high] eqA34
/-! ### bywashlaw16_alive: function 8 -/
def bywashlaw16_alive.f (k : Nat)  : Option (Bool) := (pump_Plan.f k 100 64 (([(⟨1, 100, 80, true⟩ : S26)] : List (S26)))).bind fun t119 => (if (t119.length : Int) = 2 then (if 0 < (t119.length : Int) then (if (((rd_T34 t119 0).f0) == 1 && (((rd_T34 t119 0).f1) == 64 && (!((rd_T34 t119 0).f2)))) = true then (if 1 < (t119.length : Int) then (if (((rd_T34 t119 1).f0) == 1 && (((rd_T34 t119 1).f1) == 16 && (((rd_T34 t119 1).f2)))) = true then ((pump_Sum.f k t119).bind fun t124 => (some (t124 == 80))) else (some false)) else (none)) else (some false)) else (none)) else (some false))
theorem bywashlaw16_alive.mono : ∀ k, LeO (bywashlaw16_alive.f k ) (bywashlaw16_alive.f (k + 1) ) := by
  intro  k
  unfold bywashlaw16_alive.f
  repeat' first
      | (with_reducible exact pump_Plan.mono _ _ _ _)
      | (with_reducible exact pump_Sum.mono _ _)
      | (with_reducible exact LeO.refl _)
      | (with_reducible exact LeO.none _)
      | (with_reducible refine LeO.ite ?_ ?_)
      | (with_reducible refine LeO.bind ?_ (fun _ => ?_))
      | exact pump_Plan.mono _ _ _ _
      | exact pump_Sum.mono _ _
      | exact LeO.none _
      | refine LeO.ite ?_ ?_
      | refine LeO.bind ?_ (fun _ => ?_)
set_option maxHeartbeats 8000000 in
set_option maxRecDepth 100000 in
theorem bywashlaw16_alive.calls (k : Nat)  (r : Bool) (w : World) (h : bywashlaw16_alive.f k  = some r) :
    Calls Try.prog 8 #[] w fun e w' => e = .returned (.bool r) ∧ Below w.heap.size w w' := by
  have hu26 := Try.underlying26
  have hu34 := Try.underlying34
  have HB := Aside0.mk (Below.refl w.heap.size w)
  have H : ((pump_Plan.f k 100 64 (([(⟨1, 100, 80, true⟩ : S26)] : List (S26)))).bind fun t119 => (if (t119.length : Int) = 2 then (if 0 < (t119.length : Int) then (if (((rd_T34 t119 0).f0) == 1 && (((rd_T34 t119 0).f1) == 64 && (!((rd_T34 t119 0).f2)))) = true then (if 1 < (t119.length : Int) then (if (((rd_T34 t119 1).f0) == 1 && (((rd_T34 t119 1).f1) == 16 && (((rd_T34 t119 1).f2)))) = true then ((pump_Sum.f k t119).bind fun t124 => (some (t124 == 80))) else (some false)) else (none)) else (some false)) else (none)) else (some false))) = some r := h
  clear h
  obtain ⟨y116, hy116⟩ : ∃ y_ : List (S26), y_ = (([(⟨1, 100, 80, true⟩ : S26)] : List (S26))) := ⟨_, rfl⟩
  replace H : ((pump_Plan.f k 100 64 y116).bind fun t119 => (if (t119.length : Int) = 2 then (if 0 < (t119.length : Int) then (if (((rd_T34 t119 0).f0) == 1 && (((rd_T34 t119 0).f1) == 64 && (!((rd_T34 t119 0).f2)))) = true then (if 1 < (t119.length : Int) then (if (((rd_T34 t119 1).f0) == 1 && (((rd_T34 t119 1).f1) == 16 && (((rd_T34 t119 1).f2)))) = true then ((pump_Sum.f k t119).bind fun t124 => (some (t124 == 80))) else (some false)) else (none)) else (some false)) else (none)) else (some false))) = some r := by first | (rw [hy116]; with_reducible exact H) | (have H2_ := (Option.bind_some _ _).symm.trans H; rw [hy116]; with_reducible exact H2_) | (have H2_ := (Option.bind_some _ _).symm.trans H; with_reducible exact H2_) | with_reducible exact H | (rw [hy116]; exact H) | exact H
  have Ny116 := Aside0.mk hy116
  clear hy116
  replace H := Option.bind_eq_some_iff.mp H
  obtain ⟨t119, A10, H⟩ := H
  replace H : (if (t119.length : Int) = 2 then (if 0 < (t119.length : Int) then (if (((rd_T34 t119 0).f0) == 1 && (((rd_T34 t119 0).f1) == 64 && (!((rd_T34 t119 0).f2)))) = true then (if 1 < (t119.length : Int) then (if (((rd_T34 t119 1).f0) == 1 && (((rd_T34 t119 1).f1) == 16 && (((rd_T34 t119 1).f2)))) = true then ((pump_Sum.f k t119).bind fun t124 => (some (t124 == 80))) else (some false)) else (none)) else (some false)) else (none)) else (some false)) = some r := H
  have A1 := Aside0.mk A10
  clear A10
  by_cases c2 : (t119.length : Int) = 2
  · rw [if_pos c2] at H
    have c2b0 : ((t119.length : Int) == 2) = true := beq_iff_eq.mpr c2
    have c2b1 : ((t119.length : Int) != 2) = false := bne_eq_false_iff_eq.mpr c2
    clear c2
    by_cases c3 : 0 < (t119.length : Int)
    · rw [if_pos c3] at H
      have c3b0 : decide (0 < (t119.length : Int)) = true := decide_eq_true c3
      have c3b1 : decide (0 < t119.length) = true := decide_eq_true (by omega)
      clear c3
      by_cases c4 : (((rd_T34 t119 0).f0) == 1 && (((rd_T34 t119 0).f1) == 64 && (!((rd_T34 t119 0).f2)))) = true
      · rw [if_pos c4] at H
        have c4b0 : (((rd_T34 t119 0).f0) == 1 && (((rd_T34 t119 0).f1) == 64 && (!((rd_T34 t119 0).f2)))) = true := c4
        (try (have c4b1 : decide (((rd_T34 t119 0).f0) = 1 && (((rd_T34 t119 0).f1) == 64 && (!((rd_T34 t119 0).f2)))) = true := by simpa using c4))
        (try (have c4b2 : (((rd_T34 t119 0).f0) == 1 && (((rd_T34 t119 0).f1) == 64 && (!((rd_T34 t119 0).f2)))) = true := by simpa using c4))
        clear c4
        by_cases c5 : 1 < (t119.length : Int)
        · rw [if_pos c5] at H
          have c5b0 : decide (1 < (t119.length : Int)) = true := decide_eq_true c5
          have c5b1 : decide (1 < t119.length) = true := decide_eq_true (by omega)
          clear c5
          by_cases c6 : (((rd_T34 t119 1).f0) == 1 && (((rd_T34 t119 1).f1) == 16 && (((rd_T34 t119 1).f2)))) = true
          · rw [if_pos c6] at H
            have c6b0 : (((rd_T34 t119 1).f0) == 1 && (((rd_T34 t119 1).f1) == 16 && (((rd_T34 t119 1).f2)))) = true := c6
            (try (have c6b1 : decide (((rd_T34 t119 1).f0) = 1 && (((rd_T34 t119 1).f1) == 16 && (((rd_T34 t119 1).f2)))) = true := by simpa using c6))
            (try (have c6b2 : (((rd_T34 t119 1).f0) == 1 && (((rd_T34 t119 1).f1) == 16 && (((rd_T34 t119 1).f2)))) = true := by simpa using c6))
            clear c6
            replace H := Option.bind_eq_some_iff.mp H
            obtain ⟨t124, A70, H⟩ := H
            replace H : (some (t124 == 80)) = some r := H
            have A7 := Aside0.mk A70
            clear A70
            obtain rfl := Option.some.inj H
            go_enter Try.func8, Try.ntmps8
            go_wp2_with (first | ((with_reducible refine gate_dst (N := 3) rfl ?_); refine Kd.R_lit k26 _ 26 ?hg (N := 3) ?hd (xs := ([(⟨1, 100, 80, true⟩ : S26)] : List (S26))) (inner := [.int .i64 1, .int .i64 100, .int .i64 80, .bool true]) (ok := fun _ => True) (okp := fun _ => True) ?hr ?hp (fun _ hk => hk) trivial (Below.refl _ _) (Nat.le_refl _) (by simp) ?_; (case hd => rfl); (case hg => rfl); (case hr => first | (go_simp; done) | (go_simp; rfl)); (case hp => exact (Reps.c4 (show Kd.M k26 _ _ _ (⟨1, 100, 80, true⟩ : S26) [.int .i64 1, .int .i64 100, .int .i64 80, .bool true] from (k26_mkM _ _ _ (⟨1, 100, 80, true⟩ : S26) )) (Reps.none _ _))); intro v117 w8 ho9 hb hg_ hnew_; clear hg_ hnew_; (first | rw [← Ny116.out] at ho9 | (simp only [Int.reduceToNat] at ho9; rw [← Ny116.out] at ho9)); have n0_ := Aside0.mk (Kd.R_lower ho9 (below_size (by repeat (first | (with_reducible first | exact HB.out | apply below_alloc | apply pw_below_drewN | apply below_drew1) | exact HB.out)))); have n1_ := Aside0.mk (below_step (by repeat (first | (with_reducible first | exact HB.out | apply below_alloc | apply pw_below_drewN | apply below_drew1) | exact HB.out)) hb); clear HB; have HO118 := n0_; have HB := n1_; clear n0_ n1_; clear hb ho9; obtain ⟨Ao10, co10, eo10⟩ := Kd.R_slice HO118.out; subst eo10) | ((with_reducible refine gate_callee (f := 10) rfl ?_); refine goesL_ (some 4) rfl rfl Try.func10 (by kernel_rfl) rfl #[.int .i64 100, .int .i64 64, .slice Ao10 y116.length co10] rfl (by (try simp only [List.map_toArray, List.map_cons, List.map_nil]); first | done | rfl | (simp only [List.length_drop, List.length_take]; rfl)) ?_; (with_reducible refine (pump_Plan.calls k 100 64 _ _ y116 t119 _ ?side1 ?side2 A1.out).mono ?_); (case side1 => repeat (first | exact (Kd.R_reads' HO118.out).2.2 | (with_reducible refine Kd.C_alloc ?_ _) | (with_reducible refine Kd.C_drewN ?_ _) | (with_reducible refine Kd.C_drew ?_))); (case side2 => exact (Kd.R_reads' HO118.out).2.1); rintro e w11 ⟨v120, rfl, ho0, hb⟩; refine ⟨_, rfl, ?_⟩; have n0_ := Aside0.mk (Kd.R_below (by (with_reducible repeat (first | apply Kd.R_alloc | apply Kd.R_drewN | apply Kd.R_drew)); exact HO118.out) hb); have n1_ := Aside0.mk (Kd.R_lower ho0 (below_size (by repeat (first | (with_reducible first | exact HB.out | apply below_alloc | apply pw_below_drewN | apply below_drew1) | exact HB.out)))); have n2_ := Aside0.mk (below_step (by repeat (first | (with_reducible first | exact HB.out | apply below_alloc | apply pw_below_drewN | apply below_drew1) | exact HB.out)) hb); clear HO118; clear HB; have HO118 := n0_; have HO121 := n1_; have HB := n2_; clear n0_ n1_ n2_; (try clear hb); (try clear hb2); (try clear hk); (try clear hi); (try clear ho0); obtain ⟨Ao12, co12, eo12⟩ := Kd.R_slice HO121.out; subst eo12; have p122 : 0 ≤ (0 : Int) := (by omega); have q122 : 0 < (t119.length : Int) := of_decide_eq_true (by first | (with_reducible assumption) | assumption); obtain ⟨ad122, e122, hx122_0, hx122_1, hx122_2⟩ := at_T34 (Kd.R_reads' HO121.out).2.2 0 p122 q122; cases e122; have qi122 : (0 < t119.length) = True := eq_true (by omega); (try rw [show ((0 : Int)).toNat = 0 from rfl] at hx122_0); (try rw [show 0 * 3 = 0 from rfl] at hx122_0); (try rw [Addr.add_zero'] at hx122_0); (try rw [show ((0 : Int)).toNat = 0 from rfl] at hx122_1); (try rw [show 0 * 3 = 0 from rfl] at hx122_1); (try rw [Addr.add_zero'] at hx122_1); (try rw [show ((0 : Int)).toNat = 0 from rfl] at hx122_2); (try rw [show 0 * 3 = 0 from rfl] at hx122_2); (try rw [Addr.add_zero'] at hx122_2); replace p122 := eq_true p122; replace q122 := eq_true q122; have p123 : 0 ≤ (1 : Int) := (by omega); have q123 : 1 < (t119.length : Int) := of_decide_eq_true (by first | (with_reducible assumption) | assumption); obtain ⟨ad123, e123, hx123_0, hx123_1, hx123_2⟩ := at_T34 (Kd.R_reads' HO121.out).2.2 1 p123 q123; obtain rfl : ad122 = ad123 := (by injection e123); (try simp only [show (1 : Int).toNat = 1 from rfl, Nat.reduceMul, Nat.reduceEqDiff, Go.Addr.add, ↓reduceIte] at hx123_0); (try simp only [show (1 : Int).toNat = 1 from rfl, Nat.reduceMul, Nat.reduceEqDiff, Go.Addr.add, ↓reduceIte] at hx123_1); (try simp only [show (1 : Int).toNat = 1 from rfl, Nat.reduceMul, Nat.reduceEqDiff, Go.Addr.add, ↓reduceIte] at hx123_2); have qi123 : (1 < t119.length) = True := eq_true (by omega); (try rw [show ((1 : Int)).toNat = 1 from rfl] at hx123_0); (try rw [show 1 * 3 = 3 from rfl] at hx123_0); (try rw [show ((1 : Int)).toNat = 1 from rfl] at hx123_1); (try rw [show 1 * 3 = 3 from rfl] at hx123_1); (try rw [show ((1 : Int)).toNat = 1 from rfl] at hx123_2); (try rw [show 1 * 3 = 3 from rfl] at hx123_2); replace p123 := eq_true p123; replace q123 := eq_true q123) | (go_at_call 11; (with_reducible refine (pump_Sum.calls k _ _ t119 t124 _ ?side1 ?side2 A7.out).mono ?_); (case side1 => repeat (first | exact (Kd.R_reads' HO121.out).2.2 | (with_reducible refine Kd.C_alloc ?_ _) | (with_reducible refine Kd.C_drewN ?_ _) | (with_reducible refine Kd.C_drew ?_))); (case side2 => exact (Kd.R_reads' HO121.out).2.1); rintro e w13 ⟨rfl, hb⟩; have n0_ := Aside0.mk (Kd.R_below (by (with_reducible repeat (first | apply Kd.R_alloc | apply Kd.R_drewN | apply Kd.R_drew)); exact HO118.out) hb); have n1_ := Aside0.mk (Kd.R_below (by (with_reducible repeat (first | apply Kd.R_alloc | apply Kd.R_drewN | apply Kd.R_drew)); exact HO121.out) hb); have n2_ := Aside0.mk (below_step (by repeat (first | (with_reducible first | exact HB.out | apply below_alloc | apply pw_below_drewN | apply below_drew1) | exact HB.out)) hb); clear HO118; clear HO121; clear HB; have HO118 := n0_; have HO121 := n1_; have HB := n2_; clear n0_ n1_ n2_; (try clear hb); (try clear hb2); (try clear hk); (try clear hi)))
            go_ret
            exact ⟨by first | rfl | (simp [errW_none, errW_some] <;> rfl) | (simp [*, errW_none, errW_some] <;> rfl), by repeat (first | (with_reducible first | exact HB.out | apply below_alloc | apply pw_below_drewN | apply below_drew1) | exact HB.out)⟩
          · rw [if_neg c6] at H
            have c6b0 : (((rd_T34 t119 1).f0) == 1 && (((rd_T34 t119 1).f1) == 16 && (((rd_T34 t119 1).f2)))) = false := by simpa using c6
            (try (have c6b1 : decide (((rd_T34 t119 1).f0) = 1 && (((rd_T34 t119 1).f1) == 16 && (((rd_T34 t119 1).f2)))) = false := by simpa using c6))
            (try (have c6b2 : (((rd_T34 t119 1).f0) == 1 && (((rd_T34 t119 1).f1) == 16 && (((rd_T34 t119 1).f2)))) = false := by simpa using c6))
            (try (have c6b3 : ¬ (((rd_T34 t119 1).f0) = 1 && (((rd_T34 t119 1).f1) == 16 && (((rd_T34 t119 1).f2)))) := by simpa using c6))
            clear c6
            obtain rfl := Option.some.inj H
            go_enter Try.func8, Try.ntmps8
            go_wp2_with (first | ((with_reducible refine gate_dst (N := 3) rfl ?_); refine Kd.R_lit k26 _ 26 ?hg (N := 3) ?hd (xs := ([(⟨1, 100, 80, true⟩ : S26)] : List (S26))) (inner := [.int .i64 1, .int .i64 100, .int .i64 80, .bool true]) (ok := fun _ => True) (okp := fun _ => True) ?hr ?hp (fun _ hk => hk) trivial (Below.refl _ _) (Nat.le_refl _) (by simp) ?_; (case hd => rfl); (case hg => rfl); (case hr => first | (go_simp; done) | (go_simp; rfl)); (case hp => exact (Reps.c4 (show Kd.M k26 _ _ _ (⟨1, 100, 80, true⟩ : S26) [.int .i64 1, .int .i64 100, .int .i64 80, .bool true] from (k26_mkM _ _ _ (⟨1, 100, 80, true⟩ : S26) )) (Reps.none _ _))); intro v117 w14 ho15 hb hg_ hnew_; clear hg_ hnew_; (first | rw [← Ny116.out] at ho15 | (simp only [Int.reduceToNat] at ho15; rw [← Ny116.out] at ho15)); have n0_ := Aside0.mk (Kd.R_lower ho15 (below_size (by repeat (first | (with_reducible first | exact HB.out | apply below_alloc | apply pw_below_drewN | apply below_drew1) | exact HB.out)))); have n1_ := Aside0.mk (below_step (by repeat (first | (with_reducible first | exact HB.out | apply below_alloc | apply pw_below_drewN | apply below_drew1) | exact HB.out)) hb); clear HB; have HO118 := n0_; have HB := n1_; clear n0_ n1_; clear hb ho15; obtain ⟨Ao16, co16, eo16⟩ := Kd.R_slice HO118.out; subst eo16) | ((with_reducible refine gate_callee (f := 10) rfl ?_); refine goesL_ (some 4) rfl rfl Try.func10 (by kernel_rfl) rfl #[.int .i64 100, .int .i64 64, .slice Ao16 y116.length co16] rfl (by (try simp only [List.map_toArray, List.map_cons, List.map_nil]); first | done | rfl | (simp only [List.length_drop, List.length_take]; rfl)) ?_; (with_reducible refine (pump_Plan.calls k 100 64 _ _ y116 t119 _ ?side1 ?side2 A1.out).mono ?_); (case side1 => repeat (first | exact (Kd.R_reads' HO118.out).2.2 | (with_reducible refine Kd.C_alloc ?_ _) | (with_reducible refine Kd.C_drewN ?_ _) | (with_reducible refine Kd.C_drew ?_))); (case side2 => exact (Kd.R_reads' HO118.out).2.1); rintro e w17 ⟨v120, rfl, ho0, hb⟩; refine ⟨_, rfl, ?_⟩; have n0_ := Aside0.mk (Kd.R_below (by (with_reducible repeat (first | apply Kd.R_alloc | apply Kd.R_drewN | apply Kd.R_drew)); exact HO118.out) hb); have n1_ := Aside0.mk (Kd.R_lower ho0 (below_size (by repeat (first | (with_reducible first | exact HB.out | apply below_alloc | apply pw_below_drewN | apply below_drew1) | exact HB.out)))); have n2_ := Aside0.mk (below_step (by repeat (first | (with_reducible first | exact HB.out | apply below_alloc | apply pw_below_drewN | apply below_drew1) | exact HB.out)) hb); clear HO118; clear HB; have HO118 := n0_; have HO121 := n1_; have HB := n2_; clear n0_ n1_ n2_; (try clear hb); (try clear hb2); (try clear hk); (try clear hi); (try clear ho0); obtain ⟨Ao18, co18, eo18⟩ := Kd.R_slice HO121.out; subst eo18; have p122 : 0 ≤ (0 : Int) := (by omega); have q122 : 0 < (t119.length : Int) := of_decide_eq_true (by first | (with_reducible assumption) | assumption); obtain ⟨ad122, e122, hx122_0, hx122_1, hx122_2⟩ := at_T34 (Kd.R_reads' HO121.out).2.2 0 p122 q122; cases e122; have qi122 : (0 < t119.length) = True := eq_true (by omega); (try rw [show ((0 : Int)).toNat = 0 from rfl] at hx122_0); (try rw [show 0 * 3 = 0 from rfl] at hx122_0); (try rw [Addr.add_zero'] at hx122_0); (try rw [show ((0 : Int)).toNat = 0 from rfl] at hx122_1); (try rw [show 0 * 3 = 0 from rfl] at hx122_1); (try rw [Addr.add_zero'] at hx122_1); (try rw [show ((0 : Int)).toNat = 0 from rfl] at hx122_2); (try rw [show 0 * 3 = 0 from rfl] at hx122_2); (try rw [Addr.add_zero'] at hx122_2); replace p122 := eq_true p122; replace q122 := eq_true q122; have p123 : 0 ≤ (1 : Int) := (by omega); have q123 : 1 < (t119.length : Int) := of_decide_eq_true (by first | (with_reducible assumption) | assumption); obtain ⟨ad123, e123, hx123_0, hx123_1, hx123_2⟩ := at_T34 (Kd.R_reads' HO121.out).2.2 1 p123 q123; obtain rfl : ad122 = ad123 := (by injection e123); (try simp only [show (1 : Int).toNat = 1 from rfl, Nat.reduceMul, Nat.reduceEqDiff, Go.Addr.add, ↓reduceIte] at hx123_0); (try simp only [show (1 : Int).toNat = 1 from rfl, Nat.reduceMul, Nat.reduceEqDiff, Go.Addr.add, ↓reduceIte] at hx123_1); (try simp only [show (1 : Int).toNat = 1 from rfl, Nat.reduceMul, Nat.reduceEqDiff, Go.Addr.add, ↓reduceIte] at hx123_2); have qi123 : (1 < t119.length) = True := eq_true (by omega); (try rw [show ((1 : Int)).toNat = 1 from rfl] at hx123_0); (try rw [show 1 * 3 = 3 from rfl] at hx123_0); (try rw [show ((1 : Int)).toNat = 1 from rfl] at hx123_1); (try rw [show 1 * 3 = 3 from rfl] at hx123_1); (try rw [show ((1 : Int)).toNat = 1 from rfl] at hx123_2); (try rw [show 1 * 3 = 3 from rfl] at hx123_2); replace p123 := eq_true p123; replace q123 := eq_true q123))
            go_ret
            exact ⟨by first | rfl | (simp [errW_none, errW_some] <;> rfl) | (simp [*, errW_none, errW_some] <;> rfl), by repeat (first | (with_reducible first | exact HB.out | apply below_alloc | apply pw_below_drewN | apply below_drew1) | exact HB.out)⟩
        · rw [if_neg c5] at H
          exact absurd H (by simp)
      · rw [if_neg c4] at H
        have c4b0 : (((rd_T34 t119 0).f0) == 1 && (((rd_T34 t119 0).f1) == 64 && (!((rd_T34 t119 0).f2)))) = false := by simpa using c4
        (try (have c4b1 : decide (((rd_T34 t119 0).f0) = 1 && (((rd_T34 t119 0).f1) == 64 && (!((rd_T34 t119 0).f2)))) = false := by simpa using c4))
        (try (have c4b2 : (((rd_T34 t119 0).f0) == 1 && (((rd_T34 t119 0).f1) == 64 && (!((rd_T34 t119 0).f2)))) = false := by simpa using c4))
        (try (have c4b3 : ¬ (((rd_T34 t119 0).f0) = 1 && (((rd_T34 t119 0).f1) == 64 && (!((rd_T34 t119 0).f2)))) := by simpa using c4))
        clear c4
        obtain rfl := Option.some.inj H
        go_enter Try.func8, Try.ntmps8
        go_wp2_with (first | ((with_reducible refine gate_dst (N := 3) rfl ?_); refine Kd.R_lit k26 _ 26 ?hg (N := 3) ?hd (xs := ([(⟨1, 100, 80, true⟩ : S26)] : List (S26))) (inner := [.int .i64 1, .int .i64 100, .int .i64 80, .bool true]) (ok := fun _ => True) (okp := fun _ => True) ?hr ?hp (fun _ hk => hk) trivial (Below.refl _ _) (Nat.le_refl _) (by simp) ?_; (case hd => rfl); (case hg => rfl); (case hr => first | (go_simp; done) | (go_simp; rfl)); (case hp => exact (Reps.c4 (show Kd.M k26 _ _ _ (⟨1, 100, 80, true⟩ : S26) [.int .i64 1, .int .i64 100, .int .i64 80, .bool true] from (k26_mkM _ _ _ (⟨1, 100, 80, true⟩ : S26) )) (Reps.none _ _))); intro v117 w19 ho20 hb hg_ hnew_; clear hg_ hnew_; (first | rw [← Ny116.out] at ho20 | (simp only [Int.reduceToNat] at ho20; rw [← Ny116.out] at ho20)); have n0_ := Aside0.mk (Kd.R_lower ho20 (below_size (by repeat (first | (with_reducible first | exact HB.out | apply below_alloc | apply pw_below_drewN | apply below_drew1) | exact HB.out)))); have n1_ := Aside0.mk (below_step (by repeat (first | (with_reducible first | exact HB.out | apply below_alloc | apply pw_below_drewN | apply below_drew1) | exact HB.out)) hb); clear HB; have HO118 := n0_; have HB := n1_; clear n0_ n1_; clear hb ho20; obtain ⟨Ao21, co21, eo21⟩ := Kd.R_slice HO118.out; subst eo21) | ((with_reducible refine gate_callee (f := 10) rfl ?_); refine goesL_ (some 4) rfl rfl Try.func10 (by kernel_rfl) rfl #[.int .i64 100, .int .i64 64, .slice Ao21 y116.length co21] rfl (by (try simp only [List.map_toArray, List.map_cons, List.map_nil]); first | done | rfl | (simp only [List.length_drop, List.length_take]; rfl)) ?_; (with_reducible refine (pump_Plan.calls k 100 64 _ _ y116 t119 _ ?side1 ?side2 A1.out).mono ?_); (case side1 => repeat (first | exact (Kd.R_reads' HO118.out).2.2 | (with_reducible refine Kd.C_alloc ?_ _) | (with_reducible refine Kd.C_drewN ?_ _) | (with_reducible refine Kd.C_drew ?_))); (case side2 => exact (Kd.R_reads' HO118.out).2.1); rintro e w22 ⟨v120, rfl, ho0, hb⟩; refine ⟨_, rfl, ?_⟩; have n0_ := Aside0.mk (Kd.R_below (by (with_reducible repeat (first | apply Kd.R_alloc | apply Kd.R_drewN | apply Kd.R_drew)); exact HO118.out) hb); have n1_ := Aside0.mk (Kd.R_lower ho0 (below_size (by repeat (first | (with_reducible first | exact HB.out | apply below_alloc | apply pw_below_drewN | apply below_drew1) | exact HB.out)))); have n2_ := Aside0.mk (below_step (by repeat (first | (with_reducible first | exact HB.out | apply below_alloc | apply pw_below_drewN | apply below_drew1) | exact HB.out)) hb); clear HO118; clear HB; have HO118 := n0_; have HO121 := n1_; have HB := n2_; clear n0_ n1_ n2_; (try clear hb); (try clear hb2); (try clear hk); (try clear hi); (try clear ho0); obtain ⟨Ao23, co23, eo23⟩ := Kd.R_slice HO121.out; subst eo23; have p122 : 0 ≤ (0 : Int) := (by omega); have q122 : 0 < (t119.length : Int) := of_decide_eq_true (by first | (with_reducible assumption) | assumption); obtain ⟨ad122, e122, hx122_0, hx122_1, hx122_2⟩ := at_T34 (Kd.R_reads' HO121.out).2.2 0 p122 q122; cases e122; have qi122 : (0 < t119.length) = True := eq_true (by omega); (try rw [show ((0 : Int)).toNat = 0 from rfl] at hx122_0); (try rw [show 0 * 3 = 0 from rfl] at hx122_0); (try rw [Addr.add_zero'] at hx122_0); (try rw [show ((0 : Int)).toNat = 0 from rfl] at hx122_1); (try rw [show 0 * 3 = 0 from rfl] at hx122_1); (try rw [Addr.add_zero'] at hx122_1); (try rw [show ((0 : Int)).toNat = 0 from rfl] at hx122_2); (try rw [show 0 * 3 = 0 from rfl] at hx122_2); (try rw [Addr.add_zero'] at hx122_2); replace p122 := eq_true p122; replace q122 := eq_true q122))
        go_ret
        exact ⟨by first | rfl | (simp [errW_none, errW_some] <;> rfl) | (simp [*, errW_none, errW_some] <;> rfl), by repeat (first | (with_reducible first | exact HB.out | apply below_alloc | apply pw_below_drewN | apply below_drew1) | exact HB.out)⟩
    · rw [if_neg c3] at H
      exact absurd H (by simp)
  · rw [if_neg c2] at H
    have c2b0 : ((t119.length : Int) == 2) = false := beq_eq_false_iff_ne.mpr c2
    have c2b1 : ((t119.length : Int) != 2) = true := bne_iff_ne.mpr c2
    obtain rfl := Option.some.inj H
    go_enter Try.func8, Try.ntmps8
    go_wp2_with (first | ((with_reducible refine gate_dst (N := 3) rfl ?_); refine Kd.R_lit k26 _ 26 ?hg (N := 3) ?hd (xs := ([(⟨1, 100, 80, true⟩ : S26)] : List (S26))) (inner := [.int .i64 1, .int .i64 100, .int .i64 80, .bool true]) (ok := fun _ => True) (okp := fun _ => True) ?hr ?hp (fun _ hk => hk) trivial (Below.refl _ _) (Nat.le_refl _) (by simp) ?_; (case hd => rfl); (case hg => rfl); (case hr => first | (go_simp; done) | (go_simp; rfl)); (case hp => exact (Reps.c4 (show Kd.M k26 _ _ _ (⟨1, 100, 80, true⟩ : S26) [.int .i64 1, .int .i64 100, .int .i64 80, .bool true] from (k26_mkM _ _ _ (⟨1, 100, 80, true⟩ : S26) )) (Reps.none _ _))); intro v117 w24 ho25 hb hg_ hnew_; clear hg_ hnew_; (first | rw [← Ny116.out] at ho25 | (simp only [Int.reduceToNat] at ho25; rw [← Ny116.out] at ho25)); have n0_ := Aside0.mk (Kd.R_lower ho25 (below_size (by repeat (first | (with_reducible first | exact HB.out | apply below_alloc | apply pw_below_drewN | apply below_drew1) | exact HB.out)))); have n1_ := Aside0.mk (below_step (by repeat (first | (with_reducible first | exact HB.out | apply below_alloc | apply pw_below_drewN | apply below_drew1) | exact HB.out)) hb); clear HB; have HO118 := n0_; have HB := n1_; clear n0_ n1_; clear hb ho25; obtain ⟨Ao26, co26, eo26⟩ := Kd.R_slice HO118.out; subst eo26) | ((with_reducible refine gate_callee (f := 10) rfl ?_); refine goesL_ (some 4) rfl rfl Try.func10 (by kernel_rfl) rfl #[.int .i64 100, .int .i64 64, .slice Ao26 y116.length co26] rfl (by (try simp only [List.map_toArray, List.map_cons, List.map_nil]); first | done | rfl | (simp only [List.length_drop, List.length_take]; rfl)) ?_; (with_reducible refine (pump_Plan.calls k 100 64 _ _ y116 t119 _ ?side1 ?side2 A1.out).mono ?_); (case side1 => repeat (first | exact (Kd.R_reads' HO118.out).2.2 | (with_reducible refine Kd.C_alloc ?_ _) | (with_reducible refine Kd.C_drewN ?_ _) | (with_reducible refine Kd.C_drew ?_))); (case side2 => exact (Kd.R_reads' HO118.out).2.1); rintro e w27 ⟨v120, rfl, ho0, hb⟩; refine ⟨_, rfl, ?_⟩; have n0_ := Aside0.mk (Kd.R_below (by (with_reducible repeat (first | apply Kd.R_alloc | apply Kd.R_drewN | apply Kd.R_drew)); exact HO118.out) hb); have n1_ := Aside0.mk (Kd.R_lower ho0 (below_size (by repeat (first | (with_reducible first | exact HB.out | apply below_alloc | apply pw_below_drewN | apply below_drew1) | exact HB.out)))); have n2_ := Aside0.mk (below_step (by repeat (first | (with_reducible first | exact HB.out | apply below_alloc | apply pw_below_drewN | apply below_drew1) | exact HB.out)) hb); clear HO118; clear HB; have HO118 := n0_; have HO121 := n1_; have HB := n2_; clear n0_ n1_ n2_; (try clear hb); (try clear hb2); (try clear hk); (try clear hi); (try clear ho0); obtain ⟨Ao28, co28, eo28⟩ := Kd.R_slice HO121.out; subst eo28))
    go_ret
    exact ⟨by first | rfl | (simp [errW_none, errW_some] <;> rfl) | (simp [*, errW_none, errW_some] <;> rfl), by repeat (first | (with_reducible first | exact HB.out | apply below_alloc | apply pw_below_drewN | apply below_drew1) | exact HB.out)⟩

/-! ### bywashref1_Plan: function 9 -/
mutual
def bywashref1_Plan.l0 : Nat → Int → Int → List (S28) → List (S35) → Int → Option ((List (S35)))
  | 0, _, _, _, _, _ => none
  | k + 1, x0, x1, x2, x7, x8 => if x8 < (x2.length : Int) then (if 0 ≤ x8 then (if (rd_T28 x2 x8).f3 = true then (bywashref1_Plan.j1 k x0 x1 x2 x7 x8 (((rd_T28 x2 x8).f2) == 0) ((rd_T28 x2 x8).f0) ((rd_T28 x2 x8).f1) ((rd_T28 x2 x8).f2) ((rd_T28 x2 x8).f3)) else (bywashref1_Plan.j1 k x0 x1 x2 x7 x8 false ((rd_T28 x2 x8).f0) ((rd_T28 x2 x8).f1) ((rd_T28 x2 x8).f2) ((rd_T28 x2 x8).f3))) else (none)) else (some x7)
def bywashref1_Plan.j1 : Nat → Int → Int → List (S28) → List (S35) → Int → Bool → Int → Int → Int → Bool → Option ((List (S35)))
  | 0, _, _, _, _, _, _, _, _, _, _ => none
  | k + 1, x0, x1, x2, x7, x8, x27, x127000, x127001, x127002, x127003 => if x27 = true then (if x7.length < 5864062014805 then (bywashref1_Plan.l0 k x0 x1 x2 (x7 ++ [(⟨x127000, 0, true⟩ : S35)]) (wrap64 (x8 + 1))) else (none)) else (bywashref1_Plan.l1 k x0 x1 x2 x7 x8 x127000 x127001 x127002 x127003)
def bywashref1_Plan.l1 : Nat → Int → Int → List (S28) → List (S35) → Int → Int → Int → Int → Bool → Option ((List (S35)))
  | 0, _, _, _, _, _, _, _, _, _ => none
  | k + 1, x0, x1, x2, x7, x8, x127000, x127001, x127002, x127003 => if (mn (mn (mn x127002 x127001) x0) x1) ≤ 0 then (bywashref1_Plan.l0 k x0 x1 x2 x7 (wrap64 (x8 + 1))) else (if x127003 = true then (if x7.length < 5864062014805 then (bywashref1_Plan.l1 k (wrap64 (x0 - (mn (mn (mn x127002 x127001) x0) x1))) x1 x2 (x7 ++ [(⟨x127000, mn (mn (mn x127002 x127001) x0) x1, ((wrap64 (x127002 - (mn (mn (mn x127002 x127001) x0) x1))) == 0)⟩ : S35)]) x8 x127000 (wrap64 (x127001 - (mn (mn (mn x127002 x127001) x0) x1))) (wrap64 (x127002 - (mn (mn (mn x127002 x127001) x0) x1))) x127003) else (none)) else (if x7.length < 5864062014805 then (bywashref1_Plan.l1 k (wrap64 (x0 - (mn (mn (mn x127002 x127001) x0) x1))) x1 x2 (x7 ++ [(⟨x127000, mn (mn (mn x127002 x127001) x0) x1, false⟩ : S35)]) x8 x127000 (wrap64 (x127001 - (mn (mn (mn x127002 x127001) x0) x1))) (wrap64 (x127002 - (mn (mn (mn x127002 x127001) x0) x1))) x127003) else (none)))
end
def bywashref1_Plan.f (k : Nat) (a0 : Int) (a1 : Int) (l2 : List (S28)) : Option ((List (S35))) := bywashref1_Plan.l0 k a0 a1 l2 ([] : List (S35)) 0
theorem bywashref1_Plan.mono_l : ∀ k, (∀ y0 y1 y2 y3 y4, LeO (bywashref1_Plan.l0 k y0 y1 y2 y3 y4) (bywashref1_Plan.l0 (k + 1) y0 y1 y2 y3 y4)) ∧ (∀ y0 y1 y2 y3 y4 y5 y6 y7 y8 y9, LeO (bywashref1_Plan.j1 k y0 y1 y2 y3 y4 y5 y6 y7 y8 y9) (bywashref1_Plan.j1 (k + 1) y0 y1 y2 y3 y4 y5 y6 y7 y8 y9)) ∧ (∀ y0 y1 y2 y3 y4 y5 y6 y7 y8, LeO (bywashref1_Plan.l1 k y0 y1 y2 y3 y4 y5 y6 y7 y8) (bywashref1_Plan.l1 (k + 1) y0 y1 y2 y3 y4 y5 y6 y7 y8))
  | 0 => ⟨fun _ _ _ _ _ r h => by simp [bywashref1_Plan.l0] at h, fun _ _ _ _ _ _ _ _ _ _ r h => by simp [bywashref1_Plan.j1] at h, fun _ _ _ _ _ _ _ _ _ r h => by simp [bywashref1_Plan.l1] at h⟩
  | k + 1 => by
    obtain ⟨ih0, ih1, ih2⟩ := bywashref1_Plan.mono_l k
    refine ⟨?_, ?_, ?_⟩
    · intro y0 y1 y2 y3 y4
      unfold bywashref1_Plan.l0
      repeat' first
      | (with_reducible exact ih0 _ _ _ _ _)
      | (with_reducible exact ih1 _ _ _ _ _ _ _ _ _ _)
      | (with_reducible exact ih2 _ _ _ _ _ _ _ _ _)
      | (with_reducible exact LeO.refl _)
      | (with_reducible exact LeO.none _)
      | (with_reducible refine LeO.ite ?_ ?_)
      | (with_reducible refine LeO.bind ?_ (fun _ => ?_))
      | exact ih0 _ _ _ _ _
      | exact ih1 _ _ _ _ _ _ _ _ _ _
      | exact ih2 _ _ _ _ _ _ _ _ _
      | exact LeO.none _
      | refine LeO.ite ?_ ?_
      | refine LeO.bind ?_ (fun _ => ?_)
    · intro y0 y1 y2 y3 y4 y5 y6 y7 y8 y9
      unfold bywashref1_Plan.j1
      repeat' first
      | (with_reducible exact ih0 _ _ _ _ _)
      | (with_reducible exact ih1 _ _ _ _ _ _ _ _ _ _)
      | (with_reducible exact ih2 _ _ _ _ _ _ _ _ _)
      | (with_reducible exact LeO.refl _)
      | (with_reducible exact LeO.none _)
      | (with_reducible refine LeO.ite ?_ ?_)
      | (with_reducible refine LeO.bind ?_ (fun _ => ?_))
      | exact ih0 _ _ _ _ _
      | exact ih1 _ _ _ _ _ _ _ _ _ _
      | exact ih2 _ _ _ _ _ _ _ _ _
      | exact LeO.none _
      | refine LeO.ite ?_ ?_
      | refine LeO.bind ?_ (fun _ => ?_)
    · intro y0 y1 y2 y3 y4 y5 y6 y7 y8
      unfold bywashref1_Plan.l1
      repeat' first
      | (with_reducible exact ih0 _ _ _ _ _)
      | (with_reducible exact ih1 _ _ _ _ _ _ _ _ _ _)
      | (with_reducible exact ih2 _ _ _ _ _ _ _ _ _)
      | (with_reducible exact LeO.refl _)
      | (with_reducible exact LeO.none _)
      | (with_reducible refine LeO.ite ?_ ?_)
      | (with_reducible refine LeO.bind ?_ (fun _ => ?_))
      | exact ih0 _ _ _ _ _
      | exact ih1 _ _ _ _ _ _ _ _ _ _
      | exact ih2 _ _ _ _ _ _ _ _ _
      | exact LeO.none _
      | refine LeO.ite ?_ ?_
      | refine LeO.bind ?_ (fun _ => ?_)
theorem bywashref1_Plan.mono : ∀ a0 a1 a2 k, LeO (bywashref1_Plan.f k a0 a1 a2) (bywashref1_Plan.f (k + 1) a0 a1 a2) := by
  intro a0 a1 a2 k
  obtain ⟨ih0, ih1, ih2⟩ := bywashref1_Plan.mono_l k
  unfold bywashref1_Plan.f
  repeat' first
      | (with_reducible exact ih0 _ _ _ _ _)
      | (with_reducible exact ih1 _ _ _ _ _ _ _ _ _ _)
      | (with_reducible exact ih2 _ _ _ _ _ _ _ _ _)
      | (with_reducible exact LeO.refl _)
      | (with_reducible exact LeO.none _)
      | (with_reducible refine LeO.ite ?_ ?_)
      | (with_reducible refine LeO.bind ?_ (fun _ => ?_))
      | exact ih0 _ _ _ _ _
      | exact ih1 _ _ _ _ _ _ _ _ _ _
      | exact ih2 _ _ _ _ _ _ _ _ _
      | exact LeO.none _
      | refine LeO.ite ?_ ?_
      | refine LeO.bind ?_ (fun _ => ?_)
set_option maxHeartbeats 8000000 in
set_option maxRecDepth 100000 in
theorem bywashref1_Plan.calls (k : Nat) (a0 : Int) (a1 : Int) (A2 : Option Addr) (c2 : Nat) (l2 : List (S28)) (r : List (S35)) (w : World) (hr2 : Kd.C k28 w A2 l2.length l2) (hc2 : l2.length ≤ c2) (h : bywashref1_Plan.f k a0 a1 l2 = some r) :
    Calls Try.prog 9 #[.int .i64 a0, .int .i64 a1, .slice A2 l2.length c2] w fun e w' => ∃ v0_ : Value, e = .returned (v0_) ∧ Kd.R k35 35 w' w.heap.size (fun _ => True) v0_ r ∧ Below w.heap.size w w' := by
  have hu28 := Try.underlying28
  have hu35 := Try.underlying35
  have HR2 := Aside0.mk hr2
  have HC2 := Aside0.mk hc2
  clear hr2 hc2
  have HB := Aside0.mk (Below.refl w.heap.size w)
  have H : (bywashref1_Plan.l0 k a0 a1 l2 ([] : List (S35)) 0) = some r := h
  clear h
  have H' := Aside0.mk H
  clear H
  go_enter Try.func9, Try.ntmps9
  go_wp2
  go_loopg [0, 7, 8] k (fun kq v0 v7 v8 w' => ∃ (x0_1 : Int) (x7_1 : List (S35)) (x8_1 : Int), v0 = .int .i64 x0_1 ∧ v8 = .int .i64 x8_1 ∧ Aside0 (bywashref1_Plan.l0 kq x0_1 a1 l2 x7_1 x8_1 = some r) ∧ Aside0 (kq ≤ k) ∧ Aside0 (Kd.R k35 35 w' w.heap.size (fun _ => True) v7 x7_1) ∧ Aside0 (Below w.heap.size w w'))
  case atStart => exact ⟨(a0), (([] : List (S35))), (0), (by first | rfl | (simp; done) | (simp [*]; done)), (by first | rfl | (simp; done) | (simp [*]; done)), H', ⟨Nat.le_refl _⟩, ⟨by first | exact Kd.R_nil _ _ _ _ _ | exact Kd.N_nil _ _ _ _ _ | exact Kd.V_nil _ _ _ _ _ | exact Kd.Q_nil _ _ _ _ _ | exact Kd.S_nil _ _ _ _ _⟩, ⟨by repeat (first | (with_reducible first | exact HB.out | apply below_alloc | apply pw_below_drewN | apply below_drew1) | exact HB.out)⟩⟩
  case round =>
    clear H'
    try clear c2
    try clear p2
    obtain ⟨x0_1, x7_1, x8_1, rfl, rfl, HA, HK1, HO_7, HB⟩ := hrel
    cases gk with
    | zero => exact absurd HA.out (by simp [bywashref1_Plan.l0])
    | succ k1 =>
      have H := HA.out
      clear HA
      simp only [bywashref1_Plan.l0] at H
      by_cases c4 : x8_1 < (l2.length : Int)
      · rw [if_pos c4] at H
        have c4b0 : decide (x8_1 < (l2.length : Int)) = true := decide_eq_true c4
        clear c4
        by_cases c5 : 0 ≤ x8_1
        · rw [if_pos c5] at H
          have c5b0 : decide (0 ≤ x8_1) = true := decide_eq_true c5
          clear c5
          have HC6 := Aside0.mk H
          clear H
          have p125 : 0 ≤ (x8_1 : Int) := of_decide_eq_true (by first | (with_reducible assumption) | assumption)
          have q125 : x8_1 < (l2.length : Int) := of_decide_eq_true (by first | (with_reducible assumption) | assumption)
          obtain ⟨ad125, e125, hx125_0, hx125_1, hx125_2, hx125_3⟩ := at_T28 HR2.out x8_1 p125 q125
          cases e125
          replace hx125_0 := (HB.out.cell (World.block_lt_of_cell? w _ hx125_0)).trans hx125_0
          replace hx125_1 := (HB.out.cell (World.block_lt_of_cell? w _ hx125_1)).trans hx125_1
          replace hx125_2 := (HB.out.cell (World.block_lt_of_cell? w _ hx125_2)).trans hx125_2
          replace hx125_3 := (HB.out.cell (World.block_lt_of_cell? w _ hx125_3)).trans hx125_3
          replace p125 := eq_true p125
          replace q125 := eq_true q125
          go_upto_region 6 with (first | ((with_reducible refine gate_dst (N := 9) rfl ?_); refine box_event ?hg (N := 9) ?hd (cs := #[.int .i64 0, .int .i64 0, .int .i64 0, .bool false]) (t := 28) ?hr ?_; (case hd => rfl); (case hg => rfl); (case hr => first | (go_simp; done) | (go_simp; rfl)); intro gb126 hg w7 hbox hb; have n0_ := Aside0.mk (Kd.R_below (by (with_reducible repeat (first | apply Kd.R_alloc | apply Kd.R_drewN | apply Kd.R_drew)); exact HO_7.out) hb); have n1_ := Aside0.mk (below_step (by repeat (first | (with_reducible first | exact HB.out | apply below_alloc | apply pw_below_drewN | apply below_drew1) | exact HB.out)) hb); have n2_ := Aside0.mk (hbox); have n3_ := Aside0.mk ((by rw [hg]; exact (below_size (by repeat (first | (with_reducible first | exact HB.out | apply below_alloc | apply pw_below_drewN | apply below_drew1) | exact HB.out))) : w.heap.size ≤ gb126)); have n4_ := Aside0.mk ((by rw [hg]; exact (below_size (by repeat (first | (with_reducible first | exact HB.out | apply below_alloc | apply pw_below_drewN | apply below_drew1) | exact HB.out))) : w.heap.size ≤ gb126)); clear HO_7; clear HB; have HO_7 := n0_; have HB := n1_; have BK126 := n2_; have GW126 := n3_; have GE126 := n4_; clear n0_ n1_ n2_ n3_ n4_; clear hb hbox hg; have hcz8_0 : w7.cell? ⟨gb126, 0, none⟩ = some (.int .i64 0) := (blk_cell BK126.out 0).trans rfl; have hcz8_1 : w7.cell? ⟨gb126, 1, none⟩ = some (.int .i64 0) := (blk_cell BK126.out 1).trans rfl; have hcz8_2 : w7.cell? ⟨gb126, 2, none⟩ = some (.int .i64 0) := (blk_cell BK126.out 2).trans rfl; have hcz8_3 : w7.cell? ⟨gb126, 3, none⟩ = some (.bool false) := (blk_cell BK126.out 3).trans rfl; have hfz8_0 := blk_frozen BK126.out 0; have hfz8_1 := blk_frozen BK126.out 1; have hfz8_2 := blk_frozen BK126.out 2; have hfz8_3 := blk_frozen BK126.out 3))
          (try simp only [Act.put, List.setIfInBounds_toArray, List.set_cons_zero, List.set_cons_succ])
          go_cut [27] (fun v27 wc => ∃ (kq : Nat) (x27_5 : Bool), v27 = .bool x27_5 ∧ Aside0 (bywashref1_Plan.j1 kq x0_1 a1 l2 x7_1 x8_1 x27_5 ((rd_T28 l2 x8_1).f0) ((rd_T28 l2 x8_1).f1) ((rd_T28 l2 x8_1).f2) ((rd_T28 l2 x8_1).f3) = some r) ∧ Aside0 (kq ≤ k1) ∧ Aside0 (Kd.R k35 35 wc w.heap.size (fun _ => True) u7 x7_1) ∧ Aside0 (wc.heap[gb126]? = some (.cells #[.int .i64 ((rd_T28 l2 x8_1).f0), .int .i64 ((rd_T28 l2 x8_1).f1), .int .i64 ((rd_T28 l2 x8_1).f2), .bool ((rd_T28 l2 x8_1).f3)] 28 (0, 0))) ∧ Aside0 (Below w.heap.size w wc))
          case first =>
            have H := HC6.out
            clear HC6
            obtain ⟨bq9, hbq9⟩ : ∃ b_ : Bool, b_ = ((rd_T28 l2 x8_1).f3) := ⟨_, rfl⟩
            replace H : (if bq9 = true then (bywashref1_Plan.j1 k1 x0_1 a1 l2 x7_1 x8_1 (((rd_T28 l2 x8_1).f2) == 0) ((rd_T28 l2 x8_1).f0) ((rd_T28 l2 x8_1).f1) ((rd_T28 l2 x8_1).f2) bq9) else (bywashref1_Plan.j1 k1 x0_1 a1 l2 x7_1 x8_1 false ((rd_T28 l2 x8_1).f0) ((rd_T28 l2 x8_1).f1) ((rd_T28 l2 x8_1).f2) bq9)) = some r := by rw [← hbq9] at H; exact H
            have Nbq9 := Aside0.mk hbq9
            clear hbq9
            (try rw [← Nbq9.out])
            by_cases c10 : bq9 = true
            · subst c10
              have H1 : (bywashref1_Plan.j1 k1 x0_1 a1 l2 x7_1 x8_1 (((rd_T28 l2 x8_1).f2) == 0) ((rd_T28 l2 x8_1).f0) ((rd_T28 l2 x8_1).f1) ((rd_T28 l2 x8_1).f2) true) = some r := by rw [if_pos rfl] at H; exact H
              clear H
              have H := H1
              clear H1
              have H' := Aside0.mk H
              clear H
              have hcz11_0 : w7.cell? ⟨gb126, 0, none⟩ = some (.int .i64 0) := (blk_cell BK126.out 0).trans rfl
              have hcz11_1 : w7.cell? ⟨gb126, 1, none⟩ = some (.int .i64 0) := (blk_cell BK126.out 1).trans rfl
              have hcz11_2 : w7.cell? ⟨gb126, 2, none⟩ = some (.int .i64 0) := (blk_cell BK126.out 2).trans rfl
              have hcz11_3 : w7.cell? ⟨gb126, 3, none⟩ = some (.bool false) := (blk_cell BK126.out 3).trans rfl
              have hfz11_0 := blk_frozen BK126.out 0
              have hfz11_1 := blk_frozen BK126.out 1
              have hfz11_2 := blk_frozen BK126.out 2
              have hfz11_3 := blk_frozen BK126.out 3
              go_wp2
              go_meet
              case rel => (try simp only [← Nbq9.out]); exact ⟨_, ((((rd_T28 l2 x8_1).f2) == 0)), (by first | rfl | (simp; done) | (simp [*]; done)), H', ⟨by have := HK1.out; first | omega | exact Nat.le_refl _⟩, ⟨by (with_reducible repeat (first | apply Kd.R_alloc | apply Kd.R_drewN | apply Kd.R_drew)); exact Kd.R_mono (Kd.R_far (p := ⟨gb126, 3, none⟩) (Kd.R_far (p := ⟨gb126, 2, none⟩) (Kd.R_far (p := ⟨gb126, 1, none⟩) (Kd.R_far (p := ⟨gb126, 0, none⟩) (Kd.R_types HO_7.out BK126.out (by decide)) (fun _ hk => hk.2) (.int .i64 ((rd_T28 l2 x8_1).f0))) (fun _ hk => hk.2) (.int .i64 ((rd_T28 l2 x8_1).f1))) (fun _ hk => hk.2) (.int .i64 ((rd_T28 l2 x8_1).f2))) (fun _ hk => hk.2) (.bool (true))) (fun _ hk => trivial)⟩, ⟨by (with_reducible repeat (first | refine blk_drewN ?_ _ | refine blk_drew ?_ | refine blk_alloc ?_ _)); refine blk_put (cs := #[.int .i64 ((rd_T28 l2 x8_1).f0), .int .i64 ((rd_T28 l2 x8_1).f1), .int .i64 ((rd_T28 l2 x8_1).f2), .bool false]) ?_ 3 _ rfl; (with_reducible repeat (first | refine blk_drewN ?_ _ | refine blk_drew ?_ | refine blk_alloc ?_ _)); refine blk_put (cs := #[.int .i64 ((rd_T28 l2 x8_1).f0), .int .i64 ((rd_T28 l2 x8_1).f1), .int .i64 0, .bool false]) ?_ 2 _ rfl; (with_reducible repeat (first | refine blk_drewN ?_ _ | refine blk_drew ?_ | refine blk_alloc ?_ _)); refine blk_put (cs := #[.int .i64 ((rd_T28 l2 x8_1).f0), .int .i64 0, .int .i64 0, .bool false]) ?_ 1 _ rfl; (with_reducible repeat (first | refine blk_drewN ?_ _ | refine blk_drew ?_ | refine blk_alloc ?_ _)); refine blk_put (cs := #[.int .i64 0, .int .i64 0, .int .i64 0, .bool false]) ?_ 0 _ rfl; (with_reducible repeat (first | refine blk_drewN ?_ _ | refine blk_drew ?_ | refine blk_alloc ?_ _)); exact BK126.out⟩, ⟨by repeat (first | (with_reducible first | exact HB.out | apply below_alloc | apply pw_below_drewN | apply below_drew1 | refine below_set ?_ GE126.out) | exact HB.out)⟩⟩
            · replace c10 := Bool.eq_false_iff.mpr c10
              subst c10
              have H1 : (bywashref1_Plan.j1 k1 x0_1 a1 l2 x7_1 x8_1 false ((rd_T28 l2 x8_1).f0) ((rd_T28 l2 x8_1).f1) ((rd_T28 l2 x8_1).f2) false) = some r := by rw [if_neg (show ¬ (false = true) by decide)] at H; exact H
              clear H
              have H := H1
              clear H1
              have H' := Aside0.mk H
              clear H
              have hcz12_0 : w7.cell? ⟨gb126, 0, none⟩ = some (.int .i64 0) := (blk_cell BK126.out 0).trans rfl
              have hcz12_1 : w7.cell? ⟨gb126, 1, none⟩ = some (.int .i64 0) := (blk_cell BK126.out 1).trans rfl
              have hcz12_2 : w7.cell? ⟨gb126, 2, none⟩ = some (.int .i64 0) := (blk_cell BK126.out 2).trans rfl
              have hcz12_3 : w7.cell? ⟨gb126, 3, none⟩ = some (.bool false) := (blk_cell BK126.out 3).trans rfl
              have hfz12_0 := blk_frozen BK126.out 0
              have hfz12_1 := blk_frozen BK126.out 1
              have hfz12_2 := blk_frozen BK126.out 2
              have hfz12_3 := blk_frozen BK126.out 3
              go_wp2
              go_meet
              case rel => (try simp only [← Nbq9.out]); exact ⟨_, (false), (by first | rfl | (simp; done) | (simp [*]; done)), H', ⟨by have := HK1.out; first | omega | exact Nat.le_refl _⟩, ⟨by (with_reducible repeat (first | apply Kd.R_alloc | apply Kd.R_drewN | apply Kd.R_drew)); exact Kd.R_mono (Kd.R_far (p := ⟨gb126, 3, none⟩) (Kd.R_far (p := ⟨gb126, 2, none⟩) (Kd.R_far (p := ⟨gb126, 1, none⟩) (Kd.R_far (p := ⟨gb126, 0, none⟩) (Kd.R_types HO_7.out BK126.out (by decide)) (fun _ hk => hk.2) (.int .i64 ((rd_T28 l2 x8_1).f0))) (fun _ hk => hk.2) (.int .i64 ((rd_T28 l2 x8_1).f1))) (fun _ hk => hk.2) (.int .i64 ((rd_T28 l2 x8_1).f2))) (fun _ hk => hk.2) (.bool (false))) (fun _ hk => trivial)⟩, ⟨by (with_reducible repeat (first | refine blk_drewN ?_ _ | refine blk_drew ?_ | refine blk_alloc ?_ _)); refine blk_put (cs := #[.int .i64 ((rd_T28 l2 x8_1).f0), .int .i64 ((rd_T28 l2 x8_1).f1), .int .i64 ((rd_T28 l2 x8_1).f2), .bool false]) ?_ 3 _ rfl; (with_reducible repeat (first | refine blk_drewN ?_ _ | refine blk_drew ?_ | refine blk_alloc ?_ _)); refine blk_put (cs := #[.int .i64 ((rd_T28 l2 x8_1).f0), .int .i64 ((rd_T28 l2 x8_1).f1), .int .i64 0, .bool false]) ?_ 2 _ rfl; (with_reducible repeat (first | refine blk_drewN ?_ _ | refine blk_drew ?_ | refine blk_alloc ?_ _)); refine blk_put (cs := #[.int .i64 ((rd_T28 l2 x8_1).f0), .int .i64 0, .int .i64 0, .bool false]) ?_ 1 _ rfl; (with_reducible repeat (first | refine blk_drewN ?_ _ | refine blk_drew ?_ | refine blk_alloc ?_ _)); refine blk_put (cs := #[.int .i64 0, .int .i64 0, .int .i64 0, .bool false]) ?_ 0 _ rfl; (with_reducible repeat (first | refine blk_drewN ?_ _ | refine blk_drew ?_ | refine blk_alloc ?_ _)); exact BK126.out⟩, ⟨by repeat (first | (with_reducible first | exact HB.out | apply below_alloc | apply pw_below_drewN | apply below_drew1 | refine below_set ?_ GE126.out) | exact HB.out)⟩⟩
          case rest =>
            clear HC6
            try clear c1
            try clear p1
            try clear q1
            try clear hx1
            try clear c2
            try clear p2
            try clear c4
            try clear c4b0
            try clear c5
            try clear c5b0
            try clear c9
            try clear q9
            try clear c10
            try clear p12
            try clear q12
            try clear hx12
            try clear hcz11_0
            try clear hcz11_1
            try clear hcz11_2
            try clear hcz11_3
            try clear hcz12_0
            try clear hcz12_1
            try clear hcz12_2
            try clear hcz12_3
            try clear hcz8_0
            try clear hcz8_1
            try clear hcz8_2
            try clear hcz8_3
            try clear hfz11_0
            try clear hfz11_1
            try clear hfz11_2
            try clear hfz11_3
            try clear hfz12_0
            try clear hfz12_1
            try clear hfz12_2
            try clear hfz12_3
            try clear hfz8_0
            try clear hfz8_1
            try clear hfz8_2
            try clear hfz8_3
            try clear hx125_0
            try clear hx125_1
            try clear hx125_2
            try clear hx125_3
            try clear p125
            try clear p2
            try clear q125
            obtain ⟨kq, x27_5, rfl, HA, HJ5, HO_7, BK126, HB⟩ := hcut
            cases kq with
            | zero => exact absurd HA.out (by simp [bywashref1_Plan.j1])
            | succ kj5 =>
              have H := HA.out
              clear HA
              simp only [bywashref1_Plan.j1] at H
              by_cases c13 : x27_5 = true
              · subst c13
                have H1 : (if x7_1.length < 5864062014805 then (bywashref1_Plan.l0 kj5 x0_1 a1 l2 (x7_1 ++ [(⟨((rd_T28 l2 x8_1).f0), 0, true⟩ : S35)]) (wrap64 (x8_1 + 1))) else (none)) = some r := by rw [if_pos rfl] at H; exact H
                clear H
                have H := H1
                clear H1
                by_cases c14 : x7_1.length < 5864062014805
                · rw [if_pos c14] at H
                  have LMc14 := Aside0.mk c14
                  clear c14
                  obtain ⟨y127, hy127⟩ : ∃ y_ : List (S35), y_ = (x7_1 ++ [(⟨((rd_T28 l2 x8_1).f0), 0, true⟩ : S35)]) := ⟨_, rfl⟩
                  replace H : (bywashref1_Plan.l0 kj5 x0_1 a1 l2 y127 (wrap64 (x8_1 + 1))) = some r := by first | (rw [hy127]; with_reducible exact H) | (have H2_ := (Option.bind_some _ _).symm.trans H; rw [hy127]; with_reducible exact H2_) | (have H2_ := (Option.bind_some _ _).symm.trans H; with_reducible exact H2_) | with_reducible exact H | (rw [hy127]; exact H) | exact H
                  have Ny127 := Aside0.mk hy127
                  clear hy127
                  have H' := Aside0.mk H
                  clear H
                  have hcz15_0 : wc.cell? ⟨gb126, 0, none⟩ = some (.int .i64 ((rd_T28 l2 x8_1).f0)) := (blk_cell BK126.out 0).trans rfl
                  have hcz15_1 : wc.cell? ⟨gb126, 1, none⟩ = some (.int .i64 ((rd_T28 l2 x8_1).f1)) := (blk_cell BK126.out 1).trans rfl
                  have hcz15_2 : wc.cell? ⟨gb126, 2, none⟩ = some (.int .i64 ((rd_T28 l2 x8_1).f2)) := (blk_cell BK126.out 2).trans rfl
                  have hcz15_3 : wc.cell? ⟨gb126, 3, none⟩ = some (.bool ((rd_T28 l2 x8_1).f3)) := (blk_cell BK126.out 3).trans rfl
                  have hfz15_0 := blk_frozen BK126.out 0
                  have hfz15_1 := blk_frozen BK126.out 1
                  have hfz15_2 := blk_frozen BK126.out 2
                  have hfz15_3 := blk_frozen BK126.out 3
                  go_wp2_with (first | ((with_reducible refine gate_builtin (b := .append) (xs := #[(.tmp 28), (.tmp 32)]) rfl ?_); at_builtin; refine Kd.R_append k35 (w0 := w) w.heap.size rfl (.tmp 28) (.tmp 32) 29 35 (.agg #[(.int .i64 0), (.int .i64 0), (.bool false)]) 24 rfl Try.underlying29 info35 rfl (by decide) (by omega) u7 x7_1 (⟨((rd_T28 l2 x8_1).f0), 0, true⟩ : S35) [.int .i64 ((rd_T28 l2 x8_1).f0), .int .i64 0, .bool true] (fun _ => True) (fun _ => False) rfl rfl ?aP (fun _ hk => hk.elim) ?aF ?aO ?aB ?aS ?aL ?_; (case aP => exact k35_mkM _ _ _ (⟨((rd_T28 l2 x8_1).f0), 0, true⟩ : S35)); (case aB => exact (by repeat (first | (with_reducible first | exact HB.out | apply below_alloc | apply pw_below_drewN | apply below_drew1 | refine below_set ?_ GE126.out) | exact HB.out))); (case aF => exact (fun _ _ => trivial)); (case aO => exact (by (with_reducible repeat (first | apply Kd.R_alloc | apply Kd.R_drewN | apply Kd.R_drew)); exact HO_7.out)); (case aS => exact (below_size (by repeat (first | (with_reducible first | exact HB.out | apply below_alloc | apply pw_below_drewN | apply below_drew1 | refine below_set ?_ GE126.out) | exact HB.out)))); (case aL => have := LMc14.out; omega); intro v128 w16 ho hb hg hat; rw [← Ny127.out] at ho; have n0_ := Aside0.mk (blk_grown (g := gb126) (o := .cells #[.int .i64 ((rd_T28 l2 x8_1).f0), .int .i64 ((rd_T28 l2 x8_1).f1), .int .i64 ((rd_T28 l2 x8_1).f2), .bool ((rd_T28 l2 x8_1).f3)] 28 (0, 0)) (by (with_reducible repeat (first | refine blk_drewN ?_ _ | refine blk_drew ?_ | refine blk_alloc ?_ _)); exact BK126.out) hg (Kd.R_ne HO_7.out BK126.out (by decide))); have n1_ := Aside0.mk (hb); have n2_ := Aside0.mk (ho); clear BK126; clear HB; clear HO_7; have BK126 := n0_; have HB := n1_; have HO129 := n2_; clear n0_ n1_ n2_; clear ho hb hg hat))
                  go_roundg kj5
                  case measure => have := HK1.out; have := HJ5.out; omega
                  case rel => exact ⟨(x0_1), (y127), (wrap64 (x8_1 + 1)), (by first | rfl | (simp; done) | (simp [*]; done)), (by first | rfl | (simp; done) | (simp [*]; done)), H', ⟨by have := HK1.out; have := HJ5.out; omega⟩, ⟨by (with_reducible repeat (first | apply Kd.R_alloc | apply Kd.R_drewN | apply Kd.R_drew)); exact HO129.out⟩, ⟨by repeat (first | (with_reducible first | exact HB.out | apply below_alloc | apply pw_below_drewN | apply below_drew1 | refine below_set ?_ GE126.out) | exact HB.out)⟩⟩
                · rw [if_neg c14] at H
                  exact absurd H (by simp)
              · replace c13 := Bool.eq_false_iff.mpr c13
                subst c13
                have H1 : (bywashref1_Plan.l1 kj5 x0_1 a1 l2 x7_1 x8_1 ((rd_T28 l2 x8_1).f0) ((rd_T28 l2 x8_1).f1) ((rd_T28 l2 x8_1).f2) ((rd_T28 l2 x8_1).f3)) = some r := by rw [if_neg (show ¬ (false = true) by decide)] at H; exact H
                clear H
                have H := H1
                clear H1
                have H' := Aside0.mk H
                clear H
                go_wp2
                go_loopg [0, 7] kj5 (fun kq v0 v7 w' => ∃ (x0_3 : Int) (x7_3 : List (S35)) (x127001_3 : Int) (x127002_3 : Int), v0 = .int .i64 x0_3 ∧ Aside0 (bywashref1_Plan.l1 kq x0_3 a1 l2 x7_3 x8_1 ((rd_T28 l2 x8_1).f0) x127001_3 x127002_3 ((rd_T28 l2 x8_1).f3) = some r) ∧ Aside0 (kq ≤ kj5) ∧ Aside0 (Kd.R k35 35 w' w.heap.size (fun _ => True) v7 x7_3) ∧ Aside0 (w'.heap[gb126]? = some (.cells #[.int .i64 ((rd_T28 l2 x8_1).f0), .int .i64 x127001_3, .int .i64 x127002_3, .bool ((rd_T28 l2 x8_1).f3)] 28 (0, 0))) ∧ Aside0 (Below w.heap.size w w'))
                case atStart => exact ⟨(x0_1), (x7_1), (((rd_T28 l2 x8_1).f1)), (((rd_T28 l2 x8_1).f2)), (by first | rfl | (simp; done) | (simp [*]; done)), H', ⟨Nat.le_refl _⟩, ⟨by (with_reducible repeat (first | apply Kd.R_alloc | apply Kd.R_drewN | apply Kd.R_drew)); exact HO_7.out⟩, ⟨by (with_reducible repeat (first | refine blk_drewN ?_ _ | refine blk_drew ?_ | refine blk_alloc ?_ _)); exact BK126.out⟩, ⟨by repeat (first | (with_reducible first | exact HB.out | apply below_alloc | apply pw_below_drewN | apply below_drew1 | refine below_set ?_ GE126.out) | exact HB.out)⟩⟩
                case round =>
                  clear H'
                  try clear c1
                  try clear p1
                  try clear q1
                  try clear hx1
                  try clear c2
                  try clear p2
                  try clear c4
                  try clear c4b0
                  try clear c5
                  try clear c5b0
                  try clear p6
                  try clear c9
                  try clear q9
                  try clear c10
                  try clear p12
                  try clear q12
                  try clear hx12
                  try clear c13
                  try clear c14
                  try clear hcz11_0
                  try clear hcz11_1
                  try clear hcz11_2
                  try clear hcz11_3
                  try clear hcz12_0
                  try clear hcz12_1
                  try clear hcz12_2
                  try clear hcz12_3
                  try clear hcz15_0
                  try clear hcz15_1
                  try clear hcz15_2
                  try clear hcz15_3
                  try clear hcz8_0
                  try clear hcz8_1
                  try clear hcz8_2
                  try clear hcz8_3
                  try clear hfz11_0
                  try clear hfz11_1
                  try clear hfz11_2
                  try clear hfz11_3
                  try clear hfz12_0
                  try clear hfz12_1
                  try clear hfz12_2
                  try clear hfz12_3
                  try clear hfz15_0
                  try clear hfz15_1
                  try clear hfz15_2
                  try clear hfz15_3
                  try clear hfz8_0
                  try clear hfz8_1
                  try clear hfz8_2
                  try clear hfz8_3
                  try clear hx125_0
                  try clear hx125_1
                  try clear hx125_2
                  try clear hx125_3
                  try clear p1
                  try clear p12
                  try clear p125
                  try clear p2
                  try clear q1
                  try clear q12
                  try clear q125
                  try clear q9
                  obtain ⟨x0_3, x7_3, x127001_3, x127002_3, rfl, HA, HK3, HO_7, BK126, HB⟩ := hrel
                  cases gk with
                  | zero => exact absurd HA.out (by simp [bywashref1_Plan.l1])
                  | succ k3 =>
                    have H := HA.out
                    clear HA
                    simp only [bywashref1_Plan.l1] at H
                    obtain ⟨ji17, hji17⟩ : ∃ j_ : Int, (mn x127002_3 x127001_3) = j_ := ⟨_, rfl⟩
                    replace H : (if (mn (mn (ji17) x0_3) a1) ≤ 0 then (bywashref1_Plan.l0 k3 x0_3 a1 l2 x7_3 (wrap64 (x8_1 + 1))) else (if ((rd_T28 l2 x8_1).f3) = true then (if x7_3.length < 5864062014805 then (bywashref1_Plan.l1 k3 (wrap64 (x0_3 - (mn (mn (ji17) x0_3) a1))) a1 l2 (x7_3 ++ [(⟨((rd_T28 l2 x8_1).f0), mn (mn (ji17) x0_3) a1, ((wrap64 (x127002_3 - (mn (mn (ji17) x0_3) a1))) == 0)⟩ : S35)]) x8_1 ((rd_T28 l2 x8_1).f0) (wrap64 (x127001_3 - (mn (mn (ji17) x0_3) a1))) (wrap64 (x127002_3 - (mn (mn (ji17) x0_3) a1))) ((rd_T28 l2 x8_1).f3)) else (none)) else (if x7_3.length < 5864062014805 then (bywashref1_Plan.l1 k3 (wrap64 (x0_3 - (mn (mn (ji17) x0_3) a1))) a1 l2 (x7_3 ++ [(⟨((rd_T28 l2 x8_1).f0), mn (mn (ji17) x0_3) a1, false⟩ : S35)]) x8_1 ((rd_T28 l2 x8_1).f0) (wrap64 (x127001_3 - (mn (mn (ji17) x0_3) a1))) (wrap64 (x127002_3 - (mn (mn (ji17) x0_3) a1))) ((rd_T28 l2 x8_1).f3)) else (none)))) = some r := by first | (rw [hji17] at H; exact H) | (simp only [hji17] at H ⊢; exact H)
                    have hji17_ : (if x127001_3 < x127002_3 then x127001_3 else x127002_3) = ji17 := hji17
                    obtain ⟨ji18, hji18⟩ : ∃ j_ : Int, (mn (ji17) x0_3) = j_ := ⟨_, rfl⟩
                    replace H : (if (mn (ji18) a1) ≤ 0 then (bywashref1_Plan.l0 k3 x0_3 a1 l2 x7_3 (wrap64 (x8_1 + 1))) else (if ((rd_T28 l2 x8_1).f3) = true then (if x7_3.length < 5864062014805 then (bywashref1_Plan.l1 k3 (wrap64 (x0_3 - (mn (ji18) a1))) a1 l2 (x7_3 ++ [(⟨((rd_T28 l2 x8_1).f0), mn (ji18) a1, ((wrap64 (x127002_3 - (mn (ji18) a1))) == 0)⟩ : S35)]) x8_1 ((rd_T28 l2 x8_1).f0) (wrap64 (x127001_3 - (mn (ji18) a1))) (wrap64 (x127002_3 - (mn (ji18) a1))) ((rd_T28 l2 x8_1).f3)) else (none)) else (if x7_3.length < 5864062014805 then (bywashref1_Plan.l1 k3 (wrap64 (x0_3 - (mn (ji18) a1))) a1 l2 (x7_3 ++ [(⟨((rd_T28 l2 x8_1).f0), mn (ji18) a1, false⟩ : S35)]) x8_1 ((rd_T28 l2 x8_1).f0) (wrap64 (x127001_3 - (mn (ji18) a1))) (wrap64 (x127002_3 - (mn (ji18) a1))) ((rd_T28 l2 x8_1).f3)) else (none)))) = some r := by first | (rw [hji18] at H; exact H) | (simp only [hji18] at H ⊢; exact H)
                    have hji18_ : (if x0_3 < (ji17) then x0_3 else (ji17)) = ji18 := hji18
                    obtain ⟨ji19, hji19⟩ : ∃ j_ : Int, (mn (ji18) a1) = j_ := ⟨_, rfl⟩
                    replace H : (if (ji19) ≤ 0 then (bywashref1_Plan.l0 k3 x0_3 a1 l2 x7_3 (wrap64 (x8_1 + 1))) else (if ((rd_T28 l2 x8_1).f3) = true then (if x7_3.length < 5864062014805 then (bywashref1_Plan.l1 k3 (wrap64 (x0_3 - (ji19))) a1 l2 (x7_3 ++ [(⟨((rd_T28 l2 x8_1).f0), ji19, ((wrap64 (x127002_3 - (ji19))) == 0)⟩ : S35)]) x8_1 ((rd_T28 l2 x8_1).f0) (wrap64 (x127001_3 - (ji19))) (wrap64 (x127002_3 - (ji19))) ((rd_T28 l2 x8_1).f3)) else (none)) else (if x7_3.length < 5864062014805 then (bywashref1_Plan.l1 k3 (wrap64 (x0_3 - (ji19))) a1 l2 (x7_3 ++ [(⟨((rd_T28 l2 x8_1).f0), ji19, false⟩ : S35)]) x8_1 ((rd_T28 l2 x8_1).f0) (wrap64 (x127001_3 - (ji19))) (wrap64 (x127002_3 - (ji19))) ((rd_T28 l2 x8_1).f3)) else (none)))) = some r := by first | (rw [hji19] at H; exact H) | (simp only [hji19] at H ⊢; exact H)
                    have hji19_ : (if a1 < (ji18) then a1 else (ji18)) = ji19 := hji19
                    by_cases c20 : (ji19) ≤ 0
                    · rw [if_pos c20] at H
                      have c20b0 : decide ((ji19) ≤ 0) = true := decide_eq_true c20
                      clear c20
                      have H' := Aside0.mk H
                      clear H
                      have hcz21_0 : wr.cell? ⟨gb126, 0, none⟩ = some (.int .i64 ((rd_T28 l2 x8_1).f0)) := (blk_cell BK126.out 0).trans rfl
                      have hcz21_1 : wr.cell? ⟨gb126, 1, none⟩ = some (.int .i64 x127001_3) := (blk_cell BK126.out 1).trans rfl
                      have hcz21_2 : wr.cell? ⟨gb126, 2, none⟩ = some (.int .i64 x127002_3) := (blk_cell BK126.out 2).trans rfl
                      have hcz21_3 : wr.cell? ⟨gb126, 3, none⟩ = some (.bool ((rd_T28 l2 x8_1).f3)) := (blk_cell BK126.out 3).trans rfl
                      have hfz21_0 := blk_frozen BK126.out 0
                      have hfz21_1 := blk_frozen BK126.out 1
                      have hfz21_2 := blk_frozen BK126.out 2
                      have hfz21_3 := blk_frozen BK126.out 3
                      go_wp2
                      go_roundg k3
                      case measure => have := HK1.out; have := HJ5.out; have := HK3.out; omega
                      case rel => exact ⟨(x0_3), (x7_3), (wrap64 (x8_1 + 1)), (by first | rfl | (simp; done) | (simp [*]; done)), (by first | rfl | (simp; done) | (simp [*]; done)), H', ⟨by have := HK1.out; have := HJ5.out; have := HK3.out; omega⟩, ⟨by (with_reducible repeat (first | apply Kd.R_alloc | apply Kd.R_drewN | apply Kd.R_drew)); exact HO_7.out⟩, ⟨by repeat (first | (with_reducible first | exact HB.out | apply below_alloc | apply pw_below_drewN | apply below_drew1 | refine below_set ?_ GE126.out) | exact HB.out)⟩⟩
                    · rw [if_neg c20] at H
                      have c20b0 : decide ((ji19) ≤ 0) = false := decide_eq_false c20
                      clear c20
                      by_cases c22 : ((rd_T28 l2 x8_1).f3) = true
                      · rw [if_pos c22] at H
                        have c22b0 : ((rd_T28 l2 x8_1).f3) = true := c22
                        clear c22
                        by_cases c23 : x7_3.length < 5864062014805
                        · rw [if_pos c23] at H
                          have LMc23 := Aside0.mk c23
                          clear c23
                          obtain ⟨y130, hy130⟩ : ∃ y_ : List (S35), y_ = (x7_3 ++ [(⟨((rd_T28 l2 x8_1).f0), ji19, ((wrap64 (x127002_3 - (ji19))) == 0)⟩ : S35)]) := ⟨_, rfl⟩
                          replace H : (bywashref1_Plan.l1 k3 (wrap64 (x0_3 - (ji19))) a1 l2 y130 x8_1 ((rd_T28 l2 x8_1).f0) (wrap64 (x127001_3 - (ji19))) (wrap64 (x127002_3 - (ji19))) ((rd_T28 l2 x8_1).f3)) = some r := by first | (rw [hy130]; with_reducible exact H) | (have H2_ := (Option.bind_some _ _).symm.trans H; rw [hy130]; with_reducible exact H2_) | (have H2_ := (Option.bind_some _ _).symm.trans H; with_reducible exact H2_) | with_reducible exact H | (rw [hy130]; exact H) | exact H
                          have Ny130 := Aside0.mk hy130
                          clear hy130
                          have H' := Aside0.mk H
                          clear H
                          have hcz24_0 : wr.cell? ⟨gb126, 0, none⟩ = some (.int .i64 ((rd_T28 l2 x8_1).f0)) := (blk_cell BK126.out 0).trans rfl
                          have hcz24_1 : wr.cell? ⟨gb126, 1, none⟩ = some (.int .i64 x127001_3) := (blk_cell BK126.out 1).trans rfl
                          have hcz24_2 : wr.cell? ⟨gb126, 2, none⟩ = some (.int .i64 x127002_3) := (blk_cell BK126.out 2).trans rfl
                          have hcz24_3 : wr.cell? ⟨gb126, 3, none⟩ = some (.bool ((rd_T28 l2 x8_1).f3)) := (blk_cell BK126.out 3).trans rfl
                          have hfz24_0 := blk_frozen BK126.out 0
                          have hfz24_1 := blk_frozen BK126.out 1
                          have hfz24_2 := blk_frozen BK126.out 2
                          have hfz24_3 := blk_frozen BK126.out 3
                          go_wp2_with (first | ((with_reducible refine gate_builtin (b := .append) (xs := #[(.tmp 56), (.tmp 68)]) rfl ?_); at_builtin; refine Kd.R_append k35 (w0 := w) w.heap.size rfl (.tmp 56) (.tmp 68) 29 35 (.agg #[(.int .i64 0), (.int .i64 0), (.bool false)]) 24 rfl Try.underlying29 info35 rfl (by decide) (by omega) u7 x7_3 (⟨((rd_T28 l2 x8_1).f0), ji19, ((wrap64 (x127002_3 - (ji19))) == 0)⟩ : S35) [.int .i64 ((rd_T28 l2 x8_1).f0), .int .i64 ji19, .bool ((wrap64 (x127002_3 - (ji19))) == 0)] (fun _ => True) (fun _ => False) rfl (by first | (go_simp; done) | (go_simp; rfl)) ?aP (fun _ hk => hk.elim) ?aF ?aO ?aB ?aS ?aL ?_; (case aP => exact k35_mkM _ _ _ (⟨((rd_T28 l2 x8_1).f0), ji19, ((wrap64 (x127002_3 - (ji19))) == 0)⟩ : S35)); (case aB => exact (by repeat (first | (with_reducible first | exact HB.out | apply below_alloc | apply pw_below_drewN | apply below_drew1 | refine below_set ?_ GE126.out) | exact HB.out))); (case aF => exact (fun _ _ => trivial)); (case aO => exact (by (with_reducible repeat (first | apply Kd.R_alloc | apply Kd.R_drewN | apply Kd.R_drew)); exact Kd.R_mono (Kd.R_far (p := ⟨gb126, 1, none⟩) (Kd.R_far (p := ⟨gb126, 2, none⟩) (Kd.R_types HO_7.out BK126.out (by decide)) (fun _ hk => hk.2) (.int .i64 (wrap64 (x127002_3 - (ji19))))) (fun _ hk => hk.2) (.int .i64 (wrap64 (x127001_3 - (ji19))))) (fun _ hk => trivial))); (case aS => exact (below_size (by repeat (first | (with_reducible first | exact HB.out | apply below_alloc | apply pw_below_drewN | apply below_drew1 | refine below_set ?_ GE126.out) | exact HB.out)))); (case aL => have := LMc23.out; omega); intro v131 w25 ho hb hg hat; rw [← Ny130.out] at ho; have n0_ := Aside0.mk (blk_grown (g := gb126) (o := .cells #[.int .i64 ((rd_T28 l2 x8_1).f0), .int .i64 (wrap64 (x127001_3 - (ji19))), .int .i64 (wrap64 (x127002_3 - (ji19))), .bool ((rd_T28 l2 x8_1).f3)] 28 (0, 0)) (by (with_reducible repeat (first | refine blk_drewN ?_ _ | refine blk_drew ?_ | refine blk_alloc ?_ _)); refine blk_put (cs := #[.int .i64 ((rd_T28 l2 x8_1).f0), .int .i64 x127001_3, .int .i64 (wrap64 (x127002_3 - (ji19))), .bool ((rd_T28 l2 x8_1).f3)]) ?_ 1 _ rfl; (with_reducible repeat (first | refine blk_drewN ?_ _ | refine blk_drew ?_ | refine blk_alloc ?_ _)); refine blk_put (cs := #[.int .i64 ((rd_T28 l2 x8_1).f0), .int .i64 x127001_3, .int .i64 x127002_3, .bool ((rd_T28 l2 x8_1).f3)]) ?_ 2 _ rfl; (with_reducible repeat (first | refine blk_drewN ?_ _ | refine blk_drew ?_ | refine blk_alloc ?_ _)); exact BK126.out) hg (Kd.R_ne HO_7.out BK126.out (by decide))); have n1_ := Aside0.mk (hb); have n2_ := Aside0.mk (ho); clear BK126; clear HB; clear HO_7; have BK126 := n0_; have HB := n1_; have HO132 := n2_; clear n0_ n1_ n2_; clear ho hb hg hat))
                          go_roundg k3
                          case measure => have := HK1.out; have := HJ5.out; have := HK3.out; omega
                          case rel => exact ⟨(wrap64 (x0_3 - (ji19))), (y130), (wrap64 (x127001_3 - (ji19))), (wrap64 (x127002_3 - (ji19))), (by first | rfl | (simp; done) | (simp only [← hji19] <;> (first | rfl | simp)) | (simp [*]; done)), H', ⟨by have := HK1.out; have := HJ5.out; have := HK3.out; omega⟩, ⟨by (with_reducible repeat (first | apply Kd.R_alloc | apply Kd.R_drewN | apply Kd.R_drew)); exact HO132.out⟩, ⟨by (with_reducible repeat (first | refine blk_drewN ?_ _ | refine blk_drew ?_ | refine blk_alloc ?_ _)); exact BK126.out⟩, ⟨by repeat (first | (with_reducible first | exact HB.out | apply below_alloc | apply pw_below_drewN | apply below_drew1 | refine below_set ?_ GE126.out) | exact HB.out)⟩⟩
                        · rw [if_neg c23] at H
                          exact absurd H (by simp)
                      · rw [if_neg c22] at H
                        have c22b0 : ((rd_T28 l2 x8_1).f3) = false := by simpa using c22
                        clear c22
                        by_cases c26 : x7_3.length < 5864062014805
                        · rw [if_pos c26] at H
                          have LMc26 := Aside0.mk c26
                          clear c26
                          obtain ⟨y133, hy133⟩ : ∃ y_ : List (S35), y_ = (x7_3 ++ [(⟨((rd_T28 l2 x8_1).f0), ji19, false⟩ : S35)]) := ⟨_, rfl⟩
                          replace H : (bywashref1_Plan.l1 k3 (wrap64 (x0_3 - (ji19))) a1 l2 y133 x8_1 ((rd_T28 l2 x8_1).f0) (wrap64 (x127001_3 - (ji19))) (wrap64 (x127002_3 - (ji19))) ((rd_T28 l2 x8_1).f3)) = some r := by first | (rw [hy133]; with_reducible exact H) | (have H2_ := (Option.bind_some _ _).symm.trans H; rw [hy133]; with_reducible exact H2_) | (have H2_ := (Option.bind_some _ _).symm.trans H; with_reducible exact H2_) | with_reducible exact H | (rw [hy133]; exact H) | exact H
                          have Ny133 := Aside0.mk hy133
                          clear hy133
                          have H' := Aside0.mk H
                          clear H
                          have hcz27_0 : wr.cell? ⟨gb126, 0, none⟩ = some (.int .i64 ((rd_T28 l2 x8_1).f0)) := (blk_cell BK126.out 0).trans rfl
                          have hcz27_1 : wr.cell? ⟨gb126, 1, none⟩ = some (.int .i64 x127001_3) := (blk_cell BK126.out 1).trans rfl
                          have hcz27_2 : wr.cell? ⟨gb126, 2, none⟩ = some (.int .i64 x127002_3) := (blk_cell BK126.out 2).trans rfl
                          have hcz27_3 : wr.cell? ⟨gb126, 3, none⟩ = some (.bool ((rd_T28 l2 x8_1).f3)) := (blk_cell BK126.out 3).trans rfl
                          have hfz27_0 := blk_frozen BK126.out 0
                          have hfz27_1 := blk_frozen BK126.out 1
                          have hfz27_2 := blk_frozen BK126.out 2
                          have hfz27_3 := blk_frozen BK126.out 3
                          go_wp2_with (first | ((with_reducible refine gate_builtin (b := .append) (xs := #[(.tmp 56), (.tmp 68)]) rfl ?_); at_builtin; refine Kd.R_append k35 (w0 := w) w.heap.size rfl (.tmp 56) (.tmp 68) 29 35 (.agg #[(.int .i64 0), (.int .i64 0), (.bool false)]) 24 rfl Try.underlying29 info35 rfl (by decide) (by omega) u7 x7_3 (⟨((rd_T28 l2 x8_1).f0), ji19, false⟩ : S35) [.int .i64 ((rd_T28 l2 x8_1).f0), .int .i64 ji19, .bool false] (fun _ => True) (fun _ => False) rfl (by first | (go_simp; done) | (go_simp; rfl)) ?aP (fun _ hk => hk.elim) ?aF ?aO ?aB ?aS ?aL ?_; (case aP => exact k35_mkM _ _ _ (⟨((rd_T28 l2 x8_1).f0), ji19, false⟩ : S35)); (case aB => exact (by repeat (first | (with_reducible first | exact HB.out | apply below_alloc | apply pw_below_drewN | apply below_drew1 | refine below_set ?_ GE126.out) | exact HB.out))); (case aF => exact (fun _ _ => trivial)); (case aO => exact (by (with_reducible repeat (first | apply Kd.R_alloc | apply Kd.R_drewN | apply Kd.R_drew)); exact Kd.R_mono (Kd.R_far (p := ⟨gb126, 1, none⟩) (Kd.R_far (p := ⟨gb126, 2, none⟩) (Kd.R_types HO_7.out BK126.out (by decide)) (fun _ hk => hk.2) (.int .i64 (wrap64 (x127002_3 - (ji19))))) (fun _ hk => hk.2) (.int .i64 (wrap64 (x127001_3 - (ji19))))) (fun _ hk => trivial))); (case aS => exact (below_size (by repeat (first | (with_reducible first | exact HB.out | apply below_alloc | apply pw_below_drewN | apply below_drew1 | refine below_set ?_ GE126.out) | exact HB.out)))); (case aL => have := LMc26.out; omega); intro v134 w28 ho hb hg hat; rw [← Ny133.out] at ho; have n0_ := Aside0.mk (blk_grown (g := gb126) (o := .cells #[.int .i64 ((rd_T28 l2 x8_1).f0), .int .i64 (wrap64 (x127001_3 - (ji19))), .int .i64 (wrap64 (x127002_3 - (ji19))), .bool ((rd_T28 l2 x8_1).f3)] 28 (0, 0)) (by (with_reducible repeat (first | refine blk_drewN ?_ _ | refine blk_drew ?_ | refine blk_alloc ?_ _)); refine blk_put (cs := #[.int .i64 ((rd_T28 l2 x8_1).f0), .int .i64 x127001_3, .int .i64 (wrap64 (x127002_3 - (ji19))), .bool ((rd_T28 l2 x8_1).f3)]) ?_ 1 _ rfl; (with_reducible repeat (first | refine blk_drewN ?_ _ | refine blk_drew ?_ | refine blk_alloc ?_ _)); refine blk_put (cs := #[.int .i64 ((rd_T28 l2 x8_1).f0), .int .i64 x127001_3, .int .i64 x127002_3, .bool ((rd_T28 l2 x8_1).f3)]) ?_ 2 _ rfl; (with_reducible repeat (first | refine blk_drewN ?_ _ | refine blk_drew ?_ | refine blk_alloc ?_ _)); exact BK126.out) hg (Kd.R_ne HO_7.out BK126.out (by decide))); have n1_ := Aside0.mk (hb); have n2_ := Aside0.mk (ho); clear BK126; clear HB; clear HO_7; have BK126 := n0_; have HB := n1_; have HO135 := n2_; clear n0_ n1_ n2_; clear ho hb hg hat))
                          go_roundg k3
                          case measure => have := HK1.out; have := HJ5.out; have := HK3.out; omega
                          case rel => exact ⟨(wrap64 (x0_3 - (ji19))), (y133), (wrap64 (x127001_3 - (ji19))), (wrap64 (x127002_3 - (ji19))), (by first | rfl | (simp; done) | (simp only [← hji19] <;> (first | rfl | simp)) | (simp [*]; done)), H', ⟨by have := HK1.out; have := HJ5.out; have := HK3.out; omega⟩, ⟨by (with_reducible repeat (first | apply Kd.R_alloc | apply Kd.R_drewN | apply Kd.R_drew)); exact HO135.out⟩, ⟨by (with_reducible repeat (first | refine blk_drewN ?_ _ | refine blk_drew ?_ | refine blk_alloc ?_ _)); exact BK126.out⟩, ⟨by repeat (first | (with_reducible first | exact HB.out | apply below_alloc | apply pw_below_drewN | apply below_drew1 | refine below_set ?_ GE126.out) | exact HB.out)⟩⟩
                        · rw [if_neg c26] at H
                          exact absurd H (by simp)
        · rw [if_neg c5] at H
          exact absurd H (by simp)
      · rw [if_neg c4] at H
        have c4b0 : decide (x8_1 < (l2.length : Int)) = false := decide_eq_false c4
        clear c4
        obtain rfl := Option.some.inj H
        go_wp2
        go_ret
        exact ⟨_, by first | rfl | (simp [errW_none, errW_some] <;> rfl) | (simp [*, errW_none, errW_some] <;> rfl), by (with_reducible repeat (first | apply Kd.R_alloc | apply Kd.R_drewN | apply Kd.R_drew)); exact HO_7.out, by repeat (first | (with_reducible first | exact HB.out | apply below_alloc | apply pw_below_drewN | apply below_drew1) | exact HB.out)⟩

end Go.Proofs.Ytndchendimbfnaa.PPumpTells
