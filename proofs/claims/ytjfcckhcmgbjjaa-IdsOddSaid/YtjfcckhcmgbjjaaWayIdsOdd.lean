/- Numbers that are even, or beyond, are none; a first one that is none makes none: also where there are no numbers, since the first one is none. Conditions: those of the statement itself. -/
import Derived.Test.YtjfcckhcmgbjjaaPureIdsOdd
namespace Go.Proofs.Ytjfcckhcmgbjjaa.WayIdsOdd
open Go.RowKit Go.Proofs.YtjfcckhcmgbjjaaW.PrintWords Go.Proofs.YtjfcckhcmgbjjaaW.PrintLast Go.Proofs.YtjfcckhcmgbjjaaW.PrintMore Go.Proofs.Ytjfcckhcmgbjjaa.PIdsOdd
set_option linter.unusedVariables false
set_option linter.unusedSimpArgs false
set_option maxHeartbeats 800000
theorem new_nil (w : World) (a : Int) (h : ¬ (1 ≤ a ∧ a ≤ 2147483647 ∧ ¬ Int.tmod a 2 = 0)) : Calls Try.prog 7 #[.int .i64 a] w fun e w' => e = .returned (.pointer none) ∧ ∃ n, w' = w.drewN n := by
  by_cases h1 : a < 1
  · have hb : decide (a < 1) = true := decide_eq_true h1
    clear h h1
    go_enter Try.func7, Try.ntmps7
    go_wp2
    (repeat (go_quiet (fail); try go_wp2))
    go_ret
    first | exact ⟨rfl, 0, rfl⟩ | exact ⟨rfl, _, rfl⟩
  · have hb : decide (a < 1) = false := decide_eq_false h1
    by_cases h2 : 2147483647 < a
    · have hb2 : decide (2147483647 < a) = true := decide_eq_true h2
      clear h h1 h2
      go_enter Try.func7, Try.ntmps7
      go_wp2
      (repeat (go_quiet (fail); try go_wp2))
      go_ret
      first | exact ⟨rfl, 0, rfl⟩ | exact ⟨rfl, _, rfl⟩
    · have hb2 : decide (2147483647 < a) = false := decide_eq_false h2
      have h3 : Int.tmod a 2 = 0 := by
        by_cases h3 : Int.tmod a 2 = 0
        · exact h3
        · exact absurd ⟨by omega, by omega, h3⟩ h
      have hb3 : (Int.tmod a 2 == 0) = true := beq_iff_eq.2 h3
      have hb4 : (a % 2 == 0) = true := by rw [← Int.tmod_eq_emod_of_nonneg (by omega)]; exact hb3
      clear h h1 h2 h3
      go_enter Try.func7, Try.ntmps7
      go_wp2
      (repeat (go_quiet (fail); try go_wp2))
      go_ret
      first | exact ⟨rfl, 0, rfl⟩ | exact ⟨rfl, _, rfl⟩
theorem law_nil (w : World) (a0 a1 : Int) (h : ¬ (1 ≤ a0 ∧ a0 ≤ 2147483647 ∧ ¬ Int.tmod a0 2 = 0)) (k : Nat) (halive : bywashlaw18_alive.f k = some true) :
    Calls Try.prog 5 #[.int .i64 a0, .int .i64 a1] w fun e w' => e = .returned (.bool true) ∧ Below w.heap.size w w' := by
  have HH := Aside0.mk h
  have HA := Aside0.mk halive
  clear halive
  by_cases h1 : 1 ≤ a0
  · have hb : decide (1 ≤ a0) = true := decide_eq_true h1
    by_cases h2 : a0 ≤ 2147483647
    · have hb2 : decide (a0 ≤ 2147483647) = true := decide_eq_true h2
      have h3 : Int.tmod a0 2 = 0 := by
        by_cases h3 : Int.tmod a0 2 = 0
        · exact h3
        · exact absurd ⟨by omega, by omega, h3⟩ h
      have hb3 : (Int.tmod a0 2 == 0) = true := beq_iff_eq.2 h3
      have hb3' : (Int.tmod a0 2 != 0) = false := bne_eq_false_iff_eq.2 h3
      have hb4 : (a0 % 2 == 0) = true := by rw [← Int.tmod_eq_emod_of_nonneg (by omega)]; exact hb3
      have hb4' : (a0 % 2 != 0) = false := by rw [← Int.tmod_eq_emod_of_nonneg (by omega)]; exact hb3'
      clear h h1 h2 h3
      go_enter Try.func5, Try.ntmps5
      go_wp2_with (first | (go_at_call 6; refine (bywashlaw18_alive.calls k true _ HA.out).mono ?_; rintro e w1 ⟨rfl, hbel⟩; have HB := Aside0.mk hbel; clear hbel) | (go_at_call 7; refine (new_nil _ _ HH.out).mono ?_; rintro e w2 ⟨rfl, n, rfl⟩))
      (repeat (go_quiet (fail); try go_wp2))
      go_ret
      exact ⟨rfl, by repeat (first | exact HB.out | apply pw_below_drewN | apply below_drew1)⟩
    · have hb2 : decide (a0 ≤ 2147483647) = false := decide_eq_false h2
      clear h h1 h2
      go_enter Try.func5, Try.ntmps5
      go_wp2_with (first | (go_at_call 6; refine (bywashlaw18_alive.calls k true _ HA.out).mono ?_; rintro e w1 ⟨rfl, hbel⟩; have HB := Aside0.mk hbel; clear hbel) | (go_at_call 7; refine (new_nil _ _ HH.out).mono ?_; rintro e w2 ⟨rfl, n, rfl⟩))
      (repeat (go_quiet (fail); try go_wp2))
      go_ret
      exact ⟨rfl, by repeat (first | exact HB.out | apply pw_below_drewN | apply below_drew1)⟩
  · have hb : decide (1 ≤ a0) = false := decide_eq_false h1
    clear h h1
    go_enter Try.func5, Try.ntmps5
    go_wp2_with (first | (go_at_call 6; refine (bywashlaw18_alive.calls k true _ HA.out).mono ?_; rintro e w1 ⟨rfl, hbel⟩; have HB := Aside0.mk hbel; clear hbel) | (go_at_call 7; refine (new_nil _ _ HH.out).mono ?_; rintro e w2 ⟨rfl, n, rfl⟩))
    (repeat (go_quiet (fail); try go_wp2))
    go_ret
    exact ⟨rfl, by repeat (first | exact HB.out | apply pw_below_drewN | apply below_drew1)⟩
theorem way (W : World) (a0 : Int) (hG0 : (Lit.int .i64 a0).wf = true) (a1 : Int) (hG1 : (Lit.int .i64 a1).wf = true) :
    Calls Try.prog 5 #[.int .i64 a0, .int .i64 a1] W fun e w' => e = .returned (.bool true) ∧ Below W.heap.size W w' := by
  by_cases h : 1 ≤ a0 ∧ a0 ≤ 2147483647 ∧ ¬ Int.tmod a0 2 = 0
  · obtain ⟨k, hk⟩ := Pure.IdsOdd_some a0 a1 h.1 h.2.1 h.2.2
    exact bywashlaw18_IdsOdd.calls (w := W) (r := true) (h := hk)
  · obtain ⟨k, hk⟩ := Ev.rounds Pure.alive_ev
    exact law_nil W a0 a1 h k hk
end Go.Proofs.Ytjfcckhcmgbjjaa.WayIdsOdd
