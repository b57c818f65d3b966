/- From whichever first one on: each next one, as long as there is one; of every number what it is: also where there are no numbers, since the first one is none. Conditions: those of the statement itself. -/
import Derived.Test.YtndchendimbfnaaPureIdsPlays
namespace Go.Proofs.Ytndchendimbfnaa.WayIdsPlays
open Go.RowKit Go.Proofs.YtndchendimbfnaaW.PrintWords Go.Proofs.YtndchendimbfnaaW.PrintLast Go.Proofs.YtndchendimbfnaaW.PrintMore Go.Proofs.Ytndchendimbfnaa.PIdsPlays
set_option linter.unusedVariables false
set_option linter.unusedSimpArgs false
set_option maxHeartbeats 800000
theorem new_nil (w : World) (a : Int) (h : ¬ (1 ≤ a ∧ a ≤ 2147483647 ∧ ¬ Int.tmod a 2 = 0)) : Calls Try.prog 13 #[.int .i64 a] w fun e w' => e = .returned (.pointer none) ∧ ∃ n, w' = w.drewN n := by
  by_cases h1 : a < 1
  · have hb : decide (a < 1) = true := decide_eq_true h1
    clear h h1
    go_enter Try.func13, Try.ntmps13
    go_wp2
    (repeat (go_quiet (fail); try go_wp2))
    go_ret
    first | exact ⟨rfl, 0, rfl⟩ | exact ⟨rfl, _, rfl⟩
  · have hb : decide (a < 1) = false := decide_eq_false h1
    by_cases h2 : 2147483647 < a
    · have hb2 : decide (2147483647 < a) = true := decide_eq_true h2
      clear h h1 h2
      go_enter Try.func13, Try.ntmps13
      go_wp2
      (repeat (go_quiet (fail); try go_wp2))
      go_ret
      first | exact ⟨rfl, 0, rfl⟩ | exact ⟨rfl, _, rfl⟩
    · have hb2 : decide (2147483647 < a) = false := decide_eq_false h2
      have h3 : Int.tmod a 2 = 0 := by
        by_cases h3 : Int.tmod a 2 = 0
        · exact h3
        · exact absurd ⟨by omega, by omega, h3⟩ h
      have hb3 : (Int.tmod a 2 == 0) = true := beq_iff_eq.2 h3
      have hb4 : (a % 2 == 0) = true := by rw [← Int.tmod_eq_emod_of_nonneg (by omega)]; exact hb3
      clear h h1 h2 h3
      go_enter Try.func13, Try.ntmps13
      go_wp2
      (repeat (go_quiet (fail); try go_wp2))
      go_ret
      first | exact ⟨rfl, 0, rfl⟩ | exact ⟨rfl, _, rfl⟩
theorem left_nil (w : World) : Calls Try.prog 15 #[.pointer none] w fun e w' => e = .returned (.bool false) ∧ ∃ n, w' = w.drewN n := by
  go_enter Try.func15, Try.ntmps15
  go_wp2
  (repeat (go_quiet (fail); try go_wp2))
  go_ret
  first | exact ⟨rfl, 0, rfl⟩ | exact ⟨rfl, _, rfl⟩
theorem next_nil (w : World) : Calls Try.prog 14 #[.pointer none] w fun e w' => e = .returned (.tuple #[.int .i64 0, .bool false]) ∧ ∃ n, w' = w.drewN n := by
  go_enter Try.func14, Try.ntmps14
  go_wp2_with ((go_at_call 15; refine (left_nil _).mono ?_; rintro e w' ⟨rfl, n, rfl⟩))
  (repeat (go_quiet ((go_at_call 15; exact Calls.quiet_of (left_nil _))); try go_wp2))
  go_ret2
  first | exact ⟨rfl, 0, rfl⟩ | exact ⟨rfl, _, rfl⟩
theorem kind_nil (w : World) : Calls Try.prog 16 #[.pointer none, .int .i64 1] w fun e w' => e = .returned (.int .i64 0) ∧ ∃ n, w' = w.drewN n := by
  go_enter Try.func16, Try.ntmps16
  go_wp2
  (repeat (go_quiet (fail); try go_wp2))
  go_ret
  first | exact ⟨rfl, 0, rfl⟩ | exact ⟨rfl, _, rfl⟩
theorem law_nil (w : World) (a0 a1 : Int) (A : Option Addr) (n c : Nat) (hg1 : 0 ≤ a1) (hg2 : a1 ≤ 300) (hg3 : n ≤ 60) (h : ¬ (1 ≤ a0 ∧ a0 ≤ 2147483647 ∧ ¬ Int.tmod a0 2 = 0)) (k : Nat) (halive : bywashlaw18_alive.f k = some true) :
    Calls Try.prog 4 #[.int .i64 a0, .int .i64 a1, .slice A n c] w fun e w' => e = .returned (.bool true) ∧ Below w.heap.size w w' := by
  have HH := Aside0.mk h
  have HA := Aside0.mk halive
  clear halive
  have g1 : decide (a1 < 0) = false := decide_eq_false (by omega)
  have g2 : decide (300 < a1) = false := decide_eq_false (by omega)
  have g3 : decide (60 < (n : Int)) = false := decide_eq_false (by omega)
  have g4 : decide (60 < n) = false := decide_eq_false (by omega)
  clear hg1 hg2 hg3
  by_cases h1 : a0 < 1
  · have hb : decide (a0 < 1) = true := decide_eq_true h1
    clear h h1
    go_enter Try.func4, Try.ntmps4
    go_wp2_with (first | (go_at_call 12; refine (bywashlaw18_alive.calls k true _ HA.out).mono ?_; rintro e w1 ⟨rfl, hbel⟩; have HB := Aside0.mk hbel; clear hbel) | (go_at_call 13; refine (new_nil _ _ HH.out).mono ?_; rintro e w2 ⟨rfl, n2, rfl⟩) | (go_at_call 14; refine (next_nil _).mono ?_; rintro e w3 ⟨rfl, n3, rfl⟩) | (go_at_call 15; refine (left_nil _).mono ?_; rintro e w4 ⟨rfl, n4, rfl⟩) | (go_at_call 16; refine (kind_nil _).mono ?_; rintro e w5 ⟨rfl, n5, rfl⟩))
    (repeat (go_quiet ((first | (go_at_call 15; exact Calls.quiet_of (left_nil _)) | (go_at_call 16; exact Calls.quiet_of (kind_nil _)) | (go_at_call 14; exact Calls.quiet_of (next_nil _)))); try go_wp2_with (first | (go_at_call 12; refine (bywashlaw18_alive.calls k true _ HA.out).mono ?_; rintro e w1 ⟨rfl, hbel⟩; have HB := Aside0.mk hbel; clear hbel) | (go_at_call 13; refine (new_nil _ _ HH.out).mono ?_; rintro e w2 ⟨rfl, n2, rfl⟩) | (go_at_call 14; refine (next_nil _).mono ?_; rintro e w3 ⟨rfl, n3, rfl⟩) | (go_at_call 15; refine (left_nil _).mono ?_; rintro e w4 ⟨rfl, n4, rfl⟩) | (go_at_call 16; refine (kind_nil _).mono ?_; rintro e w5 ⟨rfl, n5, rfl⟩))))
    go_ret
    exact ⟨rfl, by repeat (first | exact HB.out | apply pw_below_drewN | apply below_drew1)⟩
  · have hb : decide (a0 < 1) = false := decide_eq_false h1
    by_cases h2 : 2147483647 < a0
    · have hb2 : decide (2147483647 < a0) = true := decide_eq_true h2
      clear h h1 h2
      go_enter Try.func4, Try.ntmps4
      go_wp2_with (first | (go_at_call 12; refine (bywashlaw18_alive.calls k true _ HA.out).mono ?_; rintro e w1 ⟨rfl, hbel⟩; have HB := Aside0.mk hbel; clear hbel) | (go_at_call 13; refine (new_nil _ _ HH.out).mono ?_; rintro e w2 ⟨rfl, n2, rfl⟩) | (go_at_call 14; refine (next_nil _).mono ?_; rintro e w3 ⟨rfl, n3, rfl⟩) | (go_at_call 15; refine (left_nil _).mono ?_; rintro e w4 ⟨rfl, n4, rfl⟩) | (go_at_call 16; refine (kind_nil _).mono ?_; rintro e w5 ⟨rfl, n5, rfl⟩))
      (repeat (go_quiet ((first | (go_at_call 15; exact Calls.quiet_of (left_nil _)) | (go_at_call 16; exact Calls.quiet_of (kind_nil _)) | (go_at_call 14; exact Calls.quiet_of (next_nil _)))); try go_wp2_with (first | (go_at_call 12; refine (bywashlaw18_alive.calls k true _ HA.out).mono ?_; rintro e w1 ⟨rfl, hbel⟩; have HB := Aside0.mk hbel; clear hbel) | (go_at_call 13; refine (new_nil _ _ HH.out).mono ?_; rintro e w2 ⟨rfl, n2, rfl⟩) | (go_at_call 14; refine (next_nil _).mono ?_; rintro e w3 ⟨rfl, n3, rfl⟩) | (go_at_call 15; refine (left_nil _).mono ?_; rintro e w4 ⟨rfl, n4, rfl⟩) | (go_at_call 16; refine (kind_nil _).mono ?_; rintro e w5 ⟨rfl, n5, rfl⟩))))
      go_ret
      exact ⟨rfl, by repeat (first | exact HB.out | apply pw_below_drewN | apply below_drew1)⟩
    · have hb2 : decide (2147483647 < a0) = false := decide_eq_false h2
      have h3 : Int.tmod a0 2 = 0 := by
        by_cases h3 : Int.tmod a0 2 = 0
        · exact h3
        · exact absurd ⟨by omega, by omega, h3⟩ h
      have hb3 : (Int.tmod a0 2 == 0) = true := beq_iff_eq.2 h3
      have hb4 : (a0 % 2 == 0) = true := by rw [← Int.tmod_eq_emod_of_nonneg (by omega)]; exact hb3
      clear h h1 h2 h3
      go_enter Try.func4, Try.ntmps4
      go_wp2_with (first | (go_at_call 12; refine (bywashlaw18_alive.calls k true _ HA.out).mono ?_; rintro e w1 ⟨rfl, hbel⟩; have HB := Aside0.mk hbel; clear hbel) | (go_at_call 13; refine (new_nil _ _ HH.out).mono ?_; rintro e w2 ⟨rfl, n2, rfl⟩) | (go_at_call 14; refine (next_nil _).mono ?_; rintro e w3 ⟨rfl, n3, rfl⟩) | (go_at_call 15; refine (left_nil _).mono ?_; rintro e w4 ⟨rfl, n4, rfl⟩) | (go_at_call 16; refine (kind_nil _).mono ?_; rintro e w5 ⟨rfl, n5, rfl⟩))
      (repeat (go_quiet ((first | (go_at_call 15; exact Calls.quiet_of (left_nil _)) | (go_at_call 16; exact Calls.quiet_of (kind_nil _)) | (go_at_call 14; exact Calls.quiet_of (next_nil _)))); try go_wp2_with (first | (go_at_call 12; refine (bywashlaw18_alive.calls k true _ HA.out).mono ?_; rintro e w1 ⟨rfl, hbel⟩; have HB := Aside0.mk hbel; clear hbel) | (go_at_call 13; refine (new_nil _ _ HH.out).mono ?_; rintro e w2 ⟨rfl, n2, rfl⟩) | (go_at_call 14; refine (next_nil _).mono ?_; rintro e w3 ⟨rfl, n3, rfl⟩) | (go_at_call 15; refine (left_nil _).mono ?_; rintro e w4 ⟨rfl, n4, rfl⟩) | (go_at_call 16; refine (kind_nil _).mono ?_; rintro e w5 ⟨rfl, n5, rfl⟩))))
      go_ret
      exact ⟨rfl, by repeat (first | exact HB.out | apply pw_below_drewN | apply below_drew1)⟩
theorem way (W : World) (a0 : Int) (hG0 : (Lit.int .i64 a0).wf = true) (a1 : Int) (hG1 : (Lit.int .i64 a1).wf = true) (A2 : Option Addr) (c2 : Nat) (l2 : List Int) (hr2 : Kd.C (Kd.int .i64) W A2 l2.length l2) (hc2 : l2.length ≤ c2) (hG2 : l2.length ≤ maxLen ∧ l2.length * 8 ≤ 140737488351232 ∧ ∀ x ∈ l2, (Lit.int .i64 x).wf = true) :
    Calls Try.prog 4 #[.int .i64 a0, .int .i64 a1, .slice A2 l2.length c2] W fun e w' => e = .returned (.bool true) ∧ Below W.heap.size W w' := by
  by_cases ho : a1 < 0 ∨ 300 < a1 ∨ 60 < l2.length
  · obtain ⟨k, hk⟩ := Pure.IdsPlays_out a0 a1 l2 ho
    exact bywashlaw18_IdsPlays.calls (w := W) (r := true) (hr2 := hr2) (hc2 := hc2) (h := hk)
  · by_cases h : 1 ≤ a0 ∧ a0 ≤ 2147483647 ∧ ¬ Int.tmod a0 2 = 0
    · obtain ⟨k, hk⟩ := Pure.IdsPlays_some a0 a1 l2 h.1 h.2.1 h.2.2
      exact bywashlaw18_IdsPlays.calls (w := W) (r := true) (hr2 := hr2) (hc2 := hc2) (h := hk)
    · obtain ⟨k, hk⟩ := Ev.rounds Pure.alive_ev
      exact law_nil W a0 a1 A2 l2.length c2 (by omega) (by omega) (by omega) h k hk
end Go.Proofs.Ytndchendimbfnaa.WayIdsPlays
