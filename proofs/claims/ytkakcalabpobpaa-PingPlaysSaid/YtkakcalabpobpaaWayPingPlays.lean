/- Whatever ticks go by, whichever answers come: each ping, whether the other side is gone; also where there is nothing that pings, since a number is less than one. Conditions: those of the statement itself. -/
import Derived.Test.YtkakcalabpobpaaPurePingPlays
namespace Go.Proofs.Ytkakcalabpobpaa.WayPingPlays
open Go.RowKit Go.Proofs.YtkakcalabpobpaaW.PrintWords Go.Proofs.YtkakcalabpobpaaW.PrintLast Go.Proofs.YtkakcalabpobpaaW.PrintMore Go.Proofs.Ytkakcalabpobpaa.PPingPlays
attribute [local go_sem] max2_int min2_int max_two min_two max_three min_three max_four min_four
set_option linter.unusedVariables false
set_option linter.unusedSimpArgs false
set_option maxHeartbeats 800000
theorem waits_nil (w : World) : Calls Try.prog 12 #[.pointer none] w fun e w' => e = .returned (.bool false) ∧ ∃ n, w' = w.drewN n := by
  go_enter Try.func12, Try.ntmps12
  go_wp2
  (try go_quiet (fail))
  (try go_wp2)
  go_ret
  first | exact ⟨rfl, 0, rfl⟩ | exact ⟨rfl, _, rfl⟩
theorem sent_nil (w : World) : Calls Try.prog 13 #[.pointer none] w fun e w' => e = .returned (.int .i64 0) ∧ ∃ n, w' = w.drewN n := by
  go_enter Try.func13, Try.ntmps13
  go_wp2
  go_ret
  first | exact ⟨rfl, 0, rfl⟩ | exact ⟨rfl, _, rfl⟩
theorem tick_nil (w : World) : Calls Try.prog 10 #[.pointer none] w fun e w' => e = .returned (.tuple #[.string ⟨#[]⟩, .bool false]) ∧ ∃ n, w' = w.drewN n := by
  go_enter Try.func10, Try.ntmps10
  go_wp2
  go_ret2
  first | exact ⟨rfl, 0, rfl⟩ | exact ⟨rfl, _, rfl⟩
theorem got_nil (w : World) (s : ByteArray) : Calls Try.prog 11 #[.pointer none, .string s] w fun e w' => e = .returned (.bool false) ∧ ∃ n, w' = w.drewN n := by
  go_enter Try.func11, Try.ntmps11
  go_wp2_with ((go_at_call 12; refine (waits_nil _).mono ?_; rintro e w' ⟨rfl, n, rfl⟩))
  (try go_quiet ((go_at_call 12; exact Calls.quiet_of (waits_nil _))))
  (try go_wp2)
  go_ret
  first | exact ⟨rfl, 0, rfl⟩ | exact ⟨rfl, _, rfl⟩ | exact ⟨rfl, _, by simp only [World.drewN_drewN]; rfl⟩
theorem new_nil (w : World) (a b : Int) (h : a < 1 ∨ b < 1) : Calls Try.prog 9 #[.int .i64 a, .int .i64 b] w fun e w' => e = .returned (.pointer none) ∧ ∃ n, w' = w.drewN n := by
  by_cases ha : a < 1
  · have hb : decide (a < 1) = true := decide_eq_true ha
    clear h ha
    go_enter Try.func9, Try.ntmps9
    go_wp2
    (try go_quiet (fail))
    (try go_wp2)
    go_ret
    first | exact ⟨rfl, 0, rfl⟩ | exact ⟨rfl, _, rfl⟩
  · have hb : decide (a < 1) = false := decide_eq_false ha
    have hb2 : decide (b < 1) = true := decide_eq_true (h.resolve_left ha)
    clear h ha
    go_enter Try.func9, Try.ntmps9
    go_wp2
    (try go_quiet (fail))
    (try go_wp2)
    go_ret
    first | exact ⟨rfl, 0, rfl⟩ | exact ⟨rfl, _, rfl⟩
theorem law_nil (w : World) (a0 a1 : Int) (h : a0 < 1 ∨ a1 < 1) (A1 : Option Addr) (c1 len : Nat) (hl : len ≤ 300) (k : Nat) (halive : bywashlaw17_alive.f k = some true) :
    Calls Try.prog 3 #[.int .i64 a0, .int .i64 a1, .slice A1 len c1] w fun e w' => e = .returned (.bool true) ∧ Below w.heap.size w w' := by
  have hlb : decide (300 < len) = false := decide_eq_false (by omega)
  have hlb2 : decide ((300 : Int) < (len : Int)) = false := decide_eq_false (by omega)
  have HH := Aside0.mk h
  have HL := Aside0.mk hl
  have HA := Aside0.mk halive
  clear hl halive
  by_cases ha : a0 < 1
  · have hb : decide (a0 < 1) = true := decide_eq_true ha
    clear h ha
    go_enter Try.func3, Try.ntmps3
    go_wp2_with (first | (go_at_call 8; refine (bywashlaw17_alive.calls k true _ HA.out).mono ?_; rintro e w1 ⟨rfl, hbel⟩; have HB := Aside0.mk hbel; clear hbel) | (go_at_call 9; refine (new_nil _ _ _ HH.out).mono ?_; rintro e w2 ⟨rfl, n, rfl⟩) | (go_at_call 10; refine (tick_nil _).mono ?_; rintro e w2 ⟨rfl, n, rfl⟩) | (go_at_call 11; refine (got_nil _ _).mono ?_; rintro e w2 ⟨rfl, n, rfl⟩) | (go_at_call 12; refine (waits_nil _).mono ?_; rintro e w2 ⟨rfl, n, rfl⟩) | (go_at_call 13; refine (sent_nil _).mono ?_; rintro e w2 ⟨rfl, n, rfl⟩))
    go_ret
    exact ⟨rfl, by repeat (first | exact HB.out | apply pw_below_drewN | apply below_drew1)⟩
  · have hb : decide (a0 < 1) = false := decide_eq_false ha
    have hb2 : decide (a1 < 1) = true := decide_eq_true (h.resolve_left ha)
    clear h ha
    go_enter Try.func3, Try.ntmps3
    go_wp2_with (first | (go_at_call 8; refine (bywashlaw17_alive.calls k true _ HA.out).mono ?_; rintro e w1 ⟨rfl, hbel⟩; have HB := Aside0.mk hbel; clear hbel) | (go_at_call 9; refine (new_nil _ _ _ HH.out).mono ?_; rintro e w2 ⟨rfl, n, rfl⟩) | (go_at_call 10; refine (tick_nil _).mono ?_; rintro e w2 ⟨rfl, n, rfl⟩) | (go_at_call 11; refine (got_nil _ _).mono ?_; rintro e w2 ⟨rfl, n, rfl⟩) | (go_at_call 12; refine (waits_nil _).mono ?_; rintro e w2 ⟨rfl, n, rfl⟩) | (go_at_call 13; refine (sent_nil _).mono ?_; rintro e w2 ⟨rfl, n, rfl⟩))
    go_ret
    exact ⟨rfl, by repeat (first | exact HB.out | apply pw_below_drewN | apply below_drew1)⟩
theorem way (W : World) (a0 : Int) (hG0 : (Lit.int .i64 a0).wf = true) (a1 : Int) (hG1 : (Lit.int .i64 a1).wf = true) (A2 : Option Addr) (c2 : Nat) (l2 : List S34) (hr2 : Kd.C k34 W A2 l2.length l2) (hc2 : l2.length ≤ c2) (hG2 : l2.length ≤ maxLen ∧ l2.length * 24 ≤ 140737488351232 ∧ ∀ x ∈ l2, StaPingPlays.G34 x) :
    Calls Try.prog 3 #[.int .i64 a0, .int .i64 a1, .slice A2 l2.length c2] W fun e w' => e = .returned (.bool true) ∧ Below W.heap.size W w' := by
  by_cases h : l2.length > 300 ∨ 1 ≤ a0 ∧ 1 ≤ a1
  · obtain ⟨k, hk⟩ := Pure.PingPlays_some a0 a1 l2 h
    exact bywashlaw17_PingPlays.calls (w := W) (r := true) (h := hk) (hr2 := hr2) (hc2 := hc2)
  · obtain ⟨k, hk⟩ := Pure.alive_some
    exact law_nil W a0 a1 (by omega) A2 c2 l2.length (by omega) k hk
end Go.Proofs.Ytkakcalabpobpaa.WayPingPlays
