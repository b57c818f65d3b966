/- Whatever is put into a buffer, taken out of it, or ended, in every order: each answer; also where there is no buffer, since it would hold less than one byte. Conditions: those of the statement itself. -/
import Derived.Test.YtofjbbbajnohaaaPureBufferPlays
namespace Go.Proofs.Ytofjbbbajnohaaa.WayBufferPlays
open Go.RowKit Go.Proofs.YtofjbbbajnohaaaW.PrintWords Go.Proofs.YtofjbbbajnohaaaW.PrintLast Go.Proofs.YtofjbbbajnohaaaW.PrintMore Go.Proofs.Ytofjbbbajnohaaa.PBufferPlays
attribute [local go_sem] max2_int min2_int max_two min_two max_three min_three max_four min_four
set_option linter.unusedVariables false
set_option linter.unusedSimpArgs false
def Quietly (w : World) (v : Value) (e : Ending) (w' : World) : Prop := e = .returned v ∧ ∃ n, w' = w.drewN n
set_option maxHeartbeats 800000
theorem ended_nil (w : World) : Calls Try.prog 14 #[.pointer none] w fun e w' => e = .returned (.bool true) ∧ ∃ n, w' = w.drewN n := by
  go_enter Try.func14, Try.ntmps14
  go_wp2
  go_ret
  first | exact ⟨rfl, 0, rfl⟩ | exact ⟨rfl, _, rfl⟩
theorem len_nil (w : World) : Calls Try.prog 11 #[.pointer none] w fun e w' => e = .returned (.int .i64 0) ∧ ∃ n, w' = w.drewN n := by
  go_enter Try.func11, Try.ntmps11
  go_wp2
  go_ret
  first | exact ⟨rfl, 0, rfl⟩ | exact ⟨rfl, _, rfl⟩
theorem put_nil (w : World) (s : ByteArray) : Calls Try.prog 9 #[.pointer none, .string s] w fun e w' => e = .returned (.bool false) ∧ ∃ n, w' = w.drewN n := by
  go_enter Try.func9, Try.ntmps9
  go_wp2
  go_quiet ((go_at_call 14; exact Calls.quiet_of (ended_nil _)))
  go_wp2
  go_ret
  first | exact ⟨rfl, 0, rfl⟩ | exact ⟨rfl, _, rfl⟩
theorem end_nil (w : World) : Calls Try.prog 12 #[.pointer none] w fun e w' => e = .returned (.bool false) ∧ ∃ n, w' = w.drewN n := by
  go_enter Try.func12, Try.ntmps12
  go_wp2_with ((go_at_call 14; refine (ended_nil _).mono ?_; rintro e w' ⟨rfl, n, rfl⟩))
  go_ret
  first | exact ⟨rfl, 0, rfl⟩ | exact ⟨rfl, _, rfl⟩
theorem get_nil (w : World) (m : Int) (hm : m = 0 ∨ m = 1) : Calls Try.prog 10 #[.pointer none, .int .i64 m] w fun e w' => e = .returned (.string ⟨#[]⟩) ∧ ∃ n, w' = w.drewN n := by
  rcases hm with rfl | rfl
  all_goals
    go_enter Try.func10, Try.ntmps10
    go_wp2_with ((go_at_call 11; refine (len_nil _).mono ?_; rintro e w' ⟨rfl, n, rfl⟩))
    (try go_quiet ((go_at_call 11; exact Calls.quiet_of (len_nil _))))
    (try go_wp2)
    go_ret
    first | exact ⟨rfl, 0, rfl⟩ | exact ⟨rfl, _, rfl⟩
theorem done_nil (w : World) : Calls Try.prog 15 #[.pointer none] w fun e w' => e = .returned (.bool true) ∧ ∃ n, w' = w.drewN n := by
  go_enter Try.func15, Try.ntmps15
  go_wp2_with (first | (go_at_call 14; refine (ended_nil _).mono ?_; rintro e w' ⟨rfl, n, rfl⟩) | (go_at_call 11; refine (len_nil _).mono ?_; rintro e w' ⟨rfl, n, rfl⟩))
  go_ret
  first | exact ⟨rfl, 0, rfl⟩ | exact ⟨rfl, _, rfl⟩ | exact ⟨rfl, _, by simp only [World.drewN_drewN]; rfl⟩
theorem drop_nil (w : World) : Calls Try.prog 13 #[.pointer none] w fun e w' => e = .returned (.int .i64 0) ∧ ∃ n, w' = w.drewN n := by
  go_enter Try.func13, Try.ntmps13
  go_wp2_with (first | (go_at_call 11; refine (len_nil _).mono ?_; rintro e w' ⟨rfl, n, rfl⟩) | (go_at_call 10; refine (get_nil _ _ (.inl rfl)).mono ?_; rintro e w' ⟨rfl, n, rfl⟩) | (go_at_call 12; refine (end_nil _).mono ?_; rintro e w' ⟨rfl, n, rfl⟩))
  go_ret
  first | exact ⟨rfl, 0, rfl⟩ | exact ⟨rfl, _, rfl⟩ | exact ⟨rfl, _, by simp only [World.drewN_drewN]; rfl⟩
theorem new_nil (w : World) (m : Int) (h : m < 1) : Calls Try.prog 8 #[.int .i64 m] w fun e w' => e = .returned (.pointer none) ∧ ∃ n, w' = w.drewN n := by
  have hb : decide (m < 1) = true := decide_eq_true h
  clear h
  go_enter Try.func8, Try.ntmps8
  go_wp2
  go_ret
  first | exact ⟨rfl, 0, rfl⟩ | exact ⟨rfl, _, rfl⟩
theorem below_quiet {B : Nat} {w w1 : World} (h : Below B w w1) (n : Nat) : Below B w (w1.drewN n) := pw_below_drewN h n
theorem law_nil (w : World) (a0 : Int) (h : a0 < 1) (A1 : Option Addr) (c1 len : Nat) (hl : len ≤ 100) (halive : bywashlaw13_alive.f = some true) :
    Calls Try.prog 4 #[.int .i64 a0, .slice A1 len c1] w fun e w' => e = .returned (.bool true) ∧ Below w.heap.size w w' := by
  have hb : decide (a0 < 1) = true := decide_eq_true h
  have hlb : decide (100 < len) = false := decide_eq_false (by omega)
  have hlb2 : decide ((100 : Int) < (len : Int)) = false := decide_eq_false (by omega)
  have HH := Aside0.mk h
  have HL := Aside0.mk hl
  clear h hl
  have HA := Aside0.mk halive
  clear halive
  go_enter Try.func4, Try.ntmps4
  go_wp2_with (first | (go_at_call 7; refine (bywashlaw13_alive.calls true _ HA.out).mono ?_; rintro e w1 ⟨rfl, hbel⟩; have HB := Aside0.mk hbel; clear hbel) | (go_at_call 8; refine (new_nil _ _ HH.out).mono ?_; rintro e w2 ⟨rfl, n, rfl⟩) | (go_at_call 9; refine (put_nil _ _).mono ?_; rintro e w2 ⟨rfl, n, rfl⟩) | (go_at_call 12; refine (end_nil _).mono ?_; rintro e w2 ⟨rfl, n, rfl⟩) | (go_at_call 10; refine (get_nil _ _ (.inr rfl)).mono ?_; rintro e w2 ⟨rfl, n, rfl⟩) | (go_at_call 11; refine (len_nil _).mono ?_; rintro e w2 ⟨rfl, n, rfl⟩) | (go_at_call 13; refine (drop_nil _).mono ?_; rintro e w2 ⟨rfl, n, rfl⟩) | (go_at_call 14; refine (ended_nil _).mono ?_; rintro e w2 ⟨rfl, n, rfl⟩) | (go_at_call 15; refine (done_nil _).mono ?_; rintro e w2 ⟨rfl, n, rfl⟩))
  go_ret
  exact ⟨rfl, by repeat (first | exact HB.out | apply pw_below_drewN | apply below_drew1)⟩
theorem way (W : World) (a0 : Int) (hG0 : (Lit.int .i64 a0).wf = true) (A1 : Option Addr) (c1 : Nat) (l1 : List S33) (hr1 : Kd.C k33 W A1 l1.length l1) (hc1 : l1.length ≤ c1) (hG1 : l1.length ≤ maxLen ∧ l1.length * 32 ≤ 140737488351232 ∧ ∀ x ∈ l1, StaBufferPlays.G33 x) :
    Calls Try.prog 4 #[.int .i64 a0, .slice A1 l1.length c1] W fun e w' => e = .returned (.bool true) ∧ Below W.heap.size W w' := by
  by_cases h : l1.length > 100 ∨ 1 ≤ a0
  · obtain ⟨k, hk⟩ := Pure.BufferPlays_some a0 l1 hG0 h
    exact bywashlaw13_BufferPlays.calls (w := W) (r := true) (h := hk) (hr1 := hr1) (hc1 := hc1)
  · exact law_nil W a0 (by omega) A1 c1 l1.length (by omega) Pure.alive_ok
end Go.Proofs.Ytofjbbbajnohaaa.WayBufferPlays
