/- Made another size, and back, a window is as it was; what is left may be below nothing, and is taken only when it is not. Conditions: those of the statement itself. -/
import Derived.Test.YtodimdhhmifdfaaPWindowShiftsx0
import Derived.Test.YtodimdhhmifdfaaPWindowShiftsx1
import Derived.Test.YtodimdhhmifdfaaPWindowShiftsx2
import Derived.Test.YtodimdhhmifdfaaAid
namespace Go.Proofs.Ytodimdhhmifdfaa.Pure
open Go.RowKit Go.Proofs.YtodimdhhmifdfaaW.PrintWords Go.Proofs.YtodimdhhmifdfaaW.PrintLast Go.Proofs.YtodimdhhmifdfaaW.PrintMore Go.Proofs.Ytodimdhhmifdfaa.Aid Go.Proofs.Ytodimdhhmifdfaa.PWindowShifts
set_option linter.unusedVariables false
set_option linter.unusedSimpArgs false

theorem new_ok (s : Int) (h : 0 ≤ s) (h' : s ≤ 2147483647) : window_New.f s = some (s, s, 0, true) := by
  unfold window_New.f; rw [if_neg (by omega), if_neg (by omega)]
theorem new_no (s : Int) (h : s < 0 ∨ 2147483647 < s) : window_New.f s = some (0, 0, 0, false) := by
  unfold window_New.f
  by_cases h0 : s < 0
  · rw [if_pos h0]
  · rw [if_neg h0, if_pos (by omega)]
theorem take_ok (a b c n : Int) (h : 0 ≤ n) (h' : n ≤ a) (ha : a ≤ 9223372036854775807) : window_Take.f a b c n = some (a - n, b, c, true) := by
  unfold window_Take.f; rw [if_neg (by omega), if_neg (by omega), wid (by omega) (by omega)]
theorem take_no (a b c n : Int) (h : n < 0 ∨ a < n) : window_Take.f a b c n = some (a, b, c, false) := by
  unfold window_Take.f
  by_cases h0 : n < 0
  · rw [if_pos h0]
  · rw [if_neg h0, if_pos (by omega)]

theorem alive_ok : bywashlaw12_alive.f = some true := by
  simp [bywashlaw12_alive.f, window_New.f, window_Spend.f, window_Take.f, window_Credit.f, wrap64, mx]

theorem shift_ok (a b c n : Int) (h1 : 0 ≤ b + n) (h2 : b + n ≤ 2147483647) (h3 : a + n ≤ 2147483647) (h4 : -9223372036854775808 ≤ a + n) : window_Shift.f a b c n = some (a + n, b + n, c, true) := by
  unfold window_Shift.f; rw [wid (x := b + n) (by omega) (by omega), wid (x := a + n) (by omega) (by omega), if_neg (by omega), if_neg (by omega), if_neg (by omega)]
theorem WindowShifts : bywashlaw12_WindowShifts.Pure := by
  intro s o n hs ho hn
  have hs := wf_range hs
  have ho := wf_range ho
  have hn := wf_range hn
  refine ⟨4, ?_⟩
  unfold bywashlaw12_WindowShifts.f
  by_cases hg : 0 ≤ s ∧ s ≤ 2147483647
  · rw [new_ok s hg.1 hg.2]
    simp only [Option.bind_some, if_true]
    by_cases h1 : o < 0
    · simp [h1, bywashlaw12_WindowShifts.j0, alive_ok]
    by_cases h2 : o > 2147483647
    · simp [h1, h2, bywashlaw12_WindowShifts.j0, alive_ok]
    by_cases h3 : n < 0
    · simp [h1, h2, h3, bywashlaw12_WindowShifts.j0, alive_ok]
    by_cases h4 : n > s
    · simp [h1, h2, h3, h4, bywashlaw12_WindowShifts.j0, alive_ok]
    rw [if_neg h1, if_neg h2, if_neg h3, if_neg h4]
    simp only [Option.bind_some, alive_ok, Bool.not_true, bywashlaw12_WindowShifts.j0, Bool.false_eq_true, if_false]
    rw [take_ok s s 0 n (by omega) (by omega) (by omega)]
    simp only [Option.bind_some]
    rw [wid (x := o - s) (by omega) (by omega), wid (x := o - n) (by omega) (by omega), shift_ok (s - n) s 0 (o - s) (by omega) (by omega) (by omega) (by omega)]
    simp only [Option.bind_some, if_true]
    rw [if_pos (by omega)]
    simp only [bywashlaw12_WindowShifts.j1]
    rw [if_neg (by simp; omega), wid (x := s - o) (by omega) (by omega), shift_ok (s - n + (o - s)) (s + (o - s)) 0 (s - o) (by omega) (by omega) (by omega) (by omega)]
    simp only [Option.bind_some, if_true]
    rw [wid (x := o - n) (by omega) (by omega)]
    have e1 : s - n + (o - s) + (s - o) = s - n := by omega
    have e2 : s + (o - s) + (s - o) = s := by omega
    rw [e1, e2]
    by_cases h5 : o - n ≥ 1
    · rw [take_ok _ _ _ 1 (by omega) (by omega) (by omega)]
      simp [h5]
    · rw [take_no _ _ _ 1 (.inr (by omega))]
      simp [h5]
  · rw [new_no s (by omega)]
    simp [bywashlaw12_WindowShifts.j0, alive_ok]

end Go.Proofs.Ytodimdhhmifdfaa.Pure
