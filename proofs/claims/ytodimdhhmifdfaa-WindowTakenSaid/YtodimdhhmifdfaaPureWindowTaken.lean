/- What is taken and given back leaves a window as it was; more than is left is not taken. Conditions: those of the statement itself. -/
import Derived.Test.YtodimdhhmifdfaaPWindowTakenx0
import Derived.Test.YtodimdhhmifdfaaPWindowTakenx1
import Derived.Test.YtodimdhhmifdfaaPWindowTakenx2
import Derived.Test.YtodimdhhmifdfaaAid
namespace Go.Proofs.Ytodimdhhmifdfaa.Pure
open Go.RowKit Go.Proofs.YtodimdhhmifdfaaW.PrintWords Go.Proofs.YtodimdhhmifdfaaW.PrintLast Go.Proofs.YtodimdhhmifdfaaW.PrintMore Go.Proofs.Ytodimdhhmifdfaa.Aid Go.Proofs.Ytodimdhhmifdfaa.PWindowTaken
set_option linter.unusedVariables false
set_option linter.unusedSimpArgs false

theorem new_ok (s : Int) (h : 0 ≤ s) (h' : s ≤ 2147483647) : window_New.f s = some (s, s, 0, true) := by
  unfold window_New.f; rw [if_neg (by omega), if_neg (by omega)]
theorem new_no (s : Int) (h : s < 0 ∨ 2147483647 < s) : window_New.f s = some (0, 0, 0, false) := by
  unfold window_New.f
  by_cases h0 : s < 0
  · rw [if_pos h0]
  · rw [if_neg h0, if_pos (by omega)]
theorem take_ok (a b c n : Int) (h : 0 ≤ n) (h' : n ≤ a) (ha : a ≤ 9223372036854775807) : window_Take.f a b c n = some (a - n, b, c, true) := by
  unfold window_Take.f; rw [if_neg (by omega), if_neg (by omega), wid (by omega) (by omega)]
theorem take_no (a b c n : Int) (h : n < 0 ∨ a < n) : window_Take.f a b c n = some (a, b, c, false) := by
  unfold window_Take.f
  by_cases h0 : n < 0
  · rw [if_pos h0]
  · rw [if_neg h0, if_pos (by omega)]

theorem alive_ok : bywashlaw12_alive.f = some true := by
  simp [bywashlaw12_alive.f, window_New.f, window_Spend.f, window_Take.f, window_Credit.f, wrap64, mx]

theorem grow_ok (a b c n : Int) (h : 1 ≤ n) (h' : n ≤ 2147483647) (ha : a ≤ 2147483647 - n) (ha' : -2147483648 ≤ a) : window_Grow.f a b c n = some (a + n, b, c, true) := by
  unfold window_Grow.f; rw [if_neg (by omega), if_neg (by omega), wid (x := 2147483647 - n) (by omega) (by omega), if_neg (by omega), wid (by omega) (by omega)]
theorem WindowTaken : bywashlaw12_WindowTaken.Pure := by
  intro s n hs hn
  have hs := wf_range hs
  have hn := wf_range hn
  refine ⟨4, ?_⟩
  unfold bywashlaw12_WindowTaken.f
  by_cases hg : 0 ≤ s ∧ s ≤ 2147483647
  · rw [new_ok s hg.1 hg.2]
    simp only [Option.bind_some, if_true, alive_ok, Bool.not_true, bywashlaw12_WindowTaken.j0, Bool.false_eq_true, if_false]
    by_cases ht : 0 ≤ n ∧ n ≤ s
    · rw [take_ok s s 0 n ht.1 ht.2 (by omega)]
      simp only [Option.bind_some]
      rw [if_pos (by omega)]
      simp only [bywashlaw12_WindowTaken.j1]
      rw [if_neg (by simp [ht.2])]
      simp only [if_true, bywashlaw12_WindowTaken.j2]
      by_cases h0 : n = 0
      · subst h0
        rw [if_pos (by simp)]
        simp
      · rw [if_neg (by simp [h0]), grow_ok (s - n) s 0 n (by omega) (by omega) (by omega) (by omega), wid (x := s - n) (by omega) (by omega), wid (x := s - n + 1) (by omega) (by omega), take_no _ _ _ _ (.inr (by omega))]
        simp
    · rw [take_no s s 0 n (by omega)]
      simp only [Option.bind_some]
      by_cases h0 : n ≥ 0
      · rw [if_pos h0]
        simp only [bywashlaw12_WindowTaken.j1]
        rw [if_neg (by simp; omega)]
        simp [bywashlaw12_WindowTaken.j2]
      · rw [if_neg h0]
        simp [bywashlaw12_WindowTaken.j1, bywashlaw12_WindowTaken.j2]
  · rw [new_no s (by omega)]
    simp [bywashlaw12_WindowTaken.j0, alive_ok]

end Go.Proofs.Ytodimdhhmifdfaa.Pure
