/- A window never goes above its end; by nothing it does not grow. Conditions: those of the statement itself. -/
import Derived.Test.YtodimdhhmifdfaaPWindowGrowsx0
import Derived.Test.YtodimdhhmifdfaaPWindowGrowsx1
import Derived.Test.YtodimdhhmifdfaaPWindowGrowsx2
import Derived.Test.YtodimdhhmifdfaaAid
namespace Go.Proofs.Ytodimdhhmifdfaa.Pure
open Go.RowKit Go.Proofs.YtodimdhhmifdfaaW.PrintWords Go.Proofs.YtodimdhhmifdfaaW.PrintLast Go.Proofs.YtodimdhhmifdfaaW.PrintMore Go.Proofs.Ytodimdhhmifdfaa.Aid Go.Proofs.Ytodimdhhmifdfaa.PWindowGrows
set_option linter.unusedVariables false
set_option linter.unusedSimpArgs false

theorem new_ok (s : Int) (h : 0 ≤ s) (h' : s ≤ 2147483647) : window_New.f s = some (s, s, 0, true) := by
  unfold window_New.f; rw [if_neg (by omega), if_neg (by omega)]
theorem new_no (s : Int) (h : s < 0 ∨ 2147483647 < s) : window_New.f s = some (0, 0, 0, false) := by
  unfold window_New.f
  by_cases h0 : s < 0
  · rw [if_pos h0]
  · rw [if_neg h0, if_pos (by omega)]
theorem take_ok (a b c n : Int) (h : 0 ≤ n) (h' : n ≤ a) (ha : a ≤ 9223372036854775807) : window_Take.f a b c n = some (a - n, b, c, true) := by
  unfold window_Take.f; rw [if_neg (by omega), if_neg (by omega), wid (by omega) (by omega)]
theorem take_no (a b c n : Int) (h : n < 0 ∨ a < n) : window_Take.f a b c n = some (a, b, c, false) := by
  unfold window_Take.f
  by_cases h0 : n < 0
  · rw [if_pos h0]
  · rw [if_neg h0, if_pos (by omega)]

theorem alive_ok : bywashlaw12_alive.f = some true := by
  simp [bywashlaw12_alive.f, window_New.f, window_Spend.f, window_Take.f, window_Credit.f, wrap64, mx]

theorem grow_ok (a b c n : Int) (h : 1 ≤ n) (h' : n ≤ 2147483647) (ha : a ≤ 2147483647 - n) (ha' : -2147483648 ≤ a) : window_Grow.f a b c n = some (a + n, b, c, true) := by
  unfold window_Grow.f; rw [if_neg (by omega), if_neg (by omega), wid (x := 2147483647 - n) (by omega) (by omega), if_neg (by omega), wid (by omega) (by omega)]
theorem grow_no (a b c n : Int) (h : n < 1 ∨ 2147483647 < n ∨ (1 ≤ n ∧ n ≤ 2147483647 ∧ 2147483647 - n < a)) : window_Grow.f a b c n = some (a, b, c, false) := by
  unfold window_Grow.f
  by_cases h0 : n < 1
  · rw [if_pos h0]
  · by_cases h1 : n > 2147483647
    · rw [if_neg h0, if_pos h1]
    · rw [if_neg h0, if_neg h1, wid (x := 2147483647 - n) (by omega) (by omega), if_pos (by omega)]
theorem WindowGrows : bywashlaw12_WindowGrows.Pure := by
  intro s n hs hn
  have hs := wf_range hs
  have hn := wf_range hn
  refine ⟨4, ?_⟩
  unfold bywashlaw12_WindowGrows.f
  by_cases hg : 0 ≤ s ∧ s ≤ 2147483647
  · rw [new_ok s hg.1 hg.2]
    simp only [Option.bind_some, if_true, alive_ok, Bool.not_true, bywashlaw12_WindowGrows.j0, Bool.false_eq_true, if_false]
    by_cases h1 : 1 ≤ n
    · by_cases h2 : n ≤ 2147483647
      · rw [wid (x := 2147483647 - n) (by omega) (by omega), wid (x := s + n) (by omega) (by omega)]
        by_cases h3 : s ≤ 2147483647 - n
        · rw [grow_ok s s 0 n h1 h2 h3 (by omega)]
          simp [h1, h2, h3]
        · rw [grow_no s s 0 n (by omega)]
          simp [h1, h2, h3]
      · rw [grow_no s s 0 n (by omega)]
        simp [h1, h2]
    · rw [grow_no s s 0 n (by omega)]
      simp [h1]
  · rw [new_no s (by omega)]
    simp [bywashlaw12_WindowGrows.j0, alive_ok]

end Go.Proofs.Ytodimdhhmifdfaa.Pure
