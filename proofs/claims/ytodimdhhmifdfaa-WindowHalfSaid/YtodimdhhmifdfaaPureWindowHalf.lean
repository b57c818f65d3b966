/- Nothing is told till half a window is owed; then all of it. Conditions: those of the statement itself. -/
import Derived.Test.YtodimdhhmifdfaaPWindowHalfx0
import Derived.Test.YtodimdhhmifdfaaPWindowHalfx1
import Derived.Test.YtodimdhhmifdfaaAid
namespace Go.Proofs.Ytodimdhhmifdfaa.Pure
open Go.RowKit Go.Proofs.YtodimdhhmifdfaaW.PrintWords Go.Proofs.YtodimdhhmifdfaaW.PrintLast Go.Proofs.YtodimdhhmifdfaaW.PrintMore Go.Proofs.Ytodimdhhmifdfaa.Aid Go.Proofs.Ytodimdhhmifdfaa.PWindowHalf
set_option linter.unusedVariables false
set_option linter.unusedSimpArgs false

theorem new_ok (s : Int) (h : 0 ≤ s) (h' : s ≤ 2147483647) : window_New.f s = some (s, s, 0, true) := by
  unfold window_New.f; rw [if_neg (by omega), if_neg (by omega)]
theorem new_no (s : Int) (h : s < 0 ∨ 2147483647 < s) : window_New.f s = some (0, 0, 0, false) := by
  unfold window_New.f
  by_cases h0 : s < 0
  · rw [if_pos h0]
  · rw [if_neg h0, if_pos (by omega)]
theorem take_ok (a b c n : Int) (h : 0 ≤ n) (h' : n ≤ a) (ha : a ≤ 9223372036854775807) : window_Take.f a b c n = some (a - n, b, c, true) := by
  unfold window_Take.f; rw [if_neg (by omega), if_neg (by omega), wid (by omega) (by omega)]
theorem take_no (a b c n : Int) (h : n < 0 ∨ a < n) : window_Take.f a b c n = some (a, b, c, false) := by
  unfold window_Take.f
  by_cases h0 : n < 0
  · rw [if_pos h0]
  · rw [if_neg h0, if_pos (by omega)]

theorem alive_ok : bywashlaw12_alive.f = some true := by
  simp [bywashlaw12_alive.f, window_New.f, window_Spend.f, window_Take.f, window_Credit.f, wrap64, mx]

theorem half_l0 (s n : Int) (hs : 1 ≤ s) (hs' : s ≤ 10000) (hn : 1 ≤ n) (hn' : n ≤ 1000) (d : Nat) : ∀ o : Int, 0 ≤ o → o ≤ s → s - o ≤ d → Ev (fun k => bywashlaw12_WindowHalf.l0 k s n o 0 s o) true := by
  induction d with
  | zero =>
    intro o h0 h1 hd
    refine Ev.step (fun k => bywashlaw12_WindowHalf.l0.eq_2 ..) ?_
    rw [wid (x := o + n) (by omega) (by omega)]
    exact Ev_neg (by omega) (Ev_some rfl)
  | succ d ih =>
    intro o h0 h1 hd
    refine Ev.step (fun k => bywashlaw12_WindowHalf.l0.eq_2 ..) ?_
    rw [wid (x := o + n) (by omega) (by omega)]
    refine Ev_ite (fun h => ?_) (fun _ => Ev_some rfl)
    have e0 : mx n 0 = n := by rw [mx_eq]; omega
    have ec : window_Credit.f 0 s o n = if o + n < mx (wrap64 (Int.tdiv s 2)) 1 then some (0, s, o + n, 0) else some (o + n, s, 0, o + n) := by
      unfold window_Credit.f
      rw [e0, wid (x := o + n) (by omega) (by omega), Int.zero_add, wid (x := o + n) (by omega) (by omega)]
    by_cases hc : o + n < mx (wrap64 (Int.tdiv s 2)) 1
    · rw [if_pos hc] at ec
      refine Ev_bind0 ec (Ev_neg (by omega) (Ev_pos rfl (Ev_pos rfl (Ev_pos rfl ?_))))
      exact ih (o + n) (by omega) (by omega) (by omega)
    · rw [if_neg hc] at ec
      refine Ev_bind0 ec (Ev_pos (by omega) (Ev_pos rfl (Ev_pos rfl (Ev_some ?_))))
      rw [Int.zero_add, wid (by omega) (by omega)]
      simp
theorem WindowHalf : bywashlaw12_WindowHalf.Pure := by
  intro s n _ _
  have j0_true : Ev (fun k => bywashlaw12_WindowHalf.j0 k s n true) true := by
    refine Ev.step (fun k => bywashlaw12_WindowHalf.j0.eq_2 ..) ?_
    exact Ev_pos rfl (Ev_bind0 alive_ok (Ev_some rfl))
  refine Ev.rounds ?_
  unfold bywashlaw12_WindowHalf.f
  refine Ev_ite (fun _ => j0_true) fun h1 => ?_
  refine Ev_ite (fun _ => j0_true) fun h2 => ?_
  refine Ev_ite (fun _ => j0_true) fun h3 => ?_
  refine Ev_ite (fun _ => j0_true) fun h4 => ?_
  refine Ev_bind0 alive_ok ?_
  refine Ev.step (fun k => bywashlaw12_WindowHalf.j0.eq_2 ..) ?_
  refine Ev_neg (by simp) (Ev_bind0 (new_ok s (by omega) (by omega)) (Ev_pos rfl ?_))
  have e : window_Spend.f s s 0 s = some (0, s, 0, true) := by
    unfold window_Spend.f; rw [take_ok s s 0 s (by omega) (by omega) (by omega)]; simp
  refine Ev_bind0 e ?_
  exact half_l0 s n (by omega) (by omega) (by omega) (by omega) s.toNat 0 (by omega) (by omega) (by omega)

end Go.Proofs.Ytodimdhhmifdfaa.Pure
