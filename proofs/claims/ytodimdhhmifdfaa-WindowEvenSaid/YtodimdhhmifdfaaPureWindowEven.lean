/- What was received and is read at last is given back all: what is left and owed is what it was, but for what is not read. Conditions: those of the statement itself. -/
import Derived.Test.YtodimdhhmifdfaaPWindowEvenx0
import Derived.Test.YtodimdhhmifdfaaPWindowEvenx1
import Derived.Test.YtodimdhhmifdfaaPWindowEvenx2
import Derived.Test.YtodimdhhmifdfaaStaWindowEven
import Derived.Test.YtodimdhhmifdfaaAid
namespace Go.Proofs.Ytodimdhhmifdfaa.Pure
open Go.RowKit Go.Proofs.YtodimdhhmifdfaaW.PrintWords Go.Proofs.YtodimdhhmifdfaaW.PrintLast Go.Proofs.YtodimdhhmifdfaaW.PrintMore Go.Proofs.Ytodimdhhmifdfaa.Aid Go.Proofs.Ytodimdhhmifdfaa.PWindowEven Go.Proofs.Ytodimdhhmifdfaa.StaWindowEven
set_option linter.unusedVariables false
set_option linter.unusedSimpArgs false

theorem new_ok (s : Int) (h : 0 ≤ s) (h' : s ≤ 2147483647) : window_New.f s = some (s, s, 0, true) := by
  unfold window_New.f; rw [if_neg (by omega), if_neg (by omega)]
theorem new_no (s : Int) (h : s < 0 ∨ 2147483647 < s) : window_New.f s = some (0, 0, 0, false) := by
  unfold window_New.f
  by_cases h0 : s < 0
  · rw [if_pos h0]
  · rw [if_neg h0, if_pos (by omega)]
theorem take_ok (a b c n : Int) (h : 0 ≤ n) (h' : n ≤ a) (ha : a ≤ 9223372036854775807) : window_Take.f a b c n = some (a - n, b, c, true) := by
  unfold window_Take.f; rw [if_neg (by omega), if_neg (by omega), wid (by omega) (by omega)]
theorem take_no (a b c n : Int) (h : n < 0 ∨ a < n) : window_Take.f a b c n = some (a, b, c, false) := by
  unfold window_Take.f
  by_cases h0 : n < 0
  · rw [if_pos h0]
  · rw [if_neg h0, if_pos (by omega)]

theorem alive_ok : bywashlaw12_alive.f = some true := by
  simp [bywashlaw12_alive.f, window_New.f, window_Spend.f, window_Take.f, window_Credit.f, wrap64, mx]

theorem even_l0 (s : Int) (hs : 1 ≤ s) (hs' : s ≤ 65535) (l : List Int) (hlen : l.length ≤ 60) (d : Nat) :
    ∀ (i : Nat) (left owed unread : Int), l.length - i = d → 0 ≤ left → 0 ≤ owed → 0 ≤ unread → left + owed + unread = s → Ev (fun k => bywashlaw12_WindowEven.l0 k s unread l (l.length : Int) (i : Int) left s owed) true := by
  induction d with
  | zero =>
    intro i left owed unread hd _ _ _ _
    refine Ev.step (fun k => bywashlaw12_WindowEven.l0.eq_2 ..) ?_
    exact Ev_neg (by omega) (Ev_some rfl)
  | succ d ih =>
    intro i left owed unread hd h1 h2 h3 h4
    refine Ev.step (fun k => bywashlaw12_WindowEven.l0.eq_2 ..) ?_
    refine Ev_pos (by omega) (Ev_pos (by omega) (Ev_pos (by omega) ?_))
    have em : mn (mx (rd l (i : Int)) 0) 65535 = min (max (rd l (i : Int)) 0) 65535 := by rw [mn_eq, mx_eq]
    rw [em, wid (x := (i : Int) + 1) (by omega) (by omega)]
    have hn : 0 ≤ min (max (rd l (i : Int)) 0) 65535 ∧ min (max (rd l (i : Int)) 0) 65535 ≤ 65535 := by omega
    generalize min (max (rd l (i : Int)) 0) 65535 = n at *
    have next : ∀ left owed unread : Int, 0 ≤ left → 0 ≤ owed → 0 ≤ unread → left + owed + unread = s → Ev (fun k => bywashlaw12_WindowEven.l0 k s unread l (l.length : Int) ((i : Int) + 1) left s owed) true :=
      fun left owed unread a b c e => ih (i + 1) left owed unread (by omega) a b c e
    by_cases hp : Int.tmod (i : Int) 2 = 0
    · refine Ev_pos hp ?_
      by_cases hle : n ≤ left
      · have e : window_Spend.f left s owed n = some (left - n, s, owed, true) := by
          unfold window_Spend.f; rw [take_ok left s owed n (by omega) hle (by omega)]; simp
        refine Ev_bind0 e (Ev_pos rfl ?_)
        simp only
        rw [wid (x := left - n + owed) (by omega) (by omega), wid (x := unread + n) (by omega) (by omega), wid (by omega) (by omega)]
        exact Ev_pos (by omega) (Ev_neg (by omega) (next _ _ _ (by omega) (by omega) (by omega) (by omega)))
      · have e : window_Spend.f left s owed n = some (left, s, owed, false) := by
          unfold window_Spend.f; rw [take_no left s owed n (.inr (by omega))]; simp
        refine Ev_bind0 e (Ev_neg (by simp) (Ev_neg (by omega) ?_))
        rw [wid (x := left + owed) (by omega) (by omega), wid (by omega) (by omega)]
        exact Ev_pos (by omega) (Ev_neg (by omega) (next _ _ _ (by omega) (by omega) (by omega) (by omega)))
    · refine Ev_neg hp ?_
      have eu : mn n unread = min n unread := mn_eq _ _
      rw [eu]
      have hu : 0 ≤ min n unread ∧ min n unread ≤ unread := by omega
      generalize min n unread = u at *
      have e0 : mx u 0 = u := by rw [mx_eq]; omega
      have ec : window_Credit.f left s owed u = if owed + u < mx (wrap64 (Int.tdiv s 2)) 1 then some (left, s, owed + u, 0) else some (left + (owed + u), s, 0, owed + u) := by
        unfold window_Credit.f
        rw [e0, wid (x := owed + u) (by omega) (by omega), wid (x := left + (owed + u)) (by omega) (by omega)]
      have j2 : ∀ left owed : Int, 0 ≤ left → 0 ≤ owed → left + owed + (unread - u) = s → Ev (fun k => bywashlaw12_WindowEven.j2 k s (unread - u) l (l.length : Int) (i : Int) false left s owed) true := by
        intro left owed a b c
        refine Ev.step (fun k => bywashlaw12_WindowEven.j2.eq_2 ..) ?_
        rw [wid (x := left + owed) (by omega) (by omega), wid (by omega) (by omega), wid (x := (i : Int) + 1) (by omega) (by omega)]
        exact Ev_neg (by simp) (Ev_pos (by omega) (Ev_neg (by omega) (next _ _ _ a b (by omega) c)))
      by_cases hc : owed + u < mx (wrap64 (Int.tdiv s 2)) 1
      · rw [if_pos hc] at ec
        refine Ev_bind0 ec ?_
        simp only
        rw [wid (x := left - left) (by omega) (by omega), wid (x := unread - u) (by omega) (by omega)]
        exact Ev_pos (by omega) (Ev_neg (by omega) (j2 _ _ (by omega) (by omega) (by omega)))
      · rw [if_neg hc] at ec
        refine Ev_bind0 ec ?_
        simp only
        rw [wid (x := left + (owed + u) - left) (by omega) (by omega), wid (x := unread - u) (by omega) (by omega)]
        refine Ev_pos (by omega) (Ev_ite (fun _ => ?_) (fun _ => j2 _ _ (by omega) (by omega) (by omega)))
        exact j2 _ _ (by omega) (by omega) (by omega)
theorem WindowEven : StaWindowEven.Pure := by
  intro s l _ ⟨_, hl, _⟩
  have j0_true : Ev (fun k => bywashlaw12_WindowEven.j0 k s l true) true := by
    refine Ev.step (fun k => bywashlaw12_WindowEven.j0.eq_2 ..) ?_
    exact Ev_pos rfl (Ev_bind0 alive_ok (Ev_some rfl))
  refine Ev.rounds ?_
  unfold bywashlaw12_WindowEven.f
  refine Ev_ite (fun _ => j0_true) fun h1 => ?_
  refine Ev_ite (fun _ => j0_true) fun h2 => ?_
  refine Ev_ite (fun _ => j0_true) fun h3 => ?_
  refine Ev_bind0 alive_ok ?_
  refine Ev.step (fun k => bywashlaw12_WindowEven.j0.eq_2 ..) ?_
  refine Ev_neg (by simp) (Ev_bind0 (new_ok s (by omega) (by omega)) (Ev_pos rfl ?_))
  exact even_l0 s (by omega) (by omega) l (by omega) l.length 0 s 0 0 (by omega) (by omega) (by omega) (by omega) (by omega)

end Go.Proofs.Ytodimdhhmifdfaa.Pure
