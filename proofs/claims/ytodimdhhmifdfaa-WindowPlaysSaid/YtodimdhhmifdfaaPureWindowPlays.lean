/- Whatever is taken, added, shifted and given back, in every order: each answer, and what is left. Conditions: those of the statement itself. -/
import Derived.Test.YtodimdhhmifdfaaPWindowPlaysx0
import Derived.Test.YtodimdhhmifdfaaPWindowPlaysx1
import Derived.Test.YtodimdhhmifdfaaPWindowPlaysx2
import Derived.Test.YtodimdhhmifdfaaPWindowPlaysx3
import Derived.Test.YtodimdhhmifdfaaPWindowPlaysx4
import Derived.Test.YtodimdhhmifdfaaStaWindowPlays
import Derived.Test.YtodimdhhmifdfaaAid
namespace Go.Proofs.Ytodimdhhmifdfaa.Pure
open Go.RowKit Go.Proofs.YtodimdhhmifdfaaW.PrintWords Go.Proofs.YtodimdhhmifdfaaW.PrintLast Go.Proofs.YtodimdhhmifdfaaW.PrintMore Go.Proofs.Ytodimdhhmifdfaa.Aid Go.Proofs.Ytodimdhhmifdfaa.PWindowPlays Go.Proofs.Ytodimdhhmifdfaa.StaWindowPlays
set_option linter.unusedVariables false
set_option linter.unusedSimpArgs false

theorem new_ok (s : Int) (h : 0 ≤ s) (h' : s ≤ 2147483647) : window_New.f s = some (s, s, 0, true) := by
  unfold window_New.f; rw [if_neg (by omega), if_neg (by omega)]
theorem new_no (s : Int) (h : s < 0 ∨ 2147483647 < s) : window_New.f s = some (0, 0, 0, false) := by
  unfold window_New.f
  by_cases h0 : s < 0
  · rw [if_pos h0]
  · rw [if_neg h0, if_pos (by omega)]
theorem take_ok (a b c n : Int) (h : 0 ≤ n) (h' : n ≤ a) (ha : a ≤ 9223372036854775807) : window_Take.f a b c n = some (a - n, b, c, true) := by
  unfold window_Take.f; rw [if_neg (by omega), if_neg (by omega), wid (by omega) (by omega)]
theorem take_no (a b c n : Int) (h : n < 0 ∨ a < n) : window_Take.f a b c n = some (a, b, c, false) := by
  unfold window_Take.f
  by_cases h0 : n < 0
  · rw [if_pos h0]
  · rw [if_neg h0, if_pos (by omega)]

theorem alive_ok : bywashlaw12_alive.f = some true := by
  simp [bywashlaw12_alive.f, window_New.f, window_Spend.f, window_Take.f, window_Credit.f, wrap64, mx]

theorem Ev_tot {α β : Type} {r : β} {o : Option α} {f : Nat → α → Option β} (h : ∃ x, o = some x) (e : ∀ x, Ev (fun k => f k x) r) : Ev (fun k => o.bind (f k)) r := by
  obtain ⟨x, hx⟩ := h
  exact Ev_bind0 hx (e x)
theorem plays_j4 (l : List S38) (i a b c : Int) (p : Bool) (m : Int) (h : Ev (fun k => bywashlaw12_WindowPlays.l0 k l (l.length : Int) (wrap64 (i + 1)) a b c a b c) true) :
    Ev (fun k => bywashlaw12_WindowPlays.j4 k p p m m l (l.length : Int) i a b c a b c) true := by
  refine Ev.step (fun k => bywashlaw12_WindowPlays.j4.eq_2 ..) ?_
  refine Ev_bind0 rfl ?_
  refine Ev_neg (by simp) (Ev_neg (by simp) ?_)
  refine Ev.step (fun k => bywashlaw12_WindowPlays.j5.eq_2 ..) ?_
  exact Ev_neg (by simp) h
theorem plays_l0 (l : List S38) (hl : l.length ≤ 100) (d : Nat) : ∀ i a b c : Int, 0 ≤ i → i ≤ l.length → (l.length : Int) - i ≤ d → Ev (fun k => bywashlaw12_WindowPlays.l0 k l (l.length : Int) i a b c a b c) true := by
  induction d with
  | zero =>
    intro i a b c h0 h1 hd
    refine Ev.step (fun k => bywashlaw12_WindowPlays.l0.eq_2 ..) ?_
    exact Ev_neg (by omega) (Ev_some rfl)
  | succ d ih =>
    intro i a b c h0 h1 hd
    refine Ev.step (fun k => bywashlaw12_WindowPlays.l0.eq_2 ..) ?_
    refine Ev_ite (fun hi => Ev_pos h0 (Ev_pos hi ?_)) fun _ => Ev_some rfl
    have nx : ∀ a b c, Ev (fun k => bywashlaw12_WindowPlays.l0 k l (l.length : Int) (wrap64 (i + 1)) a b c a b c) true := by
      intro a b c
      rw [wid (x := i + 1) (by omega) (by omega)]
      exact ih (i + 1) a b c (by omega) (by omega) (by omega)
    have key : ∀ t : Bool, Ev (fun k => bywashlaw12_WindowPlays.j3 k l (l.length : Int) i t a b c a b c (rd_T38 l i).f0 (rd_T38 l i).f1) true := by
      intro t
      refine Ev.step (fun k => bywashlaw12_WindowPlays.j3.eq_2 ..) ?_
      refine Ev_ite (fun _ => Ev_some rfl) fun _ => ?_
      have eT : ∀ n, bywashref1_Take.f a b c n = window_Take.f a b c n := fun _ => rfl
      have eG : ∀ n, bywashref1_Grow.f a b c n = window_Grow.f a b c n := fun _ => rfl
      have eS : ∀ n, bywashref1_Shift.f a b c n = window_Shift.f a b c n := fun _ => rfl
      have eC : ∀ n, bywashref1_Credit.f a b c n = window_Credit.f a b c n := fun _ => rfl
      have eP : ∀ n, window_Spend.f a b c n = window_Take.f a b c n := by
        intro n
        unfold window_Spend.f window_Take.f
        repeat' split
        all_goals rfl
      have tT : ∀ n, ∃ x, window_Take.f a b c n = some x := by
        intro n; unfold window_Take.f; repeat' split
        all_goals exact ⟨_, rfl⟩
      have tG : ∀ n, ∃ x, window_Grow.f a b c n = some x := by
        intro n; unfold window_Grow.f; repeat' split
        all_goals exact ⟨_, rfl⟩
      have tS : ∀ n, ∃ x, window_Shift.f a b c n = some x := by
        intro n; unfold window_Shift.f; repeat' split
        all_goals exact ⟨_, rfl⟩
      have tC : ∀ n, ∃ x, window_Credit.f a b c n = some x := by
        intro n; unfold window_Credit.f; repeat' split
        all_goals exact ⟨_, rfl⟩
      rw [eT, eG, eS, eC, eP]
      generalize (rd_T38 l i).f1 = n
      generalize (rd_T38 l i).f0 = o
      obtain ⟨xT, hT⟩ := tT n
      obtain ⟨xG, hG⟩ := tG n
      obtain ⟨xS, hS⟩ := tS n
      obtain ⟨xC, hC⟩ := tC n
      refine Ev_ite (fun _ => Ev_bind0 hT (Ev_bind0 hT (plays_j4 l i _ _ _ _ _ (nx ..)))) fun _ => ?_
      refine Ev_ite (fun _ => Ev_bind0 hG (Ev_bind0 hG (plays_j4 l i _ _ _ _ _ (nx ..)))) fun _ => ?_
      refine Ev_ite (fun _ => Ev_bind0 hS (Ev_bind0 hS (plays_j4 l i _ _ _ _ _ (nx ..)))) fun _ => ?_
      refine Ev_ite (fun _ => Ev_bind0 hT (Ev_bind0 hT (plays_j4 l i _ _ _ _ _ (nx ..)))) fun _ => ?_
      refine Ev_ite (fun _ => Ev_bind0 hC (Ev_bind0 hC (plays_j4 l i _ _ _ _ _ (nx ..)))) fun _ => ?_
      exact nx a b c
    exact Ev_ite (fun _ => key true) fun _ => key _
theorem WindowPlays : StaWindowPlays.Pure := by
  intro s l hs hl
  have hs := wf_range hs
  refine Ev.rounds ?_
  unfold bywashlaw12_WindowPlays.f
  refine Ev_ite (fun _ => ?_) fun hl => Ev_bind0 alive_ok ?_
  · refine Ev.step (fun k => bywashlaw12_WindowPlays.j0.eq_2 ..) ?_
    exact Ev_pos rfl (Ev_bind0 alive_ok (Ev_some rfl))
  refine Ev.step (fun k => bywashlaw12_WindowPlays.j0.eq_2 ..) ?_
  refine Ev_neg (by simp) ?_
  by_cases hg : 0 ≤ s ∧ s ≤ 2147483647
  · refine Ev_bind0 (new_ok s hg.1 hg.2) (Ev_pos hg.1 ?_)
    refine Ev.step (fun k => bywashlaw12_WindowPlays.j1.eq_2 ..) ?_
    refine Ev_neg (by simp [hg.2]) (Ev_pos rfl (Ev_bind0 rfl (Ev_neg (by simp) ?_)))
    exact plays_l0 l (by omega) l.length 0 s s 0 (by omega) (by omega) (by omega)
  · refine Ev_bind0 (new_no s (by omega)) ?_
    have key : ∀ t, t = false → Ev (fun k => bywashlaw12_WindowPlays.j1 k s l false t 0 0 0) true := by
      intro t ht
      refine Ev.step (fun k => bywashlaw12_WindowPlays.j1.eq_2 ..) ?_
      exact Ev_neg (by simp [ht]) (Ev_neg (by simp) (Ev_some rfl))
    refine Ev_ite (fun h => key _ ?_) fun _ => key _ rfl
    simp; omega

end Go.Proofs.Ytodimdhhmifdfaa.Pure
