/- From whichever first one on: each next one, as long as there is one; of every number what it is. Conditions: those of the statement itself. -/
import Derived.Test.YtndchendimbfnaaPIdsPlaysx0
import Derived.Test.YtndchendimbfnaaPIdsPlaysx1
import Derived.Test.YtndchendimbfnaaPIdsPlaysx2
import Derived.Test.YtndchendimbfnaaStaIdsPlays
import Derived.Test.YtndchendimbfnaaAid
namespace Go.Proofs.Ytndchendimbfnaa.Pure
open Go.RowKit Go.Proofs.YtndchendimbfnaaW.PrintWords Go.Proofs.YtndchendimbfnaaW.PrintLast Go.Proofs.YtndchendimbfnaaW.PrintMore Go.Proofs.Ytndchendimbfnaa.Aid Go.Proofs.Ytndchendimbfnaa.PIdsPlays Go.Proofs.Ytndchendimbfnaa.StaIdsPlays
set_option linter.unusedVariables false
set_option linter.unusedSimpArgs false

def kind (a b id : Int) : Int := if id < 1 ∨ id > 2147483647 ∨ Int.tmod id 2 = 0 then 0 else if id ≥ a ∧ id < b then 1 else 2
theorem kind_run (k : Nat) (a b id : Int) : ids_Ids_Kind.f (k + 1) a b id = some (kind a b id, a, b) := by
  unfold ids_Ids_Kind.f kind
  simp only [ids_Ids_Kind.j0]
  by_cases h1 : id < 1
  · simp [h1]
  · by_cases h2 : id > 2147483647
    · simp [h1, h2]
    · by_cases h3 : Int.tmod id 2 = 0
      · simp [h1, h2, h3]
      · by_cases h4 : id ≥ a <;> by_cases h5 : id < b <;> simp [h1, h2, h3, h4, h5]
theorem kind_ev (a b id : Int) : Ev (fun k => ids_Ids_Kind.f k a b id) (kind a b id, a, b) := Ev_from 1 fun k => kind_run k a b id
theorem next_ok (a b : Int) (h : b ≤ 2147483647) (h' : 0 ≤ b) : ids_Ids_Next.f a b = some (b, true, a, b + 2) := by
  unfold ids_Ids_Next.f ids_Ids_Left.f
  simp [h]
  exact wid (by omega) (by omega)
theorem next_no (a b : Int) (h : ¬ b ≤ 2147483647) : ids_Ids_Next.f a b = some (0, false, a, b) := by
  unfold ids_Ids_Next.f ids_Ids_Left.f
  simp [h]
theorem new_ok (a : Int) (h1 : 1 ≤ a) (h2 : a ≤ 2147483647) (h3 : ¬ Int.tmod a 2 = 0) : ids_New.f a = some (a, a) := by
  unfold ids_New.f; rw [if_neg (by omega), if_neg (by omega), if_neg h3]
theorem alive_ev : Ev (fun k => bywashlaw18_alive.f k) true := by
  unfold bywashlaw18_alive.f
  refine Ev_bind0 (new_ok 1 (by omega) (by omega) (by decide)) (Ev_bind0 (next_ok 1 1 (by omega) (by omega)) (Ev_bind0 (next_ok 1 3 (by omega) (by omega)) ?_))
  refine Ev_pos rfl (Ev_pos rfl (Ev_pos rfl (Ev_pos rfl ?_)))
  refine Ev.bind (kind_ev _ _ _) (Ev_pos (by decide) (Ev.bind (kind_ev _ _ _) (Ev_pos (by decide) (Ev.bind (kind_ev _ _ _) (Ev_pos (by decide) (Ev_bind0 rfl (Ev_some ?_)))))))
  decide

theorem ref_kind_run (k : Nat) (a b id : Int) : bywashref1_Ids_Kind.f (k + 1) a b id = some (kind a b id, a, b) := by
  unfold bywashref1_Ids_Kind.f kind
  simp only [bywashref1_Ids_Kind.j0]
  by_cases h1 : id < 1
  · simp [h1]
  · by_cases h2 : id > 2147483647
    · simp [h1, h2]
    · by_cases h3 : Int.tmod id 2 = 0
      · simp [h1, h2, h3]
      · by_cases h4 : id ≥ a <;> by_cases h5 : id < b <;> simp [h1, h2, h3, h4, h5]
theorem ref_kind_ev (a b id : Int) : Ev (fun k => bywashref1_Ids_Kind.f k a b id) (kind a b id, a, b) := Ev_from 1 fun k => ref_kind_run k a b id
theorem ref_next_ok (a b : Int) (h : b ≤ 2147483647) (h' : 0 ≤ b) : bywashref1_Ids_Next.f a b = some (b, true, a, b + 2) := by
  unfold bywashref1_Ids_Next.f
  rw [if_neg (by omega), wid (x := b + 2) (by omega) (by omega), wid (by omega) (by omega)]
  simp
theorem ref_next_no (a b : Int) (h : ¬ b ≤ 2147483647) : bywashref1_Ids_Next.f a b = some (0, false, a, b) := by
  unfold bywashref1_Ids_Next.f
  rw [if_pos (by omega)]
theorem l1_ev (ys : List Int) (hlen : ys.length ≤ 1000000) (a b : Int) (d : Nat) : ∀ i : Nat, ys.length - i = d → Ev (fun k => bywashlaw18_IdsPlays.l1 k ys (ys.length : Int) (i : Int) a b a b) true := by
  induction d with
  | zero =>
    intro i hd
    refine Ev.step (fun k => bywashlaw18_IdsPlays.l1.eq_2 ..) ?_
    exact Ev_neg (by omega) (Ev_some rfl)
  | succ d ih =>
    intro i hd
    refine Ev.step (fun k => bywashlaw18_IdsPlays.l1.eq_2 ..) ?_
    refine Ev_pos (by omega) (Ev_pos (by omega) (Ev_pos (by omega) (Ev.bind (kind_ev _ _ _) (Ev.bind (ref_kind_ev _ _ _) (Ev_pos rfl ?_)))))
    rw [wid (by omega) (by omega), show (i : Int) + 1 = ((i + 1 : Nat) : Int) from by omega]
    exact ih (i + 1) (by omega)
theorem l0_ev (a n : Int) (l : List Int) (hn : n ≤ 300) (hl : l.length ≤ 60) (d : Nat) : ∀ i b : Int, 0 ≤ i → (n - i).toNat = d → 0 ≤ b → b ≤ 2147483649 → Ev (fun k => bywashlaw18_IdsPlays.l0 k a n l i a b a b) true := by
  induction d with
  | zero =>
    intro i b h0 hd hb hb'
    refine Ev.step (fun k => bywashlaw18_IdsPlays.l0.eq_2 ..) ?_
    refine Ev_neg (by omega) (Ev_pos (by simp; omega) (Ev_bind0 rfl (Ev_bind0 rfl (Ev_pos (by simp; omega) (Ev_bind0 rfl ?_)))))
    exact l1_ev _ (by simp; omega) a b _ 0 rfl
  | succ d ih =>
    intro i b h0 hd hb hb'
    refine Ev.step (fun k => bywashlaw18_IdsPlays.l0.eq_2 ..) ?_
    refine Ev_pos (by omega) ?_
    by_cases h : b ≤ 2147483647
    · refine Ev_bind0 (by unfold ids_Ids_Left.f; rfl) (Ev_pos (decide_eq_true h) (Ev_pos h (Ev_bind0 (next_ok a b h hb) (Ev_bind0 (ref_next_ok a b h hb) (Ev_pos rfl (Ev_pos rfl (Ev_pos rfl ?_)))))))
      refine Ev.step (fun k => bywashlaw18_IdsPlays.j3.eq_2 ..) (Ev_neg (by simp) ?_)
      rw [wid (by omega) (by omega)]
      exact ih (i + 1) (b + 2) (by omega) (by omega) (by omega) (by omega)
    · refine Ev_bind0 (by unfold ids_Ids_Left.f; rfl) (Ev_neg (by simpa using h) (Ev_neg h (Ev_bind0 (next_no a b h) (Ev_bind0 (ref_next_no a b h) (Ev_pos rfl (Ev_neg (by simp) (Ev_neg (by simp) ?_)))))))
      refine Ev.step (fun k => bywashlaw18_IdsPlays.j4.eq_2 ..) (Ev_neg (by simp) ?_)
      rw [wid (by omega) (by omega)]
      exact ih (i + 1) b (by omega) (by omega) (by omega) (by omega)
theorem j0_alive (a n : Int) (l : List Int) : Ev (fun k => bywashlaw18_IdsPlays.j0 k a n l true) true :=
  Ev.step (fun k => bywashlaw18_IdsPlays.j0.eq_2 ..) (Ev_pos rfl (Ev.bind alive_ev (Ev_some rfl)))
theorem IdsPlays_out (a n : Int) (l : List Int) (h : n < 0 ∨ 300 < n ∨ 60 < l.length) : ∃ k, bywashlaw18_IdsPlays.f k a n l = some true := by
  refine Ev.rounds ?_
  unfold bywashlaw18_IdsPlays.f
  refine Ev_ite (fun _ => j0_alive a n l) fun h1 => Ev_ite (fun _ => j0_alive a n l) fun h2 => Ev_ite (fun _ => j0_alive a n l) fun h3 => ?_
  exact absurd h (by omega)
theorem IdsPlays_some (a n : Int) (l : List Int) (h1 : 1 ≤ a) (h2 : a ≤ 2147483647) (h3 : ¬ Int.tmod a 2 = 0) : ∃ k, bywashlaw18_IdsPlays.f k a n l = some true := by
  refine Ev.rounds ?_
  unfold bywashlaw18_IdsPlays.f
  refine Ev_ite (fun _ => j0_alive a n l) fun h4 => Ev_ite (fun _ => j0_alive a n l) fun h5 => Ev_ite (fun _ => j0_alive a n l) fun h6 => ?_
  refine Ev.bind alive_ev (Ev.step (fun k => bywashlaw18_IdsPlays.j0.eq_2 ..) (Ev_neg (by simp) (Ev_bind0 (new_ok a h1 h2 h3) (Ev_neg (by omega) (Ev_neg (by omega) ?_)))))
  have e : (Int.tmod a 2 == 0) = false := beq_eq_false_iff_ne.2 h3
  rw [e]
  refine Ev.step (fun k => bywashlaw18_IdsPlays.j1.eq_2 ..) (Ev_neg (by simp) ?_)
  exact l0_ev a n l (by omega) (by omega) n.toNat 0 a (by omega) (by omega) (by omega) (by omega)

end Go.Proofs.Ytndchendimbfnaa.Pure
