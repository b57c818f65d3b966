/- Numbers that are even, or beyond, are none; a first one that is none makes none. Conditions: those of the statement itself. -/
import Derived.Test.YtjfcckhcmgbjjaaPIdsOddx0
import Derived.Test.YtjfcckhcmgbjjaaPIdsOddx1
import Derived.Test.YtjfcckhcmgbjjaaStaIdsOdd
import Derived.Test.YtjfcckhcmgbjjaaAid
namespace Go.Proofs.Ytjfcckhcmgbjjaa.Pure
open Go.RowKit Go.Proofs.YtjfcckhcmgbjjaaW.PrintWords Go.Proofs.YtjfcckhcmgbjjaaW.PrintLast Go.Proofs.YtjfcckhcmgbjjaaW.PrintMore Go.Proofs.Ytjfcckhcmgbjjaa.Aid Go.Proofs.Ytjfcckhcmgbjjaa.PIdsOdd Go.Proofs.Ytjfcckhcmgbjjaa.StaIdsOdd
set_option linter.unusedVariables false
set_option linter.unusedSimpArgs false

def kind (a b id : Int) : Int := if id < 1 ∨ id > 2147483647 ∨ Int.tmod id 2 = 0 then 0 else if id ≥ a ∧ id < b then 1 else 2
theorem kind_run (k : Nat) (a b id : Int) : ids_Ids_Kind.f (k + 1) a b id = some (kind a b id, a, b) := by
  unfold ids_Ids_Kind.f kind
  simp only [ids_Ids_Kind.j0]
  by_cases h1 : id < 1
  · simp [h1]
  · by_cases h2 : id > 2147483647
    · simp [h1, h2]
    · by_cases h3 : Int.tmod id 2 = 0
      · simp [h1, h2, h3]
      · by_cases h4 : id ≥ a <;> by_cases h5 : id < b <;> simp [h1, h2, h3, h4, h5]
theorem kind_ev (a b id : Int) : Ev (fun k => ids_Ids_Kind.f k a b id) (kind a b id, a, b) := Ev_from 1 fun k => kind_run k a b id
theorem next_ok (a b : Int) (h : b ≤ 2147483647) (h' : 0 ≤ b) : ids_Ids_Next.f a b = some (b, true, a, b + 2) := by
  unfold ids_Ids_Next.f ids_Ids_Left.f
  simp [h]
  exact wid (by omega) (by omega)
theorem next_no (a b : Int) (h : ¬ b ≤ 2147483647) : ids_Ids_Next.f a b = some (0, false, a, b) := by
  unfold ids_Ids_Next.f ids_Ids_Left.f
  simp [h]
theorem new_ok (a : Int) (h1 : 1 ≤ a) (h2 : a ≤ 2147483647) (h3 : ¬ Int.tmod a 2 = 0) : ids_New.f a = some (a, a) := by
  unfold ids_New.f; rw [if_neg (by omega), if_neg (by omega), if_neg h3]
theorem alive_ev : Ev (fun k => bywashlaw18_alive.f k) true := by
  unfold bywashlaw18_alive.f
  refine Ev_bind0 (new_ok 1 (by omega) (by omega) (by decide)) (Ev_bind0 (next_ok 1 1 (by omega) (by omega)) (Ev_bind0 (next_ok 1 3 (by omega) (by omega)) ?_))
  refine Ev_pos rfl (Ev_pos rfl (Ev_pos rfl (Ev_pos rfl ?_)))
  refine Ev.bind (kind_ev _ _ _) (Ev_pos (by decide) (Ev.bind (kind_ev _ _ _) (Ev_pos (by decide) (Ev.bind (kind_ev _ _ _) (Ev_pos (by decide) (Ev_bind0 rfl (Ev_some ?_)))))))
  decide

theorem IdsOdd_some (a id : Int) (h1 : 1 ≤ a) (h2 : a ≤ 2147483647) (h3 : ¬ Int.tmod a 2 = 0) : ∃ k, bywashlaw18_IdsOdd.f k a id = some true := by
  have h3b : (Int.tmod a 2 != 0) = true := bne_iff_ne.2 h3
  refine Ev.rounds ?_
  unfold bywashlaw18_IdsOdd.f
  refine Ev.bind alive_ev (Ev_pos rfl (Ev_bind0 (new_ok a h1 h2 h3) (Ev_pos h1 (Ev_pos h2 ?_))))
  refine Ev.step (fun k => bywashlaw18_IdsOdd.j0.eq_2 ..) (Ev_pos h3b (Ev.bind (kind_ev _ _ _) ?_))
  have hk1 : kind a (a + 2) a = 1 := by
    unfold kind
    rw [if_neg (by omega), if_pos (by omega)]
  have j1 : ∀ q : Bool, (kind a a id = 0 ∧ q = false) ∨ (kind a a id = 2 ∧ q = true) → Ev (fun k => bywashlaw18_IdsOdd.j1 k a (kind a a id) q a a) true := by
    intro q hq
    refine Ev.step (fun k => bywashlaw18_IdsOdd.j1.eq_2 ..) (Ev_bind0 (next_ok a a h2 (by omega)) ?_)
    rcases hq with ⟨hk, rfl⟩ | ⟨hk, rfl⟩
    · refine Ev_pos hk (Ev_neg (by simp) (Ev_pos rfl (Ev_pos rfl (Ev.bind (kind_ev _ _ _) (Ev_some ?_)))))
      show (kind a (a + 2) a == 1) = true
      rw [hk1]; rfl
    · refine Ev_neg (by omega) (Ev_pos rfl (Ev_pos hk (Ev_pos rfl (Ev_pos rfl (Ev.bind (kind_ev _ _ _) (Ev_some ?_))))))
      show (kind a (a + 2) a == 1) = true
      rw [hk1]; rfl
  refine Ev_ite (fun h4 => Ev_ite (fun h5 => ?_) fun h5 => ?_) fun h4 => ?_
  · by_cases h6 : Int.tmod id 2 = 0
    · refine j1 _ (.inl ⟨?_, by rw [h6]; rfl⟩)
      unfold kind
      rw [if_pos (.inr (.inr h6))]
    · refine j1 _ (.inr ⟨?_, bne_iff_ne.2 h6⟩)
      unfold kind
      rw [if_neg (by omega), if_neg (by omega)]
  · refine j1 _ (.inl ⟨?_, rfl⟩)
    unfold kind
    rw [if_pos (by omega)]
  · refine j1 _ (.inl ⟨?_, rfl⟩)
    unfold kind
    rw [if_pos (by omega)]

end Go.Proofs.Ytjfcckhcmgbjjaa.Pure
