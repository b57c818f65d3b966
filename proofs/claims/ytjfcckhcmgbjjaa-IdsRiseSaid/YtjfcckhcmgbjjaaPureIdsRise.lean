/- Numbers that ids tells rise by two from the first one on; when there is none left none is told, and each was given. Conditions: those of the statement itself. -/
import Derived.Test.YtjfcckhcmgbjjaaPIdsRisex2
import Derived.Test.YtjfcckhcmgbjjaaAid
namespace Go.Proofs.Ytjfcckhcmgbjjaa.Pure
open Go.RowKit Go.Proofs.Ytjfcckhcmgbjjaa.PIdsRise Go.Proofs.YtjfcckhcmgbjjaaW.PrintWords Go.Proofs.YtjfcckhcmgbjjaaW.PrintLast Go.Proofs.Ytjfcckhcmgbjjaa.Aid

set_option linter.unusedVariables false

def kind (a b id : Int) : Int := if id < 1 ∨ id > 2147483647 ∨ Int.tmod id 2 = 0 then 0 else if id ≥ a ∧ id < b then 1 else 2
theorem kind_run (k : Nat) (a b id : Int) : ids_Ids_Kind.f (k + 1) a b id = some (kind a b id, a, b) := by
  unfold ids_Ids_Kind.f kind
  simp only [ids_Ids_Kind.j0]
  by_cases h1 : id < 1
  · simp [h1]
  · by_cases h2 : id > 2147483647
    · simp [h1, h2]
    · by_cases h3 : Int.tmod id 2 = 0
      · simp [h1, h2, h3]
      · by_cases h4 : id ≥ a <;> by_cases h5 : id < b <;> simp [h1, h2, h3, h4, h5]
theorem kind_ev (a b id : Int) : Ev (fun k => ids_Ids_Kind.f k a b id) (kind a b id, a, b) := Ev_from 1 fun k => kind_run k a b id

theorem alive_ev : Ev (fun k => bywashlaw18_alive.f k) true := Ev_from 1 fun k => by
  simp [bywashlaw18_alive.f, ids_New.f, ids_Ids_Next.f, ids_Ids_Left.f, kind_run, kind, wrap64]

theorem l1_ev (left n at_ : Int) (h0 : 0 ≤ left) (h1 : left ≤ 50) (h2 : 0 ≤ n) (h3 : n ≤ 80) (ha : at_ = 2147483647 - 2 * left + 2 * (if n ≤ left + 1 then n else left + 1)) (d : Nat) :
    ∀ i : Int, 0 ≤ i → left + 1 - i = d → Ev (fun k => bywashlaw18_IdsRise.l1 k left n (2147483647 - 2 * left) i (2147483647 - 2 * left) at_) true := by
  induction d with
  | zero =>
    intro i hi hd
    refine Ev.step (fun k => bywashlaw18_IdsRise.l1.eq_2 ..) ?_
    refine Ev_neg (by omega) ?_
    refine Ev.bind (kind_ev _ _ _) ?_
    have e1 : kind (2147483647 - 2 * left) at_ (wrap64 (2147483647 - 2 * left - 1)) = 0 := by
      rw [wid (by omega) (by omega)]
      unfold kind
      rw [if_pos]
      refine Or.inr (Or.inr ?_)
      rw [Int.tmod_eq_emod_of_nonneg (by omega)]
      omega
    refine Ev_pos e1 ?_
    refine Ev.bind (kind_ev _ _ _) ?_
    refine Ev_pos (by simp [kind]) ?_
    refine Ev.bind (kind_ev _ _ _) ?_
    exact Ev_some (by simp [kind])
  | succ d ih =>
    intro i hi hd
    refine Ev.step (fun k => bywashlaw18_IdsRise.l1.eq_2 ..) ?_
    refine Ev_pos (by omega) ?_
    refine Ev.bind (kind_ev _ _ _) ?_
    have e1 : kind (2147483647 - 2 * left) at_ (wrap64 (2147483647 - 2 * left + wrap64 (2 * i))) = if i < n then 1 else 2 := by
      rw [wid (x := 2 * i) (by omega) (by omega), wid (by omega) (by omega)]
      unfold kind
      rw [if_neg, ha]
      · split at ha <;> split <;> split <;> omega
      · rw [Int.tmod_eq_emod_of_nonneg (by omega)]
        omega
    rw [wid (x := i + 1) (by omega) (by omega)]
    refine Ev_neg ?_ (ih (i + 1) (by omega) (by omega))
    simp only [e1]
    by_cases h : i < n <;> simp [h]

theorem l0_ev (left n : Int) (h0 : 0 ≤ left) (h1 : left ≤ 50) (h2 : 0 ≤ n) (h3 : n ≤ 80) (d : Nat) :
    ∀ i at_ : Int, 0 ≤ i → n - i = d → at_ = 2147483647 - 2 * left + 2 * (if i ≤ left + 1 then i else left + 1) → Ev (fun k => bywashlaw18_IdsRise.l0 k left n (2147483647 - 2 * left) i (2147483647 - 2 * left) at_) true := by
  induction d with
  | zero =>
    intro i at_ hi hd ha
    obtain rfl : i = n := by omega
    refine Ev.step (fun k => bywashlaw18_IdsRise.l0.eq_2 ..) ?_
    refine Ev_neg (by omega) ?_
    exact l1_ev left i at_ h0 h1 h2 h3 ha (left + 1).toNat 0 (by omega) (by omega)
  | succ d ih =>
    intro i at_ hi hd ha
    refine Ev.step (fun k => bywashlaw18_IdsRise.l0.eq_2 ..) ?_
    refine Ev_pos (by omega) ?_
    by_cases hl : i ≤ left
    · rw [if_pos (by omega)] at ha
      have e : ids_Ids_Next.f (2147483647 - 2 * left) at_ = some (at_, true, 2147483647 - 2 * left, at_ + 2) := by
        unfold ids_Ids_Next.f ids_Ids_Left.f
        have : at_ ≤ 2147483647 := by omega
        simp [this]
        exact wid (by omega) (by omega)
      refine Ev_bind0 e ?_
      refine Ev_neg (by simp [hl]) ?_
      refine Ev_pos rfl ?_
      refine Ev_pos (by show at_ = _; rw [wid (x := 2 * i) (by omega) (by omega), wid (by omega) (by omega)]; omega) ?_
      refine Ev_bind0 rfl ?_
      refine Ev_neg ?_ ?_
      · have : (at_ + 2 ≤ 2147483647) ↔ i < left := by omega
        simp [this]
      · rw [wid (x := i + 1) (by omega) (by omega)]
        exact ih (i + 1) (at_ + 2) (by omega) (by omega) (by rw [if_pos (by omega)]; omega)
    · have ha' : at_ = 2147483649 := by split at ha <;> omega
      have e : ids_Ids_Next.f (2147483647 - 2 * left) at_ = some (0, false, 2147483647 - 2 * left, at_) := by
        unfold ids_Ids_Next.f ids_Ids_Left.f
        have : ¬ at_ ≤ 2147483647 := by omega
        simp [this]
      refine Ev_bind0 e ?_
      refine Ev_neg (by simp [hl]) ?_
      refine Ev_neg (by simp) ?_
      refine Ev_pos rfl ?_
      refine Ev_bind0 rfl ?_
      refine Ev_neg ?_ ?_
      · have h5 : ¬ at_ ≤ 2147483647 := by omega
        have h6 : ¬ i < left := by omega
        simp [h5, h6]
      · rw [wid (x := i + 1) (by omega) (by omega)]
        exact ih (i + 1) at_ (by omega) (by omega) (by rw [if_neg (by omega)]; omega)

theorem j0_true (left n : Int) : Ev (fun k => bywashlaw18_IdsRise.j0 k left n true) true := by
  refine Ev.step (fun k => bywashlaw18_IdsRise.j0.eq_2 ..) ?_
  refine Ev_pos rfl ?_
  exact Ev.bind alive_ev (Ev.now _)

theorem IdsRise : bywashlaw18_IdsRise.Pure := by
  intro left n _ _
  refine Ev.rounds ?_
  unfold bywashlaw18_IdsRise.f
  refine Ev_ite (fun _ => j0_true _ _) fun h0 => ?_
  refine Ev_ite (fun _ => j0_true _ _) fun h1 => ?_
  refine Ev_ite (fun _ => j0_true _ _) fun h2 => ?_
  refine Ev_ite (fun _ => j0_true _ _) fun h3 => ?_
  refine Ev.bind alive_ev ?_
  refine Ev.step (fun k => bywashlaw18_IdsRise.j0.eq_2 ..) ?_
  refine Ev_neg (by simp) ?_
  rw [wid (x := 2 * left) (by omega) (by omega), wid (by omega) (by omega)]
  have e : ids_New.f (2147483647 - 2 * left) = some (2147483647 - 2 * left, 2147483647 - 2 * left) := by
    unfold ids_New.f
    rw [if_neg (by omega), if_neg (by omega), if_neg]
    rw [Int.tmod_eq_emod_of_nonneg (by omega)]
    omega
  refine Ev_bind0 e ?_
  exact l0_ev left n (by omega) (by omega) (by omega) (by omega) n.toNat 0 _ (by omega) (by omega) (by rw [if_pos (by omega)]; omega)

end Go.Proofs.Ytjfcckhcmgbjjaa.Pure
