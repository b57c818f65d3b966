/- The law FailNames answers true: the walk. Conditions: that errors.errorType is laid. -/
import Derived.Test.YtogkhpceahdaeaaDoorFailWrap
namespace Go.Proofs.YtogkhpceahdaeaaDoor.Fail
open Go.RowKit Go.Extern.Stop Go.Stop Go.Extern
set_option linter.unusedVariables false
set_option linter.unusedSimpArgs false

theorem names_walk (W : World) (hL : Laid W) (a b : Int) (pa qa pb qb : Bool) (ha : decide (0 ≤ a) = pa) (ha2 : decide (a ≤ 23) = qa) (hb : decide (0 ≤ b) = pb) (hb2 : decide (b ≤ 23) = qb)
    (e1 : ((nameOf a).toList == [101, 114, 114, 111, 114]) = !(pa && qa)) (e2 : (pa && qa && pb && qb) = true → ((nameOf a).toList == (nameOf b).toList) = (a == b)) (e3 : (nameOf a).toList.isEmpty = false) :
    Calls Tryd.prog 3 #[.int .i64 a, .int .i64 b] W fun e w' => e = .returned (.bool true) ∧ Below W.heap.size W w' := by
  have HA := alive_true W hL
  have HN := name_any
  have e3p : ¬ (nameOf a).toList = [] := by simpa using e3
  have e3q : ((nameOf a).toList == ([] : List UInt8)) = false := by cases h : (nameOf a).toList <;> simp [h] at e3 ⊢
  clear hL
  cases pa <;> cases qa <;> cases pb <;> cases qb <;> simp only [Bool.and_true, Bool.and_false, Bool.false_and, Bool.not_true, Bool.not_false, forall_const, Bool.false_eq_true, false_implies, Bool.and_self] at e1 e2 <;>
  · have e1p := by simpa using e1
    go_enter Tryd.func3, Tryd.ntmps3
    go_wp2_with ((go_at_call 8; refine HA.mono ?_; rintro e w1 ⟨rfl, hb1⟩; clear HA))
    go_wp2_with ((go_at_call 9; refine (HN _ _).mono ?_; rintro e w2 ⟨rfl, h2⟩; replace hb1 := belowT hb1 h2; clear h2))
    go_ret
    exact ⟨rfl, hb1⟩
theorem name_out (c : Int) (h : ¬ (0 ≤ c ∧ c ≤ 23)) : nameOf c = ⟨#[101, 114, 114, 111, 114]⟩ := by
  by_cases h0 : c < 0
  · unfold nameOf PFailWraps.fail_Name.f; simp only [Option.bind_some, if_pos h0]; rfl
  · unfold nameOf PFailWraps.fail_Name.f; simp only [Option.bind_some, if_neg h0, List.length_cons, List.length_nil]; rw [if_pos (by omega)]; rfl
theorem FailNames_all (W : World) (hL : Laid W) (a b : Int) : Calls Tryd.prog 3 #[.int .i64 a, .int .i64 b] W fun e w' => e = .returned (.bool true) ∧ Below W.heap.size W w' := by
  refine names_walk W hL a b _ _ _ _ rfl rfl rfl rfl ?_ ?_ ?_
  · by_cases h : 0 ≤ a ∧ a ≤ 23
    · have h2 := (by decide +kernel : ∀ n : Fin 24, ((nameOf (n.val : Int)).toList == [101, 114, 114, 111, 114]) = false) ⟨a.toNat, by omega⟩
      rw [show ((a.toNat : Nat) : Int) = a from by omega] at h2
      rw [h2]; simp [h.1, h.2]
    · rw [name_out a h, ← Bool.decide_and, decide_eq_false h]; decide +kernel
  · intro h
    simp only [Bool.and_eq_true, decide_eq_true_eq] at h
    have h2 := (by decide +kernel : ∀ n m : Fin 24, ((nameOf (n.val : Int)).toList == (nameOf (m.val : Int)).toList) = ((n.val : Int) == (m.val : Int))) ⟨a.toNat, by omega⟩ ⟨b.toNat, by omega⟩
    rwa [show ((a.toNat : Nat) : Int) = a from by omega, show ((b.toNat : Nat) : Int) = b from by omega] at h2
  · by_cases h : 0 ≤ a ∧ a ≤ 23
    · have h2 := (by decide +kernel : ∀ n : Fin 24, (nameOf (n.val : Int)).toList.isEmpty = false) ⟨a.toNat, by omega⟩
      rwa [show ((a.toNat : Nat) : Int) = a from by omega] at h2
    · rw [name_out a h]; decide +kernel
end Go.Proofs.YtogkhpceahdaeaaDoor.Fail
