/- Small lemmas for pure statements: numbers that do not wrap, and runs of enough rounds taken apart test by test. Conditions: the bounds that each lemma names. -/
import Derived.Test.YtdonanibfifodaaWMore
namespace Go.Proofs.Ytdonanibfifodaa.Aid
open Go.RowKit Go.Proofs.YtdonanibfifodaaW.PrintWords Go.Proofs.YtdonanibfifodaaW.PrintMore

theorem wid {x : Int} (h : -9223372036854775808 ≤ x) (h' : x ≤ 9223372036854775807) : wrap64 x = x := by unfold wrap64; omega
theorem wf_range {x : Int} (h : (Lit.int .i64 x).wf = true) : -9223372036854775808 ≤ x ∧ x ≤ 9223372036854775807 := by
  simpa [Lit.wf, IntKind.min, IntKind.max, IntKind.signed, IntKind.bits] using h

section
variable {α β : Type} {r : α} {g f : Nat → Option α} {c : Prop} [Decidable c]
theorem Ev_pos (h : c) (e : Ev g r) : Ev (fun k => if c then g k else f k) r := by
  obtain ⟨K, hK⟩ := e
  exact ⟨K, fun k hk => (if_pos h).trans (hK k hk)⟩
theorem Ev_neg (h : ¬ c) (e : Ev f r) : Ev (fun k => if c then g k else f k) r := by
  obtain ⟨K, hK⟩ := e
  exact ⟨K, fun k hk => (if_neg h).trans (hK k hk)⟩
theorem Ev_ite (h : c → Ev g r) (h' : ¬ c → Ev f r) : Ev (fun k => if c then g k else f k) r := by
  by_cases hc : c
  · exact Ev_pos hc (h hc)
  · exact Ev_neg hc (h' hc)
theorem Ev_some {x : α} (h : x = r) : Ev (fun _ => some x) r := by subst h; exact Ev.now x
/-- A call that needs no rounds. -/
theorem Ev_bind0 {a : Option β} {x : β} {q : Nat → β → Option α} (h : a = some x) (e : Ev (fun k => q k x) r) : Ev (fun k => a.bind (q k)) r := by
  subst h; exact e
theorem Ev_const {a : Option α} (h : a = some r) : Ev (fun _ => a) r := ⟨0, fun _ _ => h⟩
/-- What holds of every great enough number of rounds. -/
theorem Ev_from (m : Nat) (h : ∀ k, g (k + m) = some r) : Ev g r := ⟨m, fun k hk => by
  obtain ⟨j, rfl⟩ : ∃ j, k = j + m := ⟨k - m, by omega⟩
  exact h j⟩
theorem Ev_shift (m : Nat) (h : ∀ k, g (k + m) = f k) (e : Ev f r) : Ev g r := by
  obtain ⟨K, hK⟩ := e
  refine ⟨K + m, fun k hk => ?_⟩
  obtain ⟨j, rfl⟩ : ∃ j, k = j + m := ⟨k - m, by omega⟩
  rw [h j]; exact hK j (by omega)
end
theorem mn_le (a b : Int) : mn a b ≤ a ∧ mn a b ≤ b ∧ (mn a b = a ∨ mn a b = b) := by unfold mn; split <;> omega
theorem mx_ge (a b : Int) : a ≤ mx a b ∧ b ≤ mx a b ∧ (mx a b = a ∨ mx a b = b) := by unfold mx; split <;> omega
theorem mn_eq (a b : Int) : mn a b = min a b := by unfold mn; split <;> omega
theorem mx_eq (a b : Int) : mx a b = max a b := by unfold mx; split <;> omega
end Go.Proofs.Ytdonanibfifodaa.Aid
