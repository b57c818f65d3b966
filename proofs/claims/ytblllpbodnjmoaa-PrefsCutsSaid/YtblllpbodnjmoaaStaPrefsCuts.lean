-- What the parameters of PrefsCuts hold, and the pure statement (written by mklaw.py).
import Derived.Test.YtblllpbodnjmoaaPPrefsCutsx0
import Derived.Test.YtblllpbodnjmoaaPPrefsCutsx1
import Derived.Test.YtblllpbodnjmoaaPPrefsCutsx2
import Derived.Test.YtblllpbodnjmoaaPPrefsCutsx3
import Derived.Test.YtblllpbodnjmoaaPPrefsCutsx4
import Derived.Test.YtblllpbodnjmoaaOpen
import Derived.KernelRfl
namespace Go.Proofs.Ytblllpbodnjmoaa.StaPrefsCuts
open Go.RowKit Go.Proofs.YtblllpbodnjmoaaW.PrintWords Go.Proofs.YtblllpbodnjmoaaW.PrintLast Go.Proofs.YtblllpbodnjmoaaW.PrintMore Go.Proofs.Ytblllpbodnjmoaa.Open Go.Proofs.Ytblllpbodnjmoaa.PPrefsCuts
set_option linter.unusedVariables false
def G48 (x : S48) : Prop := (Lit.int .i64 x.f0).wf = true ∧ (Lit.int .i64 x.f1).wf = true
instance : Inhabited S48 := ⟨z48⟩
theorem o48 : Opens Try.prog 48 k48 G48 := opens_struct (fun x : S48 => (x.f0, x.f1)) (fun p => ⟨p.1, p.2⟩) (fun _ => rfl) Try.underlying48 (by kernel_rfl) (opensFs_cons rfl (by kernel_rfl) rfl (opens_int Try.underlying3) (opensFs_one rfl (by kernel_rfl) (opens_int Try.underlying3)))
theorem oArg0 : Opens Try.prog 22 (Kd.slice 48 k48) (fun v => v.length ≤ maxLen ∧ v.length * 16 ≤ 140737488351232 ∧ ∀ x ∈ v, G48 x) := (opens_slice 48 Try.underlying22 (by kernel_rfl) (by kernel_rfl) o48)
def Pure : Prop := ∀ (l0 : List (S48)) (a1 : Int), (l0.length ≤ maxLen ∧ l0.length * 16 ≤ 140737488351232 ∧ ∀ x ∈ l0, G48 x) → (Lit.int .i64 a1).wf = true → ∃ k, bywashlaw10_PrefsCuts.f k l0 a1 = some true
end Go.Proofs.Ytblllpbodnjmoaa.StaPrefsCuts
