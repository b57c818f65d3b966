-- What the parameters of SplitGreat hold, and the pure statement (written by mklaw.py).
import Derived.Test.YtcbikdnibjjnbaaPSplitGreatx0
import Derived.Test.YtcbikdnibjjnbaaPSplitGreatx1
import Derived.Test.YtcbikdnibjjnbaaPSplitGreatx2
import Derived.Test.YtcbikdnibjjnbaaPSplitGreatx3
import Derived.Test.YtcbikdnibjjnbaaPSplitGreatx4
import Derived.Test.YtcbikdnibjjnbaaPSplitGreatx5
import Derived.Test.YtcbikdnibjjnbaaOpen
import Derived.KernelRfl
namespace Go.Proofs.Ytcbikdnibjjnbaa.StaSplitGreat
open Go.RowKit Go.Proofs.YtcbikdnibjjnbaaW.PrintWords Go.Proofs.YtcbikdnibjjnbaaW.PrintLast Go.Proofs.YtcbikdnibjjnbaaW.PrintMore Go.Proofs.Ytcbikdnibjjnbaa.Open Go.Proofs.Ytcbikdnibjjnbaa.PSplitGreat
set_option linter.unusedVariables false
def G28 (x : S28) : Prop := (Lit.int .i64 x.f0).wf = true ∧ (Lit.int .i64 x.f1).wf = true ∧ (Lit.int .i64 x.f2).wf = true ∧ x.f3.size ≤ 140737488351232
instance : Inhabited S28 := ⟨z28⟩
theorem o28 : Opens Try.prog 28 k28 G28 := opens_struct (fun x : S28 => (x.f0, x.f1, x.f2, x.f3)) (fun p => ⟨p.1, p.2.1, p.2.2.1, p.2.2.2⟩) (fun _ => rfl) Try.underlying28 (by kernel_rfl) (opensFs_cons rfl (by kernel_rfl) rfl (opens_int Try.underlying3) (opensFs_cons rfl (by kernel_rfl) rfl (opens_int Try.underlying3) (opensFs_cons rfl (by kernel_rfl) rfl (opens_int Try.underlying3) (opensFs_one rfl (by kernel_rfl) (opens_string Try.underlying9)))))
theorem oArg2 : Opens Try.prog 38 (Kd.slice 28 k28) (fun v => v.length ≤ maxLen ∧ v.length * 40 ≤ 140737488351232 ∧ ∀ x ∈ v, G28 x) := (opens_slice 28 Try.underlying38 (by kernel_rfl) (by kernel_rfl) o28)
def Pure : Prop := ∀ (a0 : Int) (a1 : Int) (l2 : List (S28)), (Lit.int .i64 a0).wf = true → (Lit.int .i64 a1).wf = true → (l2.length ≤ maxLen ∧ l2.length * 40 ≤ 140737488351232 ∧ ∀ x ∈ l2, G28 x) → ∃ k, bywashlaw8_SplitGreat.f k a0 a1 l2 = some true
end Go.Proofs.Ytcbikdnibjjnbaa.StaSplitGreat
