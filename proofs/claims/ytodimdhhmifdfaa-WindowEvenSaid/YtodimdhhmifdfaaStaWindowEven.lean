-- What the parameters of WindowEven hold, and the pure statement (written by mklaw.py).
import Derived.Test.YtodimdhhmifdfaaPWindowEvenx0
import Derived.Test.YtodimdhhmifdfaaPWindowEvenx1
import Derived.Test.YtodimdhhmifdfaaPWindowEvenx2
import Derived.Test.YtodimdhhmifdfaaOpen
import Derived.KernelRfl
namespace Go.Proofs.Ytodimdhhmifdfaa.StaWindowEven
open Go.RowKit Go.Proofs.YtodimdhhmifdfaaW.PrintWords Go.Proofs.YtodimdhhmifdfaaW.PrintLast Go.Proofs.YtodimdhhmifdfaaW.PrintMore Go.Proofs.Ytodimdhhmifdfaa.Open Go.Proofs.Ytodimdhhmifdfaa.PWindowEven
set_option linter.unusedVariables false
theorem oArg1 : Opens Try.prog 22 (Kd.slice 3 (Kd.int .i64)) (fun v => v.length ≤ maxLen ∧ v.length * 8 ≤ 140737488351232 ∧ ∀ x ∈ v, (Lit.int .i64 x).wf = true) := (opens_slice 3 Try.underlying22 (by kernel_rfl) (by kernel_rfl) (opens_int Try.underlying3))
def Pure : Prop := ∀ (a0 : Int) (l1 : List (Int)), (Lit.int .i64 a0).wf = true → (l1.length ≤ maxLen ∧ l1.length * 8 ≤ 140737488351232 ∧ ∀ x ∈ l1, (Lit.int .i64 x).wf = true) → ∃ k, bywashlaw12_WindowEven.f k a0 l1 = some true
end Go.Proofs.Ytodimdhhmifdfaa.StaWindowEven
