-- What the parameters of IdsPlays hold, and the pure statement (written by mklaw.py).
import Derived.Test.YtndchendimbfnaaPIdsPlaysx0
import Derived.Test.YtndchendimbfnaaPIdsPlaysx1
import Derived.Test.YtndchendimbfnaaPIdsPlaysx2
import Derived.Test.YtndchendimbfnaaOpen
import Derived.KernelRfl
namespace Go.Proofs.Ytndchendimbfnaa.StaIdsPlays
open Go.RowKit Go.Proofs.YtndchendimbfnaaW.PrintWords Go.Proofs.YtndchendimbfnaaW.PrintLast Go.Proofs.YtndchendimbfnaaW.PrintMore Go.Proofs.Ytndchendimbfnaa.Open Go.Proofs.Ytndchendimbfnaa.PIdsPlays
set_option linter.unusedVariables false
theorem oArg2 : Opens Try.prog 38 (Kd.slice 3 (Kd.int .i64)) (fun v => v.length ≤ maxLen ∧ v.length * 8 ≤ 140737488351232 ∧ ∀ x ∈ v, (Lit.int .i64 x).wf = true) := (opens_slice 3 Try.underlying38 (by kernel_rfl) (by kernel_rfl) (opens_int Try.underlying3))
def Pure : Prop := ∀ (a0 : Int) (a1 : Int) (l2 : List (Int)), (Lit.int .i64 a0).wf = true → (Lit.int .i64 a1).wf = true → (l2.length ≤ maxLen ∧ l2.length * 8 ≤ 140737488351232 ∧ ∀ x ∈ l2, (Lit.int .i64 x).wf = true) → ∃ k, bywashlaw18_IdsPlays.f k a0 a1 l2 = some true
end Go.Proofs.Ytndchendimbfnaa.StaIdsPlays
