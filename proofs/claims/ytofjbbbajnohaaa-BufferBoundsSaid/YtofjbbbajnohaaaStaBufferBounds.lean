-- What the parameters of BufferBounds hold, and the pure statement (written by mklaw.py).
import Derived.Test.YtofjbbbajnohaaaPBufferBoundsx0
import Derived.Test.YtofjbbbajnohaaaPBufferBoundsx1
import Derived.Test.YtofjbbbajnohaaaPBufferBoundsx2
import Derived.Test.YtofjbbbajnohaaaPBufferBoundsx3
import Derived.Test.YtofjbbbajnohaaaOpen
import Derived.KernelRfl
namespace Go.Proofs.Ytofjbbbajnohaaa.StaBufferBounds
open Go.RowKit Go.Proofs.YtofjbbbajnohaaaW.PrintWords Go.Proofs.YtofjbbbajnohaaaW.PrintLast Go.Proofs.YtofjbbbajnohaaaW.PrintMore Go.Proofs.Ytofjbbbajnohaaa.Open Go.Proofs.Ytofjbbbajnohaaa.PBufferBounds
set_option linter.unusedVariables false
theorem oArg1 : Opens Try.prog 22 (Kd.slice 9 Kd.string) (fun v => v.length ≤ maxLen ∧ v.length * 16 ≤ 140737488351232 ∧ ∀ x ∈ v, x.size ≤ 140737488351232) := (opens_slice 9 Try.underlying22 (by kernel_rfl) (by kernel_rfl) (opens_string Try.underlying9))
def Pure : Prop := ∀ (a0 : Int) (l1 : List (ByteArray)), (Lit.int .i64 a0).wf = true → (l1.length ≤ maxLen ∧ l1.length * 16 ≤ 140737488351232 ∧ ∀ x ∈ l1, x.size ≤ 140737488351232) → ∃ k, bywashlaw13_BufferBounds.f k a0 l1 = some true
end Go.Proofs.Ytofjbbbajnohaaa.StaBufferBounds
