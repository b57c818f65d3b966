-- What the parameters of BufferPieces hold, and the pure statement (written by mklaw.py).
import Derived.Test.YtofjbbbajnohaaaPBufferPiecesx0
import Derived.Test.YtofjbbbajnohaaaPBufferPiecesx1
import Derived.Test.YtofjbbbajnohaaaPBufferPiecesx2
import Derived.Test.YtofjbbbajnohaaaOpen
import Derived.KernelRfl
namespace Go.Proofs.Ytofjbbbajnohaaa.StaBufferPieces
open Go.RowKit Go.Proofs.YtofjbbbajnohaaaW.PrintWords Go.Proofs.YtofjbbbajnohaaaW.PrintLast Go.Proofs.YtofjbbbajnohaaaW.PrintMore Go.Proofs.Ytofjbbbajnohaaa.Open Go.Proofs.Ytofjbbbajnohaaa.PBufferPieces
set_option linter.unusedVariables false
theorem oArg0 : Opens Try.prog 22 (Kd.slice 9 Kd.string) (fun v => v.length ≤ maxLen ∧ v.length * 16 ≤ 140737488351232 ∧ ∀ x ∈ v, x.size ≤ 140737488351232) := (opens_slice 9 Try.underlying22 (by kernel_rfl) (by kernel_rfl) (opens_string Try.underlying9))
theorem oArg1 : Opens Try.prog 23 (Kd.slice 3 (Kd.int .i64)) (fun v => v.length ≤ maxLen ∧ v.length * 8 ≤ 140737488351232 ∧ ∀ x ∈ v, (Lit.int .i64 x).wf = true) := (opens_slice 3 Try.underlying23 (by kernel_rfl) (by kernel_rfl) (opens_int Try.underlying3))
def Pure : Prop := ∀ (l0 : List (ByteArray)) (l1 : List (Int)), (l0.length ≤ maxLen ∧ l0.length * 16 ≤ 140737488351232 ∧ ∀ x ∈ l0, x.size ≤ 140737488351232) → (l1.length ≤ maxLen ∧ l1.length * 8 ≤ 140737488351232 ∧ ∀ x ∈ l1, (Lit.int .i64 x).wf = true) → ∃ k, bywashlaw13_BufferPieces.f k l0 l1 = some true
end Go.Proofs.Ytofjbbbajnohaaa.StaBufferPieces
