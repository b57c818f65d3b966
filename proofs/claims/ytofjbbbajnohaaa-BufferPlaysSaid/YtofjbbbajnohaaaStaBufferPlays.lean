-- What the parameters of BufferPlays hold, and the pure statement (written by mklaw.py).
import Derived.Test.YtofjbbbajnohaaaPBufferPlaysx0
import Derived.Test.YtofjbbbajnohaaaPBufferPlaysx1
import Derived.Test.YtofjbbbajnohaaaPBufferPlaysx2
import Derived.Test.YtofjbbbajnohaaaPBufferPlaysx3
import Derived.Test.YtofjbbbajnohaaaOpen
import Derived.KernelRfl
namespace Go.Proofs.Ytofjbbbajnohaaa.StaBufferPlays
open Go.RowKit Go.Proofs.YtofjbbbajnohaaaW.PrintWords Go.Proofs.YtofjbbbajnohaaaW.PrintLast Go.Proofs.YtofjbbbajnohaaaW.PrintMore Go.Proofs.Ytofjbbbajnohaaa.Open Go.Proofs.Ytofjbbbajnohaaa.PBufferPlays
set_option linter.unusedVariables false
def G33 (x : S33) : Prop := (Lit.int .i64 x.f0).wf = true ∧ (Lit.int .i64 x.f1).wf = true ∧ x.f2.size ≤ 140737488351232
instance : Inhabited S33 := ⟨z33⟩
theorem o33 : Opens Try.prog 33 k33 G33 := opens_struct (fun x : S33 => (x.f0, x.f1, x.f2)) (fun p => ⟨p.1, p.2.1, p.2.2⟩) (fun _ => rfl) Try.underlying33 (by kernel_rfl) (opensFs_cons rfl (by kernel_rfl) rfl (opens_int Try.underlying3) (opensFs_cons rfl (by kernel_rfl) rfl (opens_int Try.underlying3) (opensFs_one rfl (by kernel_rfl) (opens_string Try.underlying9))))
theorem oArg1 : Opens Try.prog 31 (Kd.slice 33 k33) (fun v => v.length ≤ maxLen ∧ v.length * 32 ≤ 140737488351232 ∧ ∀ x ∈ v, G33 x) := (opens_slice 33 Try.underlying31 (by kernel_rfl) (by kernel_rfl) o33)
def Pure : Prop := ∀ (a0 : Int) (l1 : List (S33)), (Lit.int .i64 a0).wf = true → (l1.length ≤ maxLen ∧ l1.length * 32 ≤ 140737488351232 ∧ ∀ x ∈ l1, G33 x) → ∃ k, bywashlaw13_BufferPlays.f k a0 l1 = some true
end Go.Proofs.Ytofjbbbajnohaaa.StaBufferPlays
