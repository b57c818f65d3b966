-- What the parameters of PingQuiet hold, and the pure statement (written by mklaw.py).
import Derived.Test.YtkakcalabpobpaaPPingQuietx0
import Derived.Test.YtkakcalabpobpaaPPingQuietx1
import Derived.Test.YtkakcalabpobpaaPPingQuietx2
import Derived.Test.YtkakcalabpobpaaOpen
import Derived.KernelRfl
namespace Go.Proofs.Ytkakcalabpobpaa.StaPingQuiet
open Go.RowKit Go.Proofs.YtkakcalabpobpaaW.PrintWords Go.Proofs.YtkakcalabpobpaaW.PrintLast Go.Proofs.YtkakcalabpobpaaW.PrintMore Go.Proofs.Ytkakcalabpobpaa.Open Go.Proofs.Ytkakcalabpobpaa.PPingQuiet
set_option linter.unusedVariables false
theorem oArg2 : Opens Try.prog 39 (Kd.slice 9 Kd.string) (fun v => v.length ≤ maxLen ∧ v.length * 16 ≤ 140737488351232 ∧ ∀ x ∈ v, x.size ≤ 140737488351232) := (opens_slice 9 Try.underlying39 (by kernel_rfl) (by kernel_rfl) (opens_string Try.underlying9))
def Pure : Prop := ∀ (a0 : Int) (a1 : Int) (l2 : List (ByteArray)), (Lit.int .i64 a0).wf = true → (Lit.int .i64 a1).wf = true → (l2.length ≤ maxLen ∧ l2.length * 16 ≤ 140737488351232 ∧ ∀ x ∈ l2, x.size ≤ 140737488351232) → ∃ k, bywashlaw17_PingQuiet.f k a0 a1 l2 = some true
end Go.Proofs.Ytkakcalabpobpaa.StaPingQuiet
