-- What the parameters of PingPlays hold, and the pure statement (written by mklaw.py).
import Derived.Test.YtkakcalabpobpaaPPingPlaysx0
import Derived.Test.YtkakcalabpobpaaPPingPlaysx1
import Derived.Test.YtkakcalabpobpaaPPingPlaysx2
import Derived.Test.YtkakcalabpobpaaPPingPlaysx3
import Derived.Test.YtkakcalabpobpaaPPingPlaysx4
import Derived.Test.YtkakcalabpobpaaOpen
import Derived.KernelRfl
namespace Go.Proofs.Ytkakcalabpobpaa.StaPingPlays
open Go.RowKit Go.Proofs.YtkakcalabpobpaaW.PrintWords Go.Proofs.YtkakcalabpobpaaW.PrintLast Go.Proofs.YtkakcalabpobpaaW.PrintMore Go.Proofs.Ytkakcalabpobpaa.Open Go.Proofs.Ytkakcalabpobpaa.PPingPlays
set_option linter.unusedVariables false
def G34 (x : S34) : Prop := (Lit.int .i64 x.f0).wf = true ∧ x.f1.size ≤ 140737488351232
instance : Inhabited S34 := ⟨z34⟩
theorem o34 : Opens Try.prog 34 k34 G34 := opens_struct (fun x : S34 => (x.f0, x.f1)) (fun p => ⟨p.1, p.2⟩) (fun _ => rfl) Try.underlying34 (by kernel_rfl) (opensFs_cons rfl (by kernel_rfl) rfl (opens_int Try.underlying3) (opensFs_one rfl (by kernel_rfl) (opens_string Try.underlying9)))
theorem oArg2 : Opens Try.prog 22 (Kd.slice 34 k34) (fun v => v.length ≤ maxLen ∧ v.length * 24 ≤ 140737488351232 ∧ ∀ x ∈ v, G34 x) := (opens_slice 34 Try.underlying22 (by kernel_rfl) (by kernel_rfl) o34)
def Pure : Prop := ∀ (a0 : Int) (a1 : Int) (l2 : List (S34)), (Lit.int .i64 a0).wf = true → (Lit.int .i64 a1).wf = true → (l2.length ≤ maxLen ∧ l2.length * 24 ≤ 140737488351232 ∧ ∀ x ∈ l2, G34 x) → ∃ k, bywashlaw17_PingPlays.f k a0 a1 l2 = some true
end Go.Proofs.Ytkakcalabpobpaa.StaPingPlays
