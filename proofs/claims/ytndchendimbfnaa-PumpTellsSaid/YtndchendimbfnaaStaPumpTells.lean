-- What the parameters of PumpTells hold, and the pure statement (written by mklaw.py).
import Derived.Test.YtndchendimbfnaaPPumpTellsx0
import Derived.Test.YtndchendimbfnaaPPumpTellsx1
import Derived.Test.YtndchendimbfnaaPPumpTellsx2
import Derived.Test.YtndchendimbfnaaPPumpTellsx3
import Derived.Test.YtndchendimbfnaaPPumpTellsx4
import Derived.Test.YtndchendimbfnaaPPumpTellsx5
import Derived.Test.YtndchendimbfnaaOpen
import Derived.KernelRfl
namespace Go.Proofs.Ytndchendimbfnaa.StaPumpTells
open Go.RowKit Go.Proofs.YtndchendimbfnaaW.PrintWords Go.Proofs.YtndchendimbfnaaW.PrintLast Go.Proofs.YtndchendimbfnaaW.PrintMore Go.Proofs.Ytndchendimbfnaa.Open Go.Proofs.Ytndchendimbfnaa.PPumpTells
set_option linter.unusedVariables false
def G26 (x : S26) : Prop := (Lit.int .i64 x.f0).wf = true ∧ (Lit.int .i64 x.f1).wf = true ∧ (Lit.int .i64 x.f2).wf = true ∧ True
instance : Inhabited S26 := ⟨z26⟩
theorem o26 : Opens Try.prog 26 k26 G26 := opens_struct (fun x : S26 => (x.f0, x.f1, x.f2, x.f3)) (fun p => ⟨p.1, p.2.1, p.2.2.1, p.2.2.2⟩) (fun _ => rfl) Try.underlying26 (by kernel_rfl) (opensFs_cons rfl (by kernel_rfl) rfl (opens_int Try.underlying3) (opensFs_cons rfl (by kernel_rfl) rfl (opens_int Try.underlying3) (opensFs_cons rfl (by kernel_rfl) rfl (opens_int Try.underlying3) (opensFs_one rfl (by kernel_rfl) (opens_bool Try.underlying4)))))
theorem oArg2 : Opens Try.prog 22 (Kd.slice 26 k26) (fun v => v.length ≤ maxLen ∧ v.length * 32 ≤ 140737488351232 ∧ ∀ x ∈ v, G26 x) := (opens_slice 26 Try.underlying22 (by kernel_rfl) (by kernel_rfl) o26)
def Pure : Prop := ∀ (a0 : Int) (a1 : Int) (l2 : List (S26)), (Lit.int .i64 a0).wf = true → (Lit.int .i64 a1).wf = true → (l2.length ≤ maxLen ∧ l2.length * 32 ≤ 140737488351232 ∧ ∀ x ∈ l2, G26 x) → ∃ k, bywashlaw16_PumpTells.f k a0 a1 l2 = some true
end Go.Proofs.Ytndchendimbfnaa.StaPumpTells
