-- What the parameters of PumpOne hold, and the pure statement (written by mklaw.py).
import Derived.Test.YtjjdhaphgnldaaaPPumpOnex0
import Derived.Test.YtjjdhaphgnldaaaPPumpOnex1
import Derived.Test.YtjjdhaphgnldaaaPPumpOnex2
import Derived.Test.YtjjdhaphgnldaaaPPumpOnex3
import Derived.Test.YtjjdhaphgnldaaaOpen
import Derived.KernelRfl
namespace Go.Proofs.Ytjjdhaphgnldaaa.StaPumpOne
open Go.RowKit Go.Proofs.YtjjdhaphgnldaaaW.PrintWords Go.Proofs.YtjjdhaphgnldaaaW.PrintLast Go.Proofs.YtjjdhaphgnldaaaW.PrintMore Go.Proofs.Ytjjdhaphgnldaaa.Open Go.Proofs.Ytjjdhaphgnldaaa.PPumpOne
set_option linter.unusedVariables false
def G26 (x : S26) : Prop := (Lit.int .i64 x.f0).wf = true ∧ (Lit.int .i64 x.f1).wf = true ∧ (Lit.int .i64 x.f2).wf = true ∧ True
instance : Inhabited S26 := ⟨z26⟩
theorem o26 : Opens Try.prog 26 k26 G26 := opens_struct (fun x : S26 => (x.f0, x.f1, x.f2, x.f3)) (fun p => ⟨p.1, p.2.1, p.2.2.1, p.2.2.2⟩) (fun _ => rfl) Try.underlying26 (by kernel_rfl) (opensFs_cons rfl (by kernel_rfl) rfl (opens_int Try.underlying3) (opensFs_cons rfl (by kernel_rfl) rfl (opens_int Try.underlying3) (opensFs_cons rfl (by kernel_rfl) rfl (opens_int Try.underlying3) (opensFs_one rfl (by kernel_rfl) (opens_bool Try.underlying4)))))
theorem oArg2 : Opens Try.prog 26 k26 (fun v => G26 v) := o26
def Pure : Prop := ∀ (a0 : Int) (a1 : Int) (a2 : S26), (Lit.int .i64 a0).wf = true → (Lit.int .i64 a1).wf = true → G26 a2 → ∃ k, bywashlaw16_PumpOne.f k a0 a1 a2.f0 a2.f1 a2.f2 a2.f3 = some true
end Go.Proofs.Ytjjdhaphgnldaaa.StaPumpOne
