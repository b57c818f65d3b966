-- What the parameters of BlockBetween hold, and the pure statement (written by mklaw.py).
import Derived.Test.YtdonanibfifodaaPBlockBetweenx0
import Derived.Test.YtdonanibfifodaaPBlockBetweenx1
import Derived.Test.YtdonanibfifodaaPBlockBetweenx2
import Derived.Test.YtdonanibfifodaaPBlockBetweenx3
import Derived.Test.YtdonanibfifodaaPBlockBetweenx4
import Derived.Test.YtdonanibfifodaaPBlockBetweenx5
import Derived.Test.YtdonanibfifodaaPBlockBetweenx6
import Derived.Test.YtdonanibfifodaaPBlockBetweenx7
import Derived.Test.YtdonanibfifodaaOpen
import Derived.KernelRfl
namespace Go.Proofs.Ytdonanibfifodaa.StaBlockBetween
open Go.RowKit Go.Proofs.YtdonanibfifodaaW.PrintWords Go.Proofs.YtdonanibfifodaaW.PrintLast Go.Proofs.YtdonanibfifodaaW.PrintMore Go.Proofs.Ytdonanibfifodaa.Open Go.Proofs.Ytdonanibfifodaa.PBlockBetween
set_option linter.unusedVariables false
def G39 (x : S39) : Prop := (Lit.int .i64 x.f0).wf = true ∧ (Lit.int .i64 x.f1).wf = true ∧ (Lit.int .i64 x.f2).wf = true ∧ x.f3.size ≤ 140737488351232
instance : Inhabited S39 := ⟨z39⟩
theorem o39 : Opens Try.prog 39 k39 G39 := opens_struct (fun x : S39 => (x.f0, x.f1, x.f2, x.f3)) (fun p => ⟨p.1, p.2.1, p.2.2.1, p.2.2.2⟩) (fun _ => rfl) Try.underlying39 (by kernel_rfl) (opensFs_cons rfl (by kernel_rfl) rfl (opens_int Try.underlying3) (opensFs_cons rfl (by kernel_rfl) rfl (opens_int Try.underlying3) (opensFs_cons rfl (by kernel_rfl) rfl (opens_int Try.underlying3) (opensFs_one rfl (by kernel_rfl) (opens_string Try.underlying9)))))
theorem oArg1 : Opens Try.prog 39 k39 (fun v => G39 v) := o39
def Pure : Prop := ∀ (a0 : ByteArray) (a1 : S39) (a2 : Int), a0.size ≤ 140737488351232 → G39 a1 → (Lit.int .i64 a2).wf = true → ∃ k, bywashlaw11_BlockBetween.f k a0 a1.f0 a1.f1 a1.f2 a1.f3 a2 = some true
end Go.Proofs.Ytdonanibfifodaa.StaBlockBetween
