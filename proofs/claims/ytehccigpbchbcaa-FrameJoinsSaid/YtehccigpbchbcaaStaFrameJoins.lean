-- What the parameters of FrameJoins hold, and the pure statement (written by mklaw.py).
import Derived.Test.YtehccigpbchbcaaPFrameJoinsx0
import Derived.Test.YtehccigpbchbcaaPFrameJoinsx1
import Derived.Test.YtehccigpbchbcaaPFrameJoinsx2
import Derived.Test.YtehccigpbchbcaaPFrameJoinsx3
import Derived.Test.YtehccigpbchbcaaPFrameJoinsx4
import Derived.Test.YtehccigpbchbcaaPFrameJoinsx5
import Derived.Test.YtehccigpbchbcaaOpen
import Derived.KernelRfl
namespace Go.Proofs.Ytehccigpbchbcaa.StaFrameJoins
open Go.RowKit Go.Proofs.YtehccigpbchbcaaW.PrintWords Go.Proofs.YtehccigpbchbcaaW.PrintLast Go.Proofs.YtehccigpbchbcaaW.PrintMore Go.Proofs.Ytehccigpbchbcaa.Open Go.Proofs.Ytehccigpbchbcaa.PFrameJoins
set_option linter.unusedVariables false
def G23 (x : S23) : Prop := (Lit.int .i64 x.f0).wf = true ∧ (Lit.int .i64 x.f1).wf = true ∧ (Lit.int .i64 x.f2).wf = true ∧ x.f3.size ≤ 140737488351232
instance : Inhabited S23 := ⟨z23⟩
theorem o23 : Opens Try.prog 23 k23 G23 := opens_struct (fun x : S23 => (x.f0, x.f1, x.f2, x.f3)) (fun p => ⟨p.1, p.2.1, p.2.2.1, p.2.2.2⟩) (fun _ => rfl) Try.underlying23 (by kernel_rfl) (opensFs_cons rfl (by kernel_rfl) rfl (opens_int Try.underlying3) (opensFs_cons rfl (by kernel_rfl) rfl (opens_int Try.underlying3) (opensFs_cons rfl (by kernel_rfl) rfl (opens_int Try.underlying3) (opensFs_one rfl (by kernel_rfl) (opens_string Try.underlying9)))))
theorem oArg0 : Opens Try.prog 37 (Kd.slice 23 k23) (fun v => v.length ≤ maxLen ∧ v.length * 40 ≤ 140737488351232 ∧ ∀ x ∈ v, G23 x) := (opens_slice 23 Try.underlying37 (by kernel_rfl) (by kernel_rfl) o23)
def Pure : Prop := ∀ (l0 : List (S23)), (l0.length ≤ maxLen ∧ l0.length * 40 ≤ 140737488351232 ∧ ∀ x ∈ l0, G23 x) → ∃ k, bywashlaw7_FrameJoins.f k l0 = some true
end Go.Proofs.Ytehccigpbchbcaa.StaFrameJoins
