-- What the parameters of WindowPlays hold, and the pure statement (written by mklaw.py).
import Derived.Test.YtodimdhhmifdfaaPWindowPlaysx0
import Derived.Test.YtodimdhhmifdfaaPWindowPlaysx1
import Derived.Test.YtodimdhhmifdfaaPWindowPlaysx2
import Derived.Test.YtodimdhhmifdfaaPWindowPlaysx3
import Derived.Test.YtodimdhhmifdfaaPWindowPlaysx4
import Derived.Test.YtodimdhhmifdfaaOpen
import Derived.KernelRfl
namespace Go.Proofs.Ytodimdhhmifdfaa.StaWindowPlays
open Go.RowKit Go.Proofs.YtodimdhhmifdfaaW.PrintWords Go.Proofs.YtodimdhhmifdfaaW.PrintLast Go.Proofs.YtodimdhhmifdfaaW.PrintMore Go.Proofs.Ytodimdhhmifdfaa.Open Go.Proofs.Ytodimdhhmifdfaa.PWindowPlays
set_option linter.unusedVariables false
def G38 (x : S38) : Prop := (Lit.int .i64 x.f0).wf = true ∧ (Lit.int .i64 x.f1).wf = true
instance : Inhabited S38 := ⟨z38⟩
theorem o38 : Opens Try.prog 38 k38 G38 := opens_struct (fun x : S38 => (x.f0, x.f1)) (fun p => ⟨p.1, p.2⟩) (fun _ => rfl) Try.underlying38 (by kernel_rfl) (opensFs_cons rfl (by kernel_rfl) rfl (opens_int Try.underlying3) (opensFs_one rfl (by kernel_rfl) (opens_int Try.underlying3)))
theorem oArg1 : Opens Try.prog 34 (Kd.slice 38 k38) (fun v => v.length ≤ maxLen ∧ v.length * 16 ≤ 140737488351232 ∧ ∀ x ∈ v, G38 x) := (opens_slice 38 Try.underlying34 (by kernel_rfl) (by kernel_rfl) o38)
def Pure : Prop := ∀ (a0 : Int) (l1 : List (S38)), (Lit.int .i64 a0).wf = true → (l1.length ≤ maxLen ∧ l1.length * 16 ≤ 140737488351232 ∧ ∀ x ∈ l1, G38 x) → ∃ k, bywashlaw12_WindowPlays.f k a0 l1 = some true
end Go.Proofs.Ytodimdhhmifdfaa.StaWindowPlays
