-- What the parameters of FrameTells hold, and the pure statement (written by mklaw.py).
import Derived.Test.YtehccigpbchbcaaPFrameTellsx0
import Derived.Test.YtehccigpbchbcaaPFrameTellsx1
import Derived.Test.YtehccigpbchbcaaPFrameTellsx2
import Derived.Test.YtehccigpbchbcaaPFrameTellsx3
import Derived.Test.YtehccigpbchbcaaPFrameTellsx4
import Derived.Test.YtehccigpbchbcaaPFrameTellsx5
import Derived.Test.YtehccigpbchbcaaPFrameTellsx6
import Derived.Test.YtehccigpbchbcaaPFrameTellsx7
import Derived.Test.YtehccigpbchbcaaOpen
import Derived.KernelRfl
namespace Go.Proofs.Ytehccigpbchbcaa.StaFrameTells
open Go.RowKit Go.Proofs.YtehccigpbchbcaaW.PrintWords Go.Proofs.YtehccigpbchbcaaW.PrintLast Go.Proofs.YtehccigpbchbcaaW.PrintMore Go.Proofs.Ytehccigpbchbcaa.Open Go.Proofs.Ytehccigpbchbcaa.PFrameTells
set_option linter.unusedVariables false
structure S23 where
  f0 : Int
  f1 : Int
  f2 : Int
  f3 : ByteArray
def z23 : S23 := ⟨0, 0, 0, ByteArray.empty⟩
def k23 : Kd S23 := Kd.iso (Kd.pair (Kd.int .i64) (Kd.pair (Kd.int .i64) (Kd.pair (Kd.int .i64) Kd.string))) (fun x : S23 => (x.f0, x.f1, x.f2, x.f3))
theorem k23_open {w : World} {x : S23} {cs : List Value} (h : k23.K w x cs) : cs = [.int .i64 x.f0, .int .i64 x.f1, .int .i64 x.f2, .string x.f3] := by
  obtain ⟨_, _, rfl, rfl, ⟨_, _, rfl, rfl, ⟨_, _, rfl, rfl, rfl⟩⟩⟩ := h
  exact rfl
def G23 (x : S23) : Prop := (Lit.int .i64 x.f0).wf = true ∧ (Lit.int .i64 x.f1).wf = true ∧ (Lit.int .i64 x.f2).wf = true ∧ x.f3.size ≤ 140737488351232
instance : Inhabited S23 := ⟨z23⟩
theorem o23 : Opens Try.prog 23 k23 G23 := opens_struct (fun x : S23 => (x.f0, x.f1, x.f2, x.f3)) (fun p => ⟨p.1, p.2.1, p.2.2.1, p.2.2.2⟩) (fun _ => rfl) Try.underlying23 (by kernel_rfl) (opensFs_cons rfl (by kernel_rfl) rfl (opens_int Try.underlying3) (opensFs_cons rfl (by kernel_rfl) rfl (opens_int Try.underlying3) (opensFs_cons rfl (by kernel_rfl) rfl (opens_int Try.underlying3) (opensFs_one rfl (by kernel_rfl) (opens_string Try.underlying9)))))
theorem oArg0 : Opens Try.prog 23 k23 (fun v => G23 v) := o23
def Pure : Prop := ∀ (a0 : S23) (a1 : ByteArray) (a2 : Int), G23 a0 → a1.size ≤ 140737488351232 → (Lit.int .i64 a2).wf = true → ∃ k, bywashlaw7_FrameTells.f k a0.f0 a0.f1 a0.f2 a0.f3 a1 a2 = some true
end Go.Proofs.Ytehccigpbchbcaa.StaFrameTells
