-- What the parameters of SplitHolds hold, and the pure statement (written by mklaw.py).
import Derived.Test.YtcbikdnibjjnbaaPSplitHoldsx0
import Derived.Test.YtcbikdnibjjnbaaPSplitHoldsx1
import Derived.Test.YtcbikdnibjjnbaaPSplitHoldsx2
import Derived.Test.YtcbikdnibjjnbaaPSplitHoldsx3
import Derived.Test.YtcbikdnibjjnbaaPSplitHoldsx4
import Derived.Test.YtcbikdnibjjnbaaPSplitHoldsx5
import Derived.Test.YtcbikdnibjjnbaaOpen
import Derived.KernelRfl
namespace Go.Proofs.Ytcbikdnibjjnbaa.StaSplitHolds
open Go.RowKit Go.Proofs.YtcbikdnibjjnbaaW.PrintWords Go.Proofs.YtcbikdnibjjnbaaW.PrintLast Go.Proofs.YtcbikdnibjjnbaaW.PrintMore Go.Proofs.Ytcbikdnibjjnbaa.Open Go.Proofs.Ytcbikdnibjjnbaa.PSplitHolds
set_option linter.unusedVariables false
structure S28 where
  f0 : Int
  f1 : Int
  f2 : Int
  f3 : ByteArray
def z28 : S28 := ⟨0, 0, 0, ByteArray.empty⟩
def k28 : Kd S28 := Kd.iso (Kd.pair (Kd.int .i64) (Kd.pair (Kd.int .i64) (Kd.pair (Kd.int .i64) Kd.string))) (fun x : S28 => (x.f0, x.f1, x.f2, x.f3))
theorem k28_open {w : World} {x : S28} {cs : List Value} (h : k28.K w x cs) : cs = [.int .i64 x.f0, .int .i64 x.f1, .int .i64 x.f2, .string x.f3] := by
  obtain ⟨_, _, rfl, rfl, ⟨_, _, rfl, rfl, ⟨_, _, rfl, rfl, rfl⟩⟩⟩ := h
  exact rfl
def G28 (x : S28) : Prop := (Lit.int .i64 x.f0).wf = true ∧ (Lit.int .i64 x.f1).wf = true ∧ (Lit.int .i64 x.f2).wf = true ∧ x.f3.size ≤ 140737488351232
instance : Inhabited S28 := ⟨z28⟩
theorem o28 : Opens Try.prog 28 k28 G28 := opens_struct (fun x : S28 => (x.f0, x.f1, x.f2, x.f3)) (fun p => ⟨p.1, p.2.1, p.2.2.1, p.2.2.2⟩) (fun _ => rfl) Try.underlying28 (by kernel_rfl) (opensFs_cons rfl (by kernel_rfl) rfl (opens_int Try.underlying3) (opensFs_cons rfl (by kernel_rfl) rfl (opens_int Try.underlying3) (opensFs_cons rfl (by kernel_rfl) rfl (opens_int Try.underlying3) (opensFs_one rfl (by kernel_rfl) (opens_string Try.underlying9)))))
theorem oArg0 : Opens Try.prog 28 k28 (fun v => G28 v) := o28
def Pure : Prop := ∀ (a0 : S28) (a1 : Int), G28 a0 → (Lit.int .i64 a1).wf = true → ∃ k, bywashlaw8_SplitHolds.f k a0.f0 a0.f1 a0.f2 a0.f3 a1 = some true
end Go.Proofs.Ytcbikdnibjjnbaa.StaSplitHolds
