-- What the parameters of SplitPlays hold, and the pure statement (written by mklaw.py).
import Derived.Test.YtcbikdnibjjnbaaPSplitPlaysx0
import Derived.Test.YtcbikdnibjjnbaaPSplitPlaysx1
import Derived.Test.YtcbikdnibjjnbaaPSplitPlaysx2
import Derived.Test.YtcbikdnibjjnbaaPSplitPlaysx3
import Derived.Test.YtcbikdnibjjnbaaPSplitPlaysx4
import Derived.Test.YtcbikdnibjjnbaaPSplitPlaysx5
import Derived.Test.YtcbikdnibjjnbaaPSplitPlaysx6
import Derived.Test.YtcbikdnibjjnbaaOpen
import Derived.KernelRfl
namespace Go.Proofs.Ytcbikdnibjjnbaa.StaSplitPlays
open Go.RowKit Go.Proofs.YtcbikdnibjjnbaaW.PrintWords Go.Proofs.YtcbikdnibjjnbaaW.PrintLast Go.Proofs.YtcbikdnibjjnbaaW.PrintMore Go.Proofs.Ytcbikdnibjjnbaa.Open Go.Proofs.Ytcbikdnibjjnbaa.PSplitPlays
set_option linter.unusedVariables false
theorem oArg1 : Opens Try.prog 22 (Kd.slice 9 Kd.string) (fun v => v.length ≤ maxLen ∧ v.length * 16 ≤ 140737488351232 ∧ ∀ x ∈ v, x.size ≤ 140737488351232) := (opens_slice 9 Try.underlying22 (by kernel_rfl) (by kernel_rfl) (opens_string Try.underlying9))
theorem oArg2 : Opens Try.prog 23 (Kd.slice 3 (Kd.int .i64)) (fun v => v.length ≤ maxLen ∧ v.length * 8 ≤ 140737488351232 ∧ ∀ x ∈ v, (Lit.int .i64 x).wf = true) := (opens_slice 3 Try.underlying23 (by kernel_rfl) (by kernel_rfl) (opens_int Try.underlying3))
def Pure : Prop := ∀ (a0 : Int) (l1 : List (ByteArray)) (l2 : List (Int)), (Lit.int .i64 a0).wf = true → (l1.length ≤ maxLen ∧ l1.length * 16 ≤ 140737488351232 ∧ ∀ x ∈ l1, x.size ≤ 140737488351232) → (l2.length ≤ maxLen ∧ l2.length * 8 ≤ 140737488351232 ∧ ∀ x ∈ l2, (Lit.int .i64 x).wf = true) → ∃ k, bywashlaw8_SplitPlays.f k a0 l1 l2 = some true
end Go.Proofs.Ytcbikdnibjjnbaa.StaSplitPlays
