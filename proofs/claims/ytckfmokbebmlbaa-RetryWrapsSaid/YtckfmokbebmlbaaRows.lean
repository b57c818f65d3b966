/-
  No cell of these rows narrows 'for every input' (looked for: loops, veiled, ifaces, maps, wideKeys, modest, calm, conditions, laid).
  DERIVED. THE GIVEN ROWS OF THIS SEAT. 4 by the template 'for every input the law returns true; each argument reads behind the call as it read before'; 0 by the template 'total and deterministic' (their statements: YtckfmokbebmlbaaTotals.lean).
  GIVEN WITH THE SEED: the statements are not yours to turn. If you find one false, say at which input.
  Laid BY PROGRAM, IN A SANDBOX (cutbox-rows.mjs): the forced cells as the released guide's own fill.sh prints them over the translation b7dd4cc573432b95… (all of the seat's roots in one cut). By AI agents, Wed Nov 11 2026. No macro, syntax, notation, axiom, sorry.
-/
import Derived.Test.YtckfmokbebmlbaaChecked
import GoSem.Claim
import GoSem.ClaimJoined
import GoSem.ClaimMapViews
import Derived.JoinedTies
import Derived.KernelRfl
namespace Go.Proofs.Ytckfmokbebmlbaa
/- THE CELL 'sum', in the pinned program and in every row, IS THE sha256 OF THE DUMP (.gsa) THAT YtckfmokbebmlbaaProg.lean LOADS. Nothing in Lean hashes anything: it is a label: what it is worth is what the hold of that sum in a sandbox is worth. -/
noncomputable def Try.pinned : Pinned := { name := "ytckfmokbebmlbaa", sum := "b7dd4cc573432b95a4b947146afa269537785be6705d186baa46b612a44496f9", checked := Try.checked }
namespace Rows
def none {H : Type} : Left H := { results := [], args := [] }

/-- 'bywashlaw21.RetryOnce': WHATEVER THE INPUT: true; the input reads as it did. -/
def retryOnceSpec : ChangeSpec := { name := "retryOnce", fn := fun _ => fun
  | [d1, d2, d3, d4] => { results := [.lit (.bool true)], args := [d1, d2, d3, d4] }
  | _ => none }
def retryOnceRow : OpenClaim := { program := "ytckfmokbebmlbaa", sum := "b7dd4cc573432b95a4b947146afa269537785be6705d186baa46b612a44496f9", func := "bywash/bywashlaw21.RetryOnce", spec := "retryOnce", inPlace := ["internal/reflectlite.TypeOf"], unfollowed := true, recurses := true, apart := false }
def RetryOnceSaid : Prop := retryOnceRow.holds Try.pinned (OpenSpec.ofChange retryOnceSpec)

/-- ITS FALSE NEIGHBOUR: 'it returns false'. Refute it at one input. -/
def retryOnceWrong : ChangeSpec := { name := "retryOnce", fn := fun _ => fun
  | [d1, d2, d3, d4] => { results := [.lit (.bool false)], args := [d1, d2, d3, d4] }
  | _ => none }
def RetryOnceWrongFalsely : Prop := retryOnceRow.holds Try.pinned (OpenSpec.ofChange retryOnceWrong)

/-- 'bywashlaw21.RetryMost': WHATEVER THE INPUT: true; the input reads as it did. -/
def retryMostSpec : ChangeSpec := { name := "retryMost", fn := fun _ => fun
  | [d1, d2, d3, d4] => { results := [.lit (.bool true)], args := [d1, d2, d3, d4] }
  | _ => none }
def retryMostRow : OpenClaim := { program := "ytckfmokbebmlbaa", sum := "b7dd4cc573432b95a4b947146afa269537785be6705d186baa46b612a44496f9", func := "bywash/bywashlaw21.RetryMost", spec := "retryMost", inPlace := ["internal/reflectlite.TypeOf"], unfollowed := true, recurses := true, apart := false }
def RetryMostSaid : Prop := retryMostRow.holds Try.pinned (OpenSpec.ofChange retryMostSpec)

/-- ITS FALSE NEIGHBOUR: 'it returns false'. Refute it at one input. -/
def retryMostWrong : ChangeSpec := { name := "retryMost", fn := fun _ => fun
  | [d1, d2, d3, d4] => { results := [.lit (.bool false)], args := [d1, d2, d3, d4] }
  | _ => none }
def RetryMostWrongFalsely : Prop := retryMostRow.holds Try.pinned (OpenSpec.ofChange retryMostWrong)

/-- 'bywashlaw21.RetryFinal': WHATEVER THE INPUT: true; the input reads as it did. -/
def retryFinalSpec : ChangeSpec := { name := "retryFinal", fn := fun _ => fun
  | [d1, d2, d3, d4, d5] => { results := [.lit (.bool true)], args := [d1, d2, d3, d4, d5] }
  | _ => none }
def retryFinalRow : OpenClaim := { program := "ytckfmokbebmlbaa", sum := "b7dd4cc573432b95a4b947146afa269537785be6705d186baa46b612a44496f9", func := "bywash/bywashlaw21.RetryFinal", spec := "retryFinal", inPlace := ["internal/reflectlite.TypeOf"], unfollowed := true, recurses := true, apart := false }
def RetryFinalSaid : Prop := retryFinalRow.holds Try.pinned (OpenSpec.ofChange retryFinalSpec)

/-- ITS FALSE NEIGHBOUR: 'it returns false'. Refute it at one input. -/
def retryFinalWrong : ChangeSpec := { name := "retryFinal", fn := fun _ => fun
  | [d1, d2, d3, d4, d5] => { results := [.lit (.bool false)], args := [d1, d2, d3, d4, d5] }
  | _ => none }
def RetryFinalWrongFalsely : Prop := retryFinalRow.holds Try.pinned (OpenSpec.ofChange retryFinalWrong)

/-- 'bywashlaw21.RetryWraps': WHATEVER THE INPUT: true; the input reads as it did. -/
def retryWrapsSpec : ChangeSpec := { name := "retryWraps", fn := fun _ => fun
  | [d1, d2] => { results := [.lit (.bool true)], args := [d1, d2] }
  | _ => none }
def retryWrapsRow : OpenClaim := { program := "ytckfmokbebmlbaa", sum := "b7dd4cc573432b95a4b947146afa269537785be6705d186baa46b612a44496f9", func := "bywash/bywashlaw21.RetryWraps", spec := "retryWraps", inPlace := ["internal/reflectlite.TypeOf"], unfollowed := true, recurses := true, apart := false }
def RetryWrapsSaid : Prop := retryWrapsRow.holds Try.pinned (OpenSpec.ofChange retryWrapsSpec)

/-- ITS FALSE NEIGHBOUR: 'it returns false'. Refute it at one input. -/
def retryWrapsWrong : ChangeSpec := { name := "retryWraps", fn := fun _ => fun
  | [d1, d2] => { results := [.lit (.bool false)], args := [d1, d2] }
  | _ => none }
def RetryWrapsWrongFalsely : Prop := retryWrapsRow.holds Try.pinned (OpenSpec.ofChange retryWrapsWrong)

/- THE SECOND FORM. 'bulk': how many values and letters a reading holds, each counted each time it is reached (what is shared counts as often as it is met; a slice's spare places count too). A statement '..UptoSaid' is the law's where the arguments, and the package variables that the reading takes, are together of bulk at most 1048576: NARROWER than '..Said'. Prove '..Said' where nothing that the law and all that it calls make is longer than what came in: it says more and counts as full. Else prove '..UptoSaid'. A law counts once. -/
mutual
def uptoBulk {H : Type} : DataW H → Nat
  | .lit (.string bytes) => bytes.length + 1
  | .lit _ => 1
  | .nil => 1
  | .ptr d => uptoBulk d + 1
  | .slice elems spare => uptoBulkAll elems + uptoBulkAll spare + 1
  | .agg parts => uptoBulkAll parts + 1
  | .iface _ d => uptoBulk d + 1
  | .map entries => uptoBulkEntries entries + 1
  | .held _ => 1
def uptoBulkAll {H : Type} : List (DataW H) → Nat
  | [] => 0
  | d :: r => uptoBulk d + uptoBulkAll r
def uptoBulkEntries {H : Type} : List (Lit × DataW H) → Nat
  | [] => 0
  | x :: r => uptoBulkEntry x + uptoBulkEntries r
def uptoBulkEntry {H : Type} : Lit × DataW H → Nat
  | (.string bytes, d) => bytes.length + uptoBulk d + 1
  | (_, d) => uptoBulk d + 1
 end
def uptoSmall : (H : Type) → List (DataW H) → Bool := fun _ ds => decide (uptoBulkAll ds ≤ 1048576)
def OpenSpec.upto (s : _root_.Go.ChangeSpec) : _root_.Go.OpenSpec := { _root_.Go.OpenSpec.ofChange s with cond := some uptoSmall }

/-- 'bywashlaw21.RetryOnce', WHERE WHAT IT READS IS OF BULK AT MOST 1048576: true; the input reads as it did. -/
def retryOnceUptoRow : OpenClaim := { program := "ytckfmokbebmlbaa", sum := "b7dd4cc573432b95a4b947146afa269537785be6705d186baa46b612a44496f9", func := "bywash/bywashlaw21.RetryOnce", spec := "retryOnce", inPlace := ["internal/reflectlite.TypeOf"], unfollowed := true, recurses := true, apart := false, narrowed := true }
def RetryOnceUptoSaid : Prop := retryOnceUptoRow.holds Try.pinned (OpenSpec.upto retryOnceSpec)

/-- 'bywashlaw21.RetryMost', WHERE WHAT IT READS IS OF BULK AT MOST 1048576: true; the input reads as it did. -/
def retryMostUptoRow : OpenClaim := { program := "ytckfmokbebmlbaa", sum := "b7dd4cc573432b95a4b947146afa269537785be6705d186baa46b612a44496f9", func := "bywash/bywashlaw21.RetryMost", spec := "retryMost", inPlace := ["internal/reflectlite.TypeOf"], unfollowed := true, recurses := true, apart := false, narrowed := true }
def RetryMostUptoSaid : Prop := retryMostUptoRow.holds Try.pinned (OpenSpec.upto retryMostSpec)

/-- 'bywashlaw21.RetryFinal', WHERE WHAT IT READS IS OF BULK AT MOST 1048576: true; the input reads as it did. -/
def retryFinalUptoRow : OpenClaim := { program := "ytckfmokbebmlbaa", sum := "b7dd4cc573432b95a4b947146afa269537785be6705d186baa46b612a44496f9", func := "bywash/bywashlaw21.RetryFinal", spec := "retryFinal", inPlace := ["internal/reflectlite.TypeOf"], unfollowed := true, recurses := true, apart := false, narrowed := true }
def RetryFinalUptoSaid : Prop := retryFinalUptoRow.holds Try.pinned (OpenSpec.upto retryFinalSpec)

/-- 'bywashlaw21.RetryWraps', WHERE WHAT IT READS IS OF BULK AT MOST 1048576: true; the input reads as it did. -/
def retryWrapsUptoRow : OpenClaim := { program := "ytckfmokbebmlbaa", sum := "b7dd4cc573432b95a4b947146afa269537785be6705d186baa46b612a44496f9", func := "bywash/bywashlaw21.RetryWraps", spec := "retryWraps", inPlace := ["internal/reflectlite.TypeOf"], unfollowed := true, recurses := true, apart := false, narrowed := true }
def RetryWrapsUptoSaid : Prop := retryWrapsUptoRow.holds Try.pinned (OpenSpec.upto retryWrapsSpec)

end Rows
end Go.Proofs.Ytckfmokbebmlbaa
