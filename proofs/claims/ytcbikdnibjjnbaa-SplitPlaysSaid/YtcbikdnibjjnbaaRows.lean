/-
  No cell of these rows narrows 'for every input' (looked for: loops, veiled, ifaces, maps, wideKeys, modest, calm, conditions, laid).
  DERIVED. THE GIVEN ROWS OF THIS SEAT. 6 by the template 'for every input the law returns true; each argument reads behind the call as it read before'; 0 by the template 'total and deterministic' (their statements: YtcbikdnibjjnbaaTotals.lean).
  GIVEN WITH THE SEED: the statements are not yours to turn. If you find one false, say at which input.
  Laid BY PROGRAM, IN A SANDBOX (cutbox-rows.mjs): the forced cells as the released guide's own fill.sh prints them over the translation be4c21377b908c1c… (all of the seat's roots in one cut). By AI agents, Wed Nov 11 2026. No macro, syntax, notation, axiom, sorry.
-/
import Derived.Test.YtcbikdnibjjnbaaChecked
import GoSem.Claim
import GoSem.ClaimJoined
import GoSem.ClaimMapViews
import Derived.JoinedTies
import Derived.KernelRfl
namespace Go.Proofs.Ytcbikdnibjjnbaa
/- THE CELL 'sum', in the pinned program and in every row, IS THE sha256 OF THE DUMP (.gsa) THAT YtcbikdnibjjnbaaProg.lean LOADS. Nothing in Lean hashes anything: it is a label: what it is worth is what the hold of that sum in a sandbox is worth. -/
noncomputable def Try.pinned : Pinned := { name := "ytcbikdnibjjnbaa", sum := "be4c21377b908c1cd34a4da86e5569248ed4b758ba980b32a09c5f66d70cd751", checked := Try.checked }
namespace Rows
def none {H : Type} : Left H := { results := [], args := [] }

/-- 'bywashlaw8.SplitPlays': WHATEVER THE INPUT: true; the input reads as it did. -/
def splitPlaysSpec : ChangeSpec := { name := "splitPlays", fn := fun _ => fun
  | [d1, d2, d3] => { results := [.lit (.bool true)], args := [d1, d2, d3] }
  | _ => none }
def splitPlaysRow : OpenClaim := { program := "ytcbikdnibjjnbaa", sum := "be4c21377b908c1cd34a4da86e5569248ed4b758ba980b32a09c5f66d70cd751", func := "bywash/bywashlaw8.SplitPlays", spec := "splitPlays", apart := false }
def SplitPlaysSaid : Prop := splitPlaysRow.holds Try.pinned (OpenSpec.ofChange splitPlaysSpec)

/-- ITS FALSE NEIGHBOUR: 'it returns false'. Refute it at one input. -/
def splitPlaysWrong : ChangeSpec := { name := "splitPlays", fn := fun _ => fun
  | [d1, d2, d3] => { results := [.lit (.bool false)], args := [d1, d2, d3] }
  | _ => none }
def SplitPlaysWrongFalsely : Prop := splitPlaysRow.holds Try.pinned (OpenSpec.ofChange splitPlaysWrong)

/-- 'bywashlaw8.SplitPieces': WHATEVER THE INPUT: true; the input reads as it did. -/
def splitPiecesSpec : ChangeSpec := { name := "splitPieces", fn := fun _ => fun
  | [d1, d2] => { results := [.lit (.bool true)], args := [d1, d2] }
  | _ => none }
def splitPiecesRow : OpenClaim := { program := "ytcbikdnibjjnbaa", sum := "be4c21377b908c1cd34a4da86e5569248ed4b758ba980b32a09c5f66d70cd751", func := "bywash/bywashlaw8.SplitPieces", spec := "splitPieces", unfollowed := true, recurses := true, apart := false }
def SplitPiecesSaid : Prop := splitPiecesRow.holds Try.pinned (OpenSpec.ofChange splitPiecesSpec)

/-- ITS FALSE NEIGHBOUR: 'it returns false'. Refute it at one input. -/
def splitPiecesWrong : ChangeSpec := { name := "splitPieces", fn := fun _ => fun
  | [d1, d2] => { results := [.lit (.bool false)], args := [d1, d2] }
  | _ => none }
def SplitPiecesWrongFalsely : Prop := splitPiecesRow.holds Try.pinned (OpenSpec.ofChange splitPiecesWrong)

/-- 'bywashlaw8.SplitGreat': WHATEVER THE INPUT: true; the input reads as it did. -/
def splitGreatSpec : ChangeSpec := { name := "splitGreat", fn := fun _ => fun
  | [d1, d2, d3] => { results := [.lit (.bool true)], args := [d1, d2, d3] }
  | _ => none }
def splitGreatRow : OpenClaim := { program := "ytcbikdnibjjnbaa", sum := "be4c21377b908c1cd34a4da86e5569248ed4b758ba980b32a09c5f66d70cd751", func := "bywash/bywashlaw8.SplitGreat", spec := "splitGreat", apart := false }
def SplitGreatSaid : Prop := splitGreatRow.holds Try.pinned (OpenSpec.ofChange splitGreatSpec)

/-- ITS FALSE NEIGHBOUR: 'it returns false'. Refute it at one input. -/
def splitGreatWrong : ChangeSpec := { name := "splitGreat", fn := fun _ => fun
  | [d1, d2, d3] => { results := [.lit (.bool false)], args := [d1, d2, d3] }
  | _ => none }
def SplitGreatWrongFalsely : Prop := splitGreatRow.holds Try.pinned (OpenSpec.ofChange splitGreatWrong)

/-- 'bywashlaw8.SplitHolds': WHATEVER THE INPUT: true; the input reads as it did. -/
def splitHoldsSpec : ChangeSpec := { name := "splitHolds", fn := fun _ => fun
  | [d1, d2] => { results := [.lit (.bool true)], args := [d1, d2] }
  | _ => none }
def splitHoldsRow : OpenClaim := { program := "ytcbikdnibjjnbaa", sum := "be4c21377b908c1cd34a4da86e5569248ed4b758ba980b32a09c5f66d70cd751", func := "bywash/bywashlaw8.SplitHolds", spec := "splitHolds", apart := false }
def SplitHoldsSaid : Prop := splitHoldsRow.holds Try.pinned (OpenSpec.ofChange splitHoldsSpec)

/-- ITS FALSE NEIGHBOUR: 'it returns false'. Refute it at one input. -/
def splitHoldsWrong : ChangeSpec := { name := "splitHolds", fn := fun _ => fun
  | [d1, d2] => { results := [.lit (.bool false)], args := [d1, d2] }
  | _ => none }
def SplitHoldsWrongFalsely : Prop := splitHoldsRow.holds Try.pinned (OpenSpec.ofChange splitHoldsWrong)

/-- 'bywashlaw8.SplitEmpty': WHATEVER THE INPUT: true; the input reads as it did. -/
def splitEmptySpec : ChangeSpec := { name := "splitEmpty", fn := fun _ => fun
  | [d] => { results := [.lit (.bool true)], args := [d] }
  | _ => none }
def splitEmptyRow : OpenClaim := { program := "ytcbikdnibjjnbaa", sum := "be4c21377b908c1cd34a4da86e5569248ed4b758ba980b32a09c5f66d70cd751", func := "bywash/bywashlaw8.SplitEmpty", spec := "splitEmpty", apart := false }
def SplitEmptySaid : Prop := splitEmptyRow.holds Try.pinned (OpenSpec.ofChange splitEmptySpec)

/-- ITS FALSE NEIGHBOUR: 'it returns false'. Refute it at one input. -/
def splitEmptyWrong : ChangeSpec := { name := "splitEmpty", fn := fun _ => fun
  | [d] => { results := [.lit (.bool false)], args := [d] }
  | _ => none }
def SplitEmptyWrongFalsely : Prop := splitEmptyRow.holds Try.pinned (OpenSpec.ofChange splitEmptyWrong)

/-- 'bywashlaw8.SplitBound': WHATEVER THE INPUT: true; the input reads as it did. -/
def splitBoundSpec : ChangeSpec := { name := "splitBound", fn := fun _ => fun
  | [d1, d2] => { results := [.lit (.bool true)], args := [d1, d2] }
  | _ => none }
def splitBoundRow : OpenClaim := { program := "ytcbikdnibjjnbaa", sum := "be4c21377b908c1cd34a4da86e5569248ed4b758ba980b32a09c5f66d70cd751", func := "bywash/bywashlaw8.SplitBound", spec := "splitBound", apart := false }
def SplitBoundSaid : Prop := splitBoundRow.holds Try.pinned (OpenSpec.ofChange splitBoundSpec)

/-- ITS FALSE NEIGHBOUR: 'it returns false'. Refute it at one input. -/
def splitBoundWrong : ChangeSpec := { name := "splitBound", fn := fun _ => fun
  | [d1, d2] => { results := [.lit (.bool false)], args := [d1, d2] }
  | _ => none }
def SplitBoundWrongFalsely : Prop := splitBoundRow.holds Try.pinned (OpenSpec.ofChange splitBoundWrong)

/- THE SECOND FORM. 'bulk': how many values and letters a reading holds, each counted each time it is reached (what is shared counts as often as it is met; a slice's spare places count too). A statement '..UptoSaid' is the law's where the arguments, and the package variables that the reading takes, are together of bulk at most 1048576: NARROWER than '..Said'. Prove '..Said' where nothing that the law and all that it calls make is longer than what came in: it says more and counts as full. Else prove '..UptoSaid'. A law counts once. -/
mutual
def uptoBulk {H : Type} : DataW H → Nat
  | .lit (.string bytes) => bytes.length + 1
  | .lit _ => 1
  | .nil => 1
  | .ptr d => uptoBulk d + 1
  | .slice elems spare => uptoBulkAll elems + uptoBulkAll spare + 1
  | .agg parts => uptoBulkAll parts + 1
  | .iface _ d => uptoBulk d + 1
  | .map entries => uptoBulkEntries entries + 1
  | .held _ => 1
def uptoBulkAll {H : Type} : List (DataW H) → Nat
  | [] => 0
  | d :: r => uptoBulk d + uptoBulkAll r
def uptoBulkEntries {H : Type} : List (Lit × DataW H) → Nat
  | [] => 0
  | x :: r => uptoBulkEntry x + uptoBulkEntries r
def uptoBulkEntry {H : Type} : Lit × DataW H → Nat
  | (.string bytes, d) => bytes.length + uptoBulk d + 1
  | (_, d) => uptoBulk d + 1
 end
def uptoSmall : (H : Type) → List (DataW H) → Bool := fun _ ds => decide (uptoBulkAll ds ≤ 1048576)
def OpenSpec.upto (s : _root_.Go.ChangeSpec) : _root_.Go.OpenSpec := { _root_.Go.OpenSpec.ofChange s with cond := some uptoSmall }

/-- 'bywashlaw8.SplitPlays', WHERE WHAT IT READS IS OF BULK AT MOST 1048576: true; the input reads as it did. -/
def splitPlaysUptoRow : OpenClaim := { program := "ytcbikdnibjjnbaa", sum := "be4c21377b908c1cd34a4da86e5569248ed4b758ba980b32a09c5f66d70cd751", func := "bywash/bywashlaw8.SplitPlays", spec := "splitPlays", apart := false, narrowed := true }
def SplitPlaysUptoSaid : Prop := splitPlaysUptoRow.holds Try.pinned (OpenSpec.upto splitPlaysSpec)

/-- 'bywashlaw8.SplitPieces', WHERE WHAT IT READS IS OF BULK AT MOST 1048576: true; the input reads as it did. -/
def splitPiecesUptoRow : OpenClaim := { program := "ytcbikdnibjjnbaa", sum := "be4c21377b908c1cd34a4da86e5569248ed4b758ba980b32a09c5f66d70cd751", func := "bywash/bywashlaw8.SplitPieces", spec := "splitPieces", unfollowed := true, recurses := true, apart := false, narrowed := true }
def SplitPiecesUptoSaid : Prop := splitPiecesUptoRow.holds Try.pinned (OpenSpec.upto splitPiecesSpec)

/-- 'bywashlaw8.SplitGreat', WHERE WHAT IT READS IS OF BULK AT MOST 1048576: true; the input reads as it did. -/
def splitGreatUptoRow : OpenClaim := { program := "ytcbikdnibjjnbaa", sum := "be4c21377b908c1cd34a4da86e5569248ed4b758ba980b32a09c5f66d70cd751", func := "bywash/bywashlaw8.SplitGreat", spec := "splitGreat", apart := false, narrowed := true }
def SplitGreatUptoSaid : Prop := splitGreatUptoRow.holds Try.pinned (OpenSpec.upto splitGreatSpec)

/-- 'bywashlaw8.SplitHolds', WHERE WHAT IT READS IS OF BULK AT MOST 1048576: true; the input reads as it did. -/
def splitHoldsUptoRow : OpenClaim := { program := "ytcbikdnibjjnbaa", sum := "be4c21377b908c1cd34a4da86e5569248ed4b758ba980b32a09c5f66d70cd751", func := "bywash/bywashlaw8.SplitHolds", spec := "splitHolds", apart := false, narrowed := true }
def SplitHoldsUptoSaid : Prop := splitHoldsUptoRow.holds Try.pinned (OpenSpec.upto splitHoldsSpec)

/-- 'bywashlaw8.SplitEmpty', WHERE WHAT IT READS IS OF BULK AT MOST 1048576: true; the input reads as it did. -/
def splitEmptyUptoRow : OpenClaim := { program := "ytcbikdnibjjnbaa", sum := "be4c21377b908c1cd34a4da86e5569248ed4b758ba980b32a09c5f66d70cd751", func := "bywash/bywashlaw8.SplitEmpty", spec := "splitEmpty", apart := false, narrowed := true }
def SplitEmptyUptoSaid : Prop := splitEmptyUptoRow.holds Try.pinned (OpenSpec.upto splitEmptySpec)

/-- 'bywashlaw8.SplitBound', WHERE WHAT IT READS IS OF BULK AT MOST 1048576: true; the input reads as it did. -/
def splitBoundUptoRow : OpenClaim := { program := "ytcbikdnibjjnbaa", sum := "be4c21377b908c1cd34a4da86e5569248ed4b758ba980b32a09c5f66d70cd751", func := "bywash/bywashlaw8.SplitBound", spec := "splitBound", apart := false, narrowed := true }
def SplitBoundUptoSaid : Prop := splitBoundUptoRow.holds Try.pinned (OpenSpec.upto splitBoundSpec)

end Rows
end Go.Proofs.Ytcbikdnibjjnbaa
