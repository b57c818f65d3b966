/-
  No cell of these rows narrows 'for every input' (looked for: loops, veiled, ifaces, maps, wideKeys, modest, calm, conditions, laid).
  DERIVED. THE GIVEN ROWS OF THIS SEAT. 6 by the template 'for every input the law returns true; each argument reads behind the call as it read before'; 0 by the template 'total and deterministic' (their statements: YtehccigpbchbcaaTotals.lean).
  GIVEN WITH THE SEED: the statements are not yours to turn. If you find one false, say at which input.
  Laid BY PROGRAM, IN A SANDBOX (cutbox-rows.mjs): the forced cells as the released guide's own fill.sh prints them over the translation 242eb19e6da5aa0d… (all of the seat's roots in one cut). By AI agents, Wed Nov 11 2026. No macro, syntax, notation, axiom, sorry.
-/
import Derived.Test.YtehccigpbchbcaaChecked
import GoSem.Claim
import GoSem.ClaimJoined
import GoSem.ClaimMapViews
import Derived.JoinedTies
import Derived.KernelRfl
namespace Go.Proofs.Ytehccigpbchbcaa
/- THE CELL 'sum', in the pinned program and in every row, IS THE sha256 OF THE DUMP (.gsa) THAT YtehccigpbchbcaaProg.lean LOADS. Nothing in Lean hashes anything: it is a label: what it is worth is what the hold of that sum in a sandbox is worth. -/
noncomputable def Try.pinned : Pinned := { name := "ytehccigpbchbcaa", sum := "242eb19e6da5aa0d9063aaebe54703d5d27cb3b4794c61fed2c4b51ed6050770", checked := Try.checked }
namespace Rows
def none {H : Type} : Left H := { results := [], args := [] }

/-- 'bywashlaw7.FrameTells': WHATEVER THE INPUT: true; the input reads as it did. -/
def frameTellsSpec : ChangeSpec := { name := "frameTells", fn := fun _ => fun
  | [d1, d2, d3] => { results := [.lit (.bool true)], args := [d1, d2, d3] }
  | _ => none }
def frameTellsRow : OpenClaim := { program := "ytehccigpbchbcaa", sum := "242eb19e6da5aa0d9063aaebe54703d5d27cb3b4794c61fed2c4b51ed6050770", func := "bywash/bywashlaw7.FrameTells", spec := "frameTells", apart := false }
def FrameTellsSaid : Prop := frameTellsRow.holds Try.pinned (OpenSpec.ofChange frameTellsSpec)

/-- ITS FALSE NEIGHBOUR: 'it returns false'. Refute it at one input. -/
def frameTellsWrong : ChangeSpec := { name := "frameTells", fn := fun _ => fun
  | [d1, d2, d3] => { results := [.lit (.bool false)], args := [d1, d2, d3] }
  | _ => none }
def FrameTellsWrongFalsely : Prop := frameTellsRow.holds Try.pinned (OpenSpec.ofChange frameTellsWrong)

/-- 'bywashlaw7.FrameCuts': WHATEVER THE INPUT: true; the input reads as it did. -/
def frameCutsSpec : ChangeSpec := { name := "frameCuts", fn := fun _ => fun
  | [d1, d2] => { results := [.lit (.bool true)], args := [d1, d2] }
  | _ => none }
def frameCutsRow : OpenClaim := { program := "ytehccigpbchbcaa", sum := "242eb19e6da5aa0d9063aaebe54703d5d27cb3b4794c61fed2c4b51ed6050770", func := "bywash/bywashlaw7.FrameCuts", spec := "frameCuts", apart := false }
def FrameCutsSaid : Prop := frameCutsRow.holds Try.pinned (OpenSpec.ofChange frameCutsSpec)

/-- ITS FALSE NEIGHBOUR: 'it returns false'. Refute it at one input. -/
def frameCutsWrong : ChangeSpec := { name := "frameCuts", fn := fun _ => fun
  | [d1, d2] => { results := [.lit (.bool false)], args := [d1, d2] }
  | _ => none }
def FrameCutsWrongFalsely : Prop := frameCutsRow.holds Try.pinned (OpenSpec.ofChange frameCutsWrong)

/-- 'bywashlaw7.FrameJoins': WHATEVER THE INPUT: true; the input reads as it did. -/
def frameJoinsSpec : ChangeSpec := { name := "frameJoins", fn := fun _ => fun
  | [d] => { results := [.lit (.bool true)], args := [d] }
  | _ => none }
def frameJoinsRow : OpenClaim := { program := "ytehccigpbchbcaa", sum := "242eb19e6da5aa0d9063aaebe54703d5d27cb3b4794c61fed2c4b51ed6050770", func := "bywash/bywashlaw7.FrameJoins", spec := "frameJoins", apart := false }
def FrameJoinsSaid : Prop := frameJoinsRow.holds Try.pinned (OpenSpec.ofChange frameJoinsSpec)

/-- ITS FALSE NEIGHBOUR: 'it returns false'. Refute it at one input. -/
def frameJoinsWrong : ChangeSpec := { name := "frameJoins", fn := fun _ => fun
  | [d] => { results := [.lit (.bool false)], args := [d] }
  | _ => none }
def FrameJoinsWrongFalsely : Prop := frameJoinsRow.holds Try.pinned (OpenSpec.ofChange frameJoinsWrong)

/-- 'bywashlaw7.FramePads': WHATEVER THE INPUT: true; the input reads as it did. -/
def framePadsSpec : ChangeSpec := { name := "framePads", fn := fun _ => fun
  | [d1, d2, d3, d4] => { results := [.lit (.bool true)], args := [d1, d2, d3, d4] }
  | _ => none }
def framePadsRow : OpenClaim := { program := "ytehccigpbchbcaa", sum := "242eb19e6da5aa0d9063aaebe54703d5d27cb3b4794c61fed2c4b51ed6050770", func := "bywash/bywashlaw7.FramePads", spec := "framePads", apart := false }
def FramePadsSaid : Prop := framePadsRow.holds Try.pinned (OpenSpec.ofChange framePadsSpec)

/-- ITS FALSE NEIGHBOUR: 'it returns false'. Refute it at one input. -/
def framePadsWrong : ChangeSpec := { name := "framePads", fn := fun _ => fun
  | [d1, d2, d3, d4] => { results := [.lit (.bool false)], args := [d1, d2, d3, d4] }
  | _ => none }
def FramePadsWrongFalsely : Prop := framePadsRow.holds Try.pinned (OpenSpec.ofChange framePadsWrong)

/-- 'bywashlaw7.FrameBounds': WHATEVER THE INPUT: true; the input reads as it did. -/
def frameBoundsSpec : ChangeSpec := { name := "frameBounds", fn := fun _ => fun
  | [d1, d2, d3] => { results := [.lit (.bool true)], args := [d1, d2, d3] }
  | _ => none }
def frameBoundsRow : OpenClaim := { program := "ytehccigpbchbcaa", sum := "242eb19e6da5aa0d9063aaebe54703d5d27cb3b4794c61fed2c4b51ed6050770", func := "bywash/bywashlaw7.FrameBounds", spec := "frameBounds", apart := false }
def FrameBoundsSaid : Prop := frameBoundsRow.holds Try.pinned (OpenSpec.ofChange frameBoundsSpec)

/-- ITS FALSE NEIGHBOUR: 'it returns false'. Refute it at one input. -/
def frameBoundsWrong : ChangeSpec := { name := "frameBounds", fn := fun _ => fun
  | [d1, d2, d3] => { results := [.lit (.bool false)], args := [d1, d2, d3] }
  | _ => none }
def FrameBoundsWrongFalsely : Prop := frameBoundsRow.holds Try.pinned (OpenSpec.ofChange frameBoundsWrong)

/-- 'bywashlaw7.FrameShort': WHATEVER THE INPUT: true; the input reads as it did. -/
def frameShortSpec : ChangeSpec := { name := "frameShort", fn := fun _ => fun
  | [d1, d2] => { results := [.lit (.bool true)], args := [d1, d2] }
  | _ => none }
def frameShortRow : OpenClaim := { program := "ytehccigpbchbcaa", sum := "242eb19e6da5aa0d9063aaebe54703d5d27cb3b4794c61fed2c4b51ed6050770", func := "bywash/bywashlaw7.FrameShort", spec := "frameShort", apart := false }
def FrameShortSaid : Prop := frameShortRow.holds Try.pinned (OpenSpec.ofChange frameShortSpec)

/-- ITS FALSE NEIGHBOUR: 'it returns false'. Refute it at one input. -/
def frameShortWrong : ChangeSpec := { name := "frameShort", fn := fun _ => fun
  | [d1, d2] => { results := [.lit (.bool false)], args := [d1, d2] }
  | _ => none }
def FrameShortWrongFalsely : Prop := frameShortRow.holds Try.pinned (OpenSpec.ofChange frameShortWrong)

/- THE SECOND FORM. 'bulk': how many values and letters a reading holds, each counted each time it is reached (what is shared counts as often as it is met; a slice's spare places count too). A statement '..UptoSaid' is the law's where the arguments, and the package variables that the reading takes, are together of bulk at most 1048576: NARROWER than '..Said'. Prove '..Said' where nothing that the law and all that it calls make is longer than what came in: it says more and counts as full. Else prove '..UptoSaid'. A law counts once. -/
mutual
def uptoBulk {H : Type} : DataW H → Nat
  | .lit (.string bytes) => bytes.length + 1
  | .lit _ => 1
  | .nil => 1
  | .ptr d => uptoBulk d + 1
  | .slice elems spare => uptoBulkAll elems + uptoBulkAll spare + 1
  | .agg parts => uptoBulkAll parts + 1
  | .iface _ d => uptoBulk d + 1
  | .map entries => uptoBulkEntries entries + 1
  | .held _ => 1
def uptoBulkAll {H : Type} : List (DataW H) → Nat
  | [] => 0
  | d :: r => uptoBulk d + uptoBulkAll r
def uptoBulkEntries {H : Type} : List (Lit × DataW H) → Nat
  | [] => 0
  | x :: r => uptoBulkEntry x + uptoBulkEntries r
def uptoBulkEntry {H : Type} : Lit × DataW H → Nat
  | (.string bytes, d) => bytes.length + uptoBulk d + 1
  | (_, d) => uptoBulk d + 1
 end
def uptoSmall : (H : Type) → List (DataW H) → Bool := fun _ ds => decide (uptoBulkAll ds ≤ 1048576)
def OpenSpec.upto (s : _root_.Go.ChangeSpec) : _root_.Go.OpenSpec := { _root_.Go.OpenSpec.ofChange s with cond := some uptoSmall }

/-- 'bywashlaw7.FrameTells', WHERE WHAT IT READS IS OF BULK AT MOST 1048576: true; the input reads as it did. -/
def frameTellsUptoRow : OpenClaim := { program := "ytehccigpbchbcaa", sum := "242eb19e6da5aa0d9063aaebe54703d5d27cb3b4794c61fed2c4b51ed6050770", func := "bywash/bywashlaw7.FrameTells", spec := "frameTells", apart := false, narrowed := true }
def FrameTellsUptoSaid : Prop := frameTellsUptoRow.holds Try.pinned (OpenSpec.upto frameTellsSpec)

/-- 'bywashlaw7.FrameCuts', WHERE WHAT IT READS IS OF BULK AT MOST 1048576: true; the input reads as it did. -/
def frameCutsUptoRow : OpenClaim := { program := "ytehccigpbchbcaa", sum := "242eb19e6da5aa0d9063aaebe54703d5d27cb3b4794c61fed2c4b51ed6050770", func := "bywash/bywashlaw7.FrameCuts", spec := "frameCuts", apart := false, narrowed := true }
def FrameCutsUptoSaid : Prop := frameCutsUptoRow.holds Try.pinned (OpenSpec.upto frameCutsSpec)

/-- 'bywashlaw7.FrameJoins', WHERE WHAT IT READS IS OF BULK AT MOST 1048576: true; the input reads as it did. -/
def frameJoinsUptoRow : OpenClaim := { program := "ytehccigpbchbcaa", sum := "242eb19e6da5aa0d9063aaebe54703d5d27cb3b4794c61fed2c4b51ed6050770", func := "bywash/bywashlaw7.FrameJoins", spec := "frameJoins", apart := false, narrowed := true }
def FrameJoinsUptoSaid : Prop := frameJoinsUptoRow.holds Try.pinned (OpenSpec.upto frameJoinsSpec)

/-- 'bywashlaw7.FramePads', WHERE WHAT IT READS IS OF BULK AT MOST 1048576: true; the input reads as it did. -/
def framePadsUptoRow : OpenClaim := { program := "ytehccigpbchbcaa", sum := "242eb19e6da5aa0d9063aaebe54703d5d27cb3b4794c61fed2c4b51ed6050770", func := "bywash/bywashlaw7.FramePads", spec := "framePads", apart := false, narrowed := true }
def FramePadsUptoSaid : Prop := framePadsUptoRow.holds Try.pinned (OpenSpec.upto framePadsSpec)

/-- 'bywashlaw7.FrameBounds', WHERE WHAT IT READS IS OF BULK AT MOST 1048576: true; the input reads as it did. -/
def frameBoundsUptoRow : OpenClaim := { program := "ytehccigpbchbcaa", sum := "242eb19e6da5aa0d9063aaebe54703d5d27cb3b4794c61fed2c4b51ed6050770", func := "bywash/bywashlaw7.FrameBounds", spec := "frameBounds", apart := false, narrowed := true }
def FrameBoundsUptoSaid : Prop := frameBoundsUptoRow.holds Try.pinned (OpenSpec.upto frameBoundsSpec)

/-- 'bywashlaw7.FrameShort', WHERE WHAT IT READS IS OF BULK AT MOST 1048576: true; the input reads as it did. -/
def frameShortUptoRow : OpenClaim := { program := "ytehccigpbchbcaa", sum := "242eb19e6da5aa0d9063aaebe54703d5d27cb3b4794c61fed2c4b51ed6050770", func := "bywash/bywashlaw7.FrameShort", spec := "frameShort", apart := false, narrowed := true }
def FrameShortUptoSaid : Prop := frameShortUptoRow.holds Try.pinned (OpenSpec.upto frameShortSpec)

end Rows
end Go.Proofs.Ytehccigpbchbcaa
