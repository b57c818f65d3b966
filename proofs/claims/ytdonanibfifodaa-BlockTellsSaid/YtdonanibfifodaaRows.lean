/-
  No cell of these rows narrows 'for every input' (looked for: loops, veiled, ifaces, maps, wideKeys, modest, calm, conditions, laid).
  DERIVED. THE GIVEN ROWS OF THIS SEAT. 7 by the template 'for every input the law returns true; each argument reads behind the call as it read before'; 0 by the template 'total and deterministic' (their statements: YtdonanibfifodaaTotals.lean).
  GIVEN WITH THE SEED: the statements are not yours to turn. If you find one false, say at which input.
  Laid BY PROGRAM, IN A SANDBOX (cutbox-rows.mjs): the forced cells as the released guide's own fill.sh prints them over the translation 440c5474840567fc… (all of the seat's roots in one cut). By AI agents, Wed Nov 11 2026. No macro, syntax, notation, axiom, sorry.
-/
import Derived.Test.YtdonanibfifodaaChecked
import GoSem.Claim
import GoSem.ClaimJoined
import GoSem.ClaimMapViews
import Derived.JoinedTies
import Derived.KernelRfl
namespace Go.Proofs.Ytdonanibfifodaa
/- THE CELL 'sum', in the pinned program and in every row, IS THE sha256 OF THE DUMP (.gsa) THAT YtdonanibfifodaaProg.lean LOADS. Nothing in Lean hashes anything: it is a label: what it is worth is what the hold of that sum in a sandbox is worth. -/
noncomputable def Try.pinned : Pinned := { name := "ytdonanibfifodaa", sum := "440c5474840567fc3c6ceb8105560f68d740e1d82354fcfefe12020f66cb6531", checked := Try.checked }
namespace Rows
def none {H : Type} : Left H := { results := [], args := [] }

/-- 'bywashlaw11.BlockTells': WHATEVER THE INPUT: true; the input reads as it did. -/
def blockTellsSpec : ChangeSpec := { name := "blockTells", fn := fun _ => fun
  | [d1, d2, d3, d4] => { results := [.lit (.bool true)], args := [d1, d2, d3, d4] }
  | _ => none }
def blockTellsRow : OpenClaim := { program := "ytdonanibfifodaa", sum := "440c5474840567fc3c6ceb8105560f68d740e1d82354fcfefe12020f66cb6531", func := "bywash/bywashlaw11.BlockTells", spec := "blockTells", apart := false }
def BlockTellsSaid : Prop := blockTellsRow.holds Try.pinned (OpenSpec.ofChange blockTellsSpec)

/-- ITS FALSE NEIGHBOUR: 'it returns false'. Refute it at one input. -/
def blockTellsWrong : ChangeSpec := { name := "blockTells", fn := fun _ => fun
  | [d1, d2, d3, d4] => { results := [.lit (.bool false)], args := [d1, d2, d3, d4] }
  | _ => none }
def BlockTellsWrongFalsely : Prop := blockTellsRow.holds Try.pinned (OpenSpec.ofChange blockTellsWrong)

/-- 'bywashlaw11.BlockPlays': WHATEVER THE INPUT: true; the input reads as it did. -/
def blockPlaysSpec : ChangeSpec := { name := "blockPlays", fn := fun _ => fun
  | [d1, d2] => { results := [.lit (.bool true)], args := [d1, d2] }
  | _ => none }
def blockPlaysRow : OpenClaim := { program := "ytdonanibfifodaa", sum := "440c5474840567fc3c6ceb8105560f68d740e1d82354fcfefe12020f66cb6531", func := "bywash/bywashlaw11.BlockPlays", spec := "blockPlays", apart := false }
def BlockPlaysSaid : Prop := blockPlaysRow.holds Try.pinned (OpenSpec.ofChange blockPlaysSpec)

/-- ITS FALSE NEIGHBOUR: 'it returns false'. Refute it at one input. -/
def blockPlaysWrong : ChangeSpec := { name := "blockPlays", fn := fun _ => fun
  | [d1, d2] => { results := [.lit (.bool false)], args := [d1, d2] }
  | _ => none }
def BlockPlaysWrongFalsely : Prop := blockPlaysRow.holds Try.pinned (OpenSpec.ofChange blockPlaysWrong)

/-- 'bywashlaw11.BlockParts': WHATEVER THE INPUT: true; the input reads as it did. -/
def blockPartsSpec : ChangeSpec := { name := "blockParts", fn := fun _ => fun
  | [d1, d2, d3, d4] => { results := [.lit (.bool true)], args := [d1, d2, d3, d4] }
  | _ => none }
def blockPartsRow : OpenClaim := { program := "ytdonanibfifodaa", sum := "440c5474840567fc3c6ceb8105560f68d740e1d82354fcfefe12020f66cb6531", func := "bywash/bywashlaw11.BlockParts", spec := "blockParts", apart := false }
def BlockPartsSaid : Prop := blockPartsRow.holds Try.pinned (OpenSpec.ofChange blockPartsSpec)

/-- ITS FALSE NEIGHBOUR: 'it returns false'. Refute it at one input. -/
def blockPartsWrong : ChangeSpec := { name := "blockParts", fn := fun _ => fun
  | [d1, d2, d3, d4] => { results := [.lit (.bool false)], args := [d1, d2, d3, d4] }
  | _ => none }
def BlockPartsWrongFalsely : Prop := blockPartsRow.holds Try.pinned (OpenSpec.ofChange blockPartsWrong)

/-- 'bywashlaw11.BlockBetween': WHATEVER THE INPUT: true; the input reads as it did. -/
def blockBetweenSpec : ChangeSpec := { name := "blockBetween", fn := fun _ => fun
  | [d1, d2, d3] => { results := [.lit (.bool true)], args := [d1, d2, d3] }
  | _ => none }
def blockBetweenRow : OpenClaim := { program := "ytdonanibfifodaa", sum := "440c5474840567fc3c6ceb8105560f68d740e1d82354fcfefe12020f66cb6531", func := "bywash/bywashlaw11.BlockBetween", spec := "blockBetween", apart := false }
def BlockBetweenSaid : Prop := blockBetweenRow.holds Try.pinned (OpenSpec.ofChange blockBetweenSpec)

/-- ITS FALSE NEIGHBOUR: 'it returns false'. Refute it at one input. -/
def blockBetweenWrong : ChangeSpec := { name := "blockBetween", fn := fun _ => fun
  | [d1, d2, d3] => { results := [.lit (.bool false)], args := [d1, d2, d3] }
  | _ => none }
def BlockBetweenWrongFalsely : Prop := blockBetweenRow.holds Try.pinned (OpenSpec.ofChange blockBetweenWrong)

/-- 'bywashlaw11.BlockGreat': WHATEVER THE INPUT: true; the input reads as it did. -/
def blockGreatSpec : ChangeSpec := { name := "blockGreat", fn := fun _ => fun
  | [d1, d2] => { results := [.lit (.bool true)], args := [d1, d2] }
  | _ => none }
def blockGreatRow : OpenClaim := { program := "ytdonanibfifodaa", sum := "440c5474840567fc3c6ceb8105560f68d740e1d82354fcfefe12020f66cb6531", func := "bywash/bywashlaw11.BlockGreat", spec := "blockGreat", apart := false }
def BlockGreatSaid : Prop := blockGreatRow.holds Try.pinned (OpenSpec.ofChange blockGreatSpec)

/-- ITS FALSE NEIGHBOUR: 'it returns false'. Refute it at one input. -/
def blockGreatWrong : ChangeSpec := { name := "blockGreat", fn := fun _ => fun
  | [d1, d2] => { results := [.lit (.bool false)], args := [d1, d2] }
  | _ => none }
def BlockGreatWrongFalsely : Prop := blockGreatRow.holds Try.pinned (OpenSpec.ofChange blockGreatWrong)

/-- 'bywashlaw11.BlockEmpty': WHATEVER THE INPUT: true; the input reads as it did. -/
def blockEmptySpec : ChangeSpec := { name := "blockEmpty", fn := fun _ => fun
  | [d1, d2] => { results := [.lit (.bool true)], args := [d1, d2] }
  | _ => none }
def blockEmptyRow : OpenClaim := { program := "ytdonanibfifodaa", sum := "440c5474840567fc3c6ceb8105560f68d740e1d82354fcfefe12020f66cb6531", func := "bywash/bywashlaw11.BlockEmpty", spec := "blockEmpty", apart := false }
def BlockEmptySaid : Prop := blockEmptyRow.holds Try.pinned (OpenSpec.ofChange blockEmptySpec)

/-- ITS FALSE NEIGHBOUR: 'it returns false'. Refute it at one input. -/
def blockEmptyWrong : ChangeSpec := { name := "blockEmpty", fn := fun _ => fun
  | [d1, d2] => { results := [.lit (.bool false)], args := [d1, d2] }
  | _ => none }
def BlockEmptyWrongFalsely : Prop := blockEmptyRow.holds Try.pinned (OpenSpec.ofChange blockEmptyWrong)

/-- 'bywashlaw11.BlockOthers': WHATEVER THE INPUT: true; the input reads as it did. -/
def blockOthersSpec : ChangeSpec := { name := "blockOthers", fn := fun _ => fun
  | [d] => { results := [.lit (.bool true)], args := [d] }
  | _ => none }
def blockOthersRow : OpenClaim := { program := "ytdonanibfifodaa", sum := "440c5474840567fc3c6ceb8105560f68d740e1d82354fcfefe12020f66cb6531", func := "bywash/bywashlaw11.BlockOthers", spec := "blockOthers", apart := false }
def BlockOthersSaid : Prop := blockOthersRow.holds Try.pinned (OpenSpec.ofChange blockOthersSpec)

/-- ITS FALSE NEIGHBOUR: 'it returns false'. Refute it at one input. -/
def blockOthersWrong : ChangeSpec := { name := "blockOthers", fn := fun _ => fun
  | [d] => { results := [.lit (.bool false)], args := [d] }
  | _ => none }
def BlockOthersWrongFalsely : Prop := blockOthersRow.holds Try.pinned (OpenSpec.ofChange blockOthersWrong)

/- THE SECOND FORM. 'bulk': how many values and letters a reading holds, each counted each time it is reached (what is shared counts as often as it is met; a slice's spare places count too). A statement '..UptoSaid' is the law's where the arguments, and the package variables that the reading takes, are together of bulk at most 1048576: NARROWER than '..Said'. Prove '..Said' where nothing that the law and all that it calls make is longer than what came in: it says more and counts as full. Else prove '..UptoSaid'. A law counts once. -/
mutual
def uptoBulk {H : Type} : DataW H → Nat
  | .lit (.string bytes) => bytes.length + 1
  | .lit _ => 1
  | .nil => 1
  | .ptr d => uptoBulk d + 1
  | .slice elems spare => uptoBulkAll elems + uptoBulkAll spare + 1
  | .agg parts => uptoBulkAll parts + 1
  | .iface _ d => uptoBulk d + 1
  | .map entries => uptoBulkEntries entries + 1
  | .held _ => 1
def uptoBulkAll {H : Type} : List (DataW H) → Nat
  | [] => 0
  | d :: r => uptoBulk d + uptoBulkAll r
def uptoBulkEntries {H : Type} : List (Lit × DataW H) → Nat
  | [] => 0
  | x :: r => uptoBulkEntry x + uptoBulkEntries r
def uptoBulkEntry {H : Type} : Lit × DataW H → Nat
  | (.string bytes, d) => bytes.length + uptoBulk d + 1
  | (_, d) => uptoBulk d + 1
 end
def uptoSmall : (H : Type) → List (DataW H) → Bool := fun _ ds => decide (uptoBulkAll ds ≤ 1048576)
def OpenSpec.upto (s : _root_.Go.ChangeSpec) : _root_.Go.OpenSpec := { _root_.Go.OpenSpec.ofChange s with cond := some uptoSmall }

/-- 'bywashlaw11.BlockTells', WHERE WHAT IT READS IS OF BULK AT MOST 1048576: true; the input reads as it did. -/
def blockTellsUptoRow : OpenClaim := { program := "ytdonanibfifodaa", sum := "440c5474840567fc3c6ceb8105560f68d740e1d82354fcfefe12020f66cb6531", func := "bywash/bywashlaw11.BlockTells", spec := "blockTells", apart := false, narrowed := true }
def BlockTellsUptoSaid : Prop := blockTellsUptoRow.holds Try.pinned (OpenSpec.upto blockTellsSpec)

/-- 'bywashlaw11.BlockPlays', WHERE WHAT IT READS IS OF BULK AT MOST 1048576: true; the input reads as it did. -/
def blockPlaysUptoRow : OpenClaim := { program := "ytdonanibfifodaa", sum := "440c5474840567fc3c6ceb8105560f68d740e1d82354fcfefe12020f66cb6531", func := "bywash/bywashlaw11.BlockPlays", spec := "blockPlays", apart := false, narrowed := true }
def BlockPlaysUptoSaid : Prop := blockPlaysUptoRow.holds Try.pinned (OpenSpec.upto blockPlaysSpec)

/-- 'bywashlaw11.BlockParts', WHERE WHAT IT READS IS OF BULK AT MOST 1048576: true; the input reads as it did. -/
def blockPartsUptoRow : OpenClaim := { program := "ytdonanibfifodaa", sum := "440c5474840567fc3c6ceb8105560f68d740e1d82354fcfefe12020f66cb6531", func := "bywash/bywashlaw11.BlockParts", spec := "blockParts", apart := false, narrowed := true }
def BlockPartsUptoSaid : Prop := blockPartsUptoRow.holds Try.pinned (OpenSpec.upto blockPartsSpec)

/-- 'bywashlaw11.BlockBetween', WHERE WHAT IT READS IS OF BULK AT MOST 1048576: true; the input reads as it did. -/
def blockBetweenUptoRow : OpenClaim := { program := "ytdonanibfifodaa", sum := "440c5474840567fc3c6ceb8105560f68d740e1d82354fcfefe12020f66cb6531", func := "bywash/bywashlaw11.BlockBetween", spec := "blockBetween", apart := false, narrowed := true }
def BlockBetweenUptoSaid : Prop := blockBetweenUptoRow.holds Try.pinned (OpenSpec.upto blockBetweenSpec)

/-- 'bywashlaw11.BlockGreat', WHERE WHAT IT READS IS OF BULK AT MOST 1048576: true; the input reads as it did. -/
def blockGreatUptoRow : OpenClaim := { program := "ytdonanibfifodaa", sum := "440c5474840567fc3c6ceb8105560f68d740e1d82354fcfefe12020f66cb6531", func := "bywash/bywashlaw11.BlockGreat", spec := "blockGreat", apart := false, narrowed := true }
def BlockGreatUptoSaid : Prop := blockGreatUptoRow.holds Try.pinned (OpenSpec.upto blockGreatSpec)

/-- 'bywashlaw11.BlockEmpty', WHERE WHAT IT READS IS OF BULK AT MOST 1048576: true; the input reads as it did. -/
def blockEmptyUptoRow : OpenClaim := { program := "ytdonanibfifodaa", sum := "440c5474840567fc3c6ceb8105560f68d740e1d82354fcfefe12020f66cb6531", func := "bywash/bywashlaw11.BlockEmpty", spec := "blockEmpty", apart := false, narrowed := true }
def BlockEmptyUptoSaid : Prop := blockEmptyUptoRow.holds Try.pinned (OpenSpec.upto blockEmptySpec)

/-- 'bywashlaw11.BlockOthers', WHERE WHAT IT READS IS OF BULK AT MOST 1048576: true; the input reads as it did. -/
def blockOthersUptoRow : OpenClaim := { program := "ytdonanibfifodaa", sum := "440c5474840567fc3c6ceb8105560f68d740e1d82354fcfefe12020f66cb6531", func := "bywash/bywashlaw11.BlockOthers", spec := "blockOthers", apart := false, narrowed := true }
def BlockOthersUptoSaid : Prop := blockOthersUptoRow.holds Try.pinned (OpenSpec.upto blockOthersSpec)

end Rows
end Go.Proofs.Ytdonanibfifodaa
