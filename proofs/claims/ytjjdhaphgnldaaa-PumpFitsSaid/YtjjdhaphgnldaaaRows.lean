/-
  No cell of these rows narrows 'for every input' (looked for: loops, veiled, ifaces, maps, wideKeys, modest, calm, conditions, laid).
  DERIVED. THE GIVEN ROWS OF THIS SEAT. 5 by the template 'for every input the law returns true; each argument reads behind the call as it read before'; 0 by the template 'total and deterministic' (their statements: YtjjdhaphgnldaaaTotals.lean).
  GIVEN WITH THE SEED: the statements are not yours to turn. If you find one false, say at which input.
  Laid BY PROGRAM, IN A SANDBOX (cutbox-rows.mjs): the forced cells as the released guide's own fill.sh prints them over the translation 8377e84926dee1d5… (all of the seat's roots in one cut). By AI agents, Wed Nov 11 2026. No macro, syntax, notation, axiom, sorry.
-/
import Derived.Test.YtjjdhaphgnldaaaChecked
import GoSem.Claim
import GoSem.ClaimJoined
import GoSem.ClaimMapViews
import Derived.JoinedTies
import Derived.KernelRfl
namespace Go.Proofs.Ytjjdhaphgnldaaa
/- THE CELL 'sum', in the pinned program and in every row, IS THE sha256 OF THE DUMP (.gsa) THAT YtjjdhaphgnldaaaProg.lean LOADS. Nothing in Lean hashes anything: it is a label: what it is worth is what the hold of that sum in a sandbox is worth. -/
noncomputable def Try.pinned : Pinned := { name := "ytjjdhaphgnldaaa", sum := "8377e84926dee1d533b622badf897711ce0ff199e19838584e910f5154ae5f21", checked := Try.checked }
namespace Rows
def none {H : Type} : Left H := { results := [], args := [] }

/-- 'bywashlaw16.PumpTells': WHATEVER THE INPUT: true; the input reads as it did. -/
def pumpTellsSpec : ChangeSpec := { name := "pumpTells", fn := fun _ => fun
  | [d1, d2, d3] => { results := [.lit (.bool true)], args := [d1, d2, d3] }
  | _ => none }
def pumpTellsRow : OpenClaim := { program := "ytjjdhaphgnldaaa", sum := "8377e84926dee1d533b622badf897711ce0ff199e19838584e910f5154ae5f21", func := "bywash/bywashlaw16.PumpTells", spec := "pumpTells", apart := false }
def PumpTellsSaid : Prop := pumpTellsRow.holds Try.pinned (OpenSpec.ofChange pumpTellsSpec)

/-- ITS FALSE NEIGHBOUR: 'it returns false'. Refute it at one input. -/
def pumpTellsWrong : ChangeSpec := { name := "pumpTells", fn := fun _ => fun
  | [d1, d2, d3] => { results := [.lit (.bool false)], args := [d1, d2, d3] }
  | _ => none }
def PumpTellsWrongFalsely : Prop := pumpTellsRow.holds Try.pinned (OpenSpec.ofChange pumpTellsWrong)

/-- 'bywashlaw16.PumpFits': WHATEVER THE INPUT: true; the input reads as it did. -/
def pumpFitsSpec : ChangeSpec := { name := "pumpFits", fn := fun _ => fun
  | [d1, d2, d3] => { results := [.lit (.bool true)], args := [d1, d2, d3] }
  | _ => none }
def pumpFitsRow : OpenClaim := { program := "ytjjdhaphgnldaaa", sum := "8377e84926dee1d533b622badf897711ce0ff199e19838584e910f5154ae5f21", func := "bywash/bywashlaw16.PumpFits", spec := "pumpFits", apart := false }
def PumpFitsSaid : Prop := pumpFitsRow.holds Try.pinned (OpenSpec.ofChange pumpFitsSpec)

/-- ITS FALSE NEIGHBOUR: 'it returns false'. Refute it at one input. -/
def pumpFitsWrong : ChangeSpec := { name := "pumpFits", fn := fun _ => fun
  | [d1, d2, d3] => { results := [.lit (.bool false)], args := [d1, d2, d3] }
  | _ => none }
def PumpFitsWrongFalsely : Prop := pumpFitsRow.holds Try.pinned (OpenSpec.ofChange pumpFitsWrong)

/-- 'bywashlaw16.PumpOne': WHATEVER THE INPUT: true; the input reads as it did. -/
def pumpOneSpec : ChangeSpec := { name := "pumpOne", fn := fun _ => fun
  | [d1, d2, d3] => { results := [.lit (.bool true)], args := [d1, d2, d3] }
  | _ => none }
def pumpOneRow : OpenClaim := { program := "ytjjdhaphgnldaaa", sum := "8377e84926dee1d533b622badf897711ce0ff199e19838584e910f5154ae5f21", func := "bywash/bywashlaw16.PumpOne", spec := "pumpOne", apart := false }
def PumpOneSaid : Prop := pumpOneRow.holds Try.pinned (OpenSpec.ofChange pumpOneSpec)

/-- ITS FALSE NEIGHBOUR: 'it returns false'. Refute it at one input. -/
def pumpOneWrong : ChangeSpec := { name := "pumpOne", fn := fun _ => fun
  | [d1, d2, d3] => { results := [.lit (.bool false)], args := [d1, d2, d3] }
  | _ => none }
def PumpOneWrongFalsely : Prop := pumpOneRow.holds Try.pinned (OpenSpec.ofChange pumpOneWrong)

/-- 'bywashlaw16.PumpEmpty': WHATEVER THE INPUT: true; the input reads as it did. -/
def pumpEmptySpec : ChangeSpec := { name := "pumpEmpty", fn := fun _ => fun
  | [d1, d2] => { results := [.lit (.bool true)], args := [d1, d2] }
  | _ => none }
def pumpEmptyRow : OpenClaim := { program := "ytjjdhaphgnldaaa", sum := "8377e84926dee1d533b622badf897711ce0ff199e19838584e910f5154ae5f21", func := "bywash/bywashlaw16.PumpEmpty", spec := "pumpEmpty", apart := false }
def PumpEmptySaid : Prop := pumpEmptyRow.holds Try.pinned (OpenSpec.ofChange pumpEmptySpec)

/-- ITS FALSE NEIGHBOUR: 'it returns false'. Refute it at one input. -/
def pumpEmptyWrong : ChangeSpec := { name := "pumpEmpty", fn := fun _ => fun
  | [d1, d2] => { results := [.lit (.bool false)], args := [d1, d2] }
  | _ => none }
def PumpEmptyWrongFalsely : Prop := pumpEmptyRow.holds Try.pinned (OpenSpec.ofChange pumpEmptyWrong)

/-- 'bywashlaw16.PumpTurns': WHATEVER THE INPUT: true; the input reads as it did. -/
def pumpTurnsSpec : ChangeSpec := { name := "pumpTurns", fn := fun _ => fun
  | [d1, d2] => { results := [.lit (.bool true)], args := [d1, d2] }
  | _ => none }
def pumpTurnsRow : OpenClaim := { program := "ytjjdhaphgnldaaa", sum := "8377e84926dee1d533b622badf897711ce0ff199e19838584e910f5154ae5f21", func := "bywash/bywashlaw16.PumpTurns", spec := "pumpTurns", apart := false }
def PumpTurnsSaid : Prop := pumpTurnsRow.holds Try.pinned (OpenSpec.ofChange pumpTurnsSpec)

/-- ITS FALSE NEIGHBOUR: 'it returns false'. Refute it at one input. -/
def pumpTurnsWrong : ChangeSpec := { name := "pumpTurns", fn := fun _ => fun
  | [d1, d2] => { results := [.lit (.bool false)], args := [d1, d2] }
  | _ => none }
def PumpTurnsWrongFalsely : Prop := pumpTurnsRow.holds Try.pinned (OpenSpec.ofChange pumpTurnsWrong)

/- THE SECOND FORM. 'bulk': how many values and letters a reading holds, each counted each time it is reached (what is shared counts as often as it is met; a slice's spare places count too). A statement '..UptoSaid' is the law's where the arguments, and the package variables that the reading takes, are together of bulk at most 1048576: NARROWER than '..Said'. Prove '..Said' where nothing that the law and all that it calls make is longer than what came in: it says more and counts as full. Else prove '..UptoSaid'. A law counts once. -/
mutual
def uptoBulk {H : Type} : DataW H → Nat
  | .lit (.string bytes) => bytes.length + 1
  | .lit _ => 1
  | .nil => 1
  | .ptr d => uptoBulk d + 1
  | .slice elems spare => uptoBulkAll elems + uptoBulkAll spare + 1
  | .agg parts => uptoBulkAll parts + 1
  | .iface _ d => uptoBulk d + 1
  | .map entries => uptoBulkEntries entries + 1
  | .held _ => 1
def uptoBulkAll {H : Type} : List (DataW H) → Nat
  | [] => 0
  | d :: r => uptoBulk d + uptoBulkAll r
def uptoBulkEntries {H : Type} : List (Lit × DataW H) → Nat
  | [] => 0
  | x :: r => uptoBulkEntry x + uptoBulkEntries r
def uptoBulkEntry {H : Type} : Lit × DataW H → Nat
  | (.string bytes, d) => bytes.length + uptoBulk d + 1
  | (_, d) => uptoBulk d + 1
 end
def uptoSmall : (H : Type) → List (DataW H) → Bool := fun _ ds => decide (uptoBulkAll ds ≤ 1048576)
def OpenSpec.upto (s : _root_.Go.ChangeSpec) : _root_.Go.OpenSpec := { _root_.Go.OpenSpec.ofChange s with cond := some uptoSmall }

/-- 'bywashlaw16.PumpTells', WHERE WHAT IT READS IS OF BULK AT MOST 1048576: true; the input reads as it did. -/
def pumpTellsUptoRow : OpenClaim := { program := "ytjjdhaphgnldaaa", sum := "8377e84926dee1d533b622badf897711ce0ff199e19838584e910f5154ae5f21", func := "bywash/bywashlaw16.PumpTells", spec := "pumpTells", apart := false, narrowed := true }
def PumpTellsUptoSaid : Prop := pumpTellsUptoRow.holds Try.pinned (OpenSpec.upto pumpTellsSpec)

/-- 'bywashlaw16.PumpFits', WHERE WHAT IT READS IS OF BULK AT MOST 1048576: true; the input reads as it did. -/
def pumpFitsUptoRow : OpenClaim := { program := "ytjjdhaphgnldaaa", sum := "8377e84926dee1d533b622badf897711ce0ff199e19838584e910f5154ae5f21", func := "bywash/bywashlaw16.PumpFits", spec := "pumpFits", apart := false, narrowed := true }
def PumpFitsUptoSaid : Prop := pumpFitsUptoRow.holds Try.pinned (OpenSpec.upto pumpFitsSpec)

/-- 'bywashlaw16.PumpOne', WHERE WHAT IT READS IS OF BULK AT MOST 1048576: true; the input reads as it did. -/
def pumpOneUptoRow : OpenClaim := { program := "ytjjdhaphgnldaaa", sum := "8377e84926dee1d533b622badf897711ce0ff199e19838584e910f5154ae5f21", func := "bywash/bywashlaw16.PumpOne", spec := "pumpOne", apart := false, narrowed := true }
def PumpOneUptoSaid : Prop := pumpOneUptoRow.holds Try.pinned (OpenSpec.upto pumpOneSpec)

/-- 'bywashlaw16.PumpEmpty', WHERE WHAT IT READS IS OF BULK AT MOST 1048576: true; the input reads as it did. -/
def pumpEmptyUptoRow : OpenClaim := { program := "ytjjdhaphgnldaaa", sum := "8377e84926dee1d533b622badf897711ce0ff199e19838584e910f5154ae5f21", func := "bywash/bywashlaw16.PumpEmpty", spec := "pumpEmpty", apart := false, narrowed := true }
def PumpEmptyUptoSaid : Prop := pumpEmptyUptoRow.holds Try.pinned (OpenSpec.upto pumpEmptySpec)

/-- 'bywashlaw16.PumpTurns', WHERE WHAT IT READS IS OF BULK AT MOST 1048576: true; the input reads as it did. -/
def pumpTurnsUptoRow : OpenClaim := { program := "ytjjdhaphgnldaaa", sum := "8377e84926dee1d533b622badf897711ce0ff199e19838584e910f5154ae5f21", func := "bywash/bywashlaw16.PumpTurns", spec := "pumpTurns", apart := false, narrowed := true }
def PumpTurnsUptoSaid : Prop := pumpTurnsUptoRow.holds Try.pinned (OpenSpec.upto pumpTurnsSpec)

end Rows
end Go.Proofs.Ytjjdhaphgnldaaa
