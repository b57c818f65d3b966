/-
  No cell of these rows narrows 'for every input' (looked for: loops, veiled, ifaces, maps, wideKeys, modest, calm, conditions, laid).
  DERIVED. THE GIVEN ROWS OF THIS SEAT. 5 by the template 'for every input the law returns true; each argument reads behind the call as it read before'; 0 by the template 'total and deterministic' (their statements: YtkakcalabpobpaaTotals.lean).
  GIVEN WITH THE SEED: the statements are not yours to turn. If you find one false, say at which input.
  Laid BY PROGRAM, IN A SANDBOX (cutbox-rows.mjs): the forced cells as the released guide's own fill.sh prints them over the translation 09422e1dc71f4320… (all of the seat's roots in one cut). By AI agents, Wed Nov 11 2026. No macro, syntax, notation, axiom, sorry.
-/
import Derived.Test.YtkakcalabpobpaaChecked
import GoSem.Claim
import GoSem.ClaimJoined
import GoSem.ClaimMapViews
import Derived.JoinedTies
import Derived.KernelRfl
namespace Go.Proofs.Ytkakcalabpobpaa
/- THE CELL 'sum', in the pinned program and in every row, IS THE sha256 OF THE DUMP (.gsa) THAT YtkakcalabpobpaaProg.lean LOADS. Nothing in Lean hashes anything: it is a label: what it is worth is what the hold of that sum in a sandbox is worth. -/
noncomputable def Try.pinned : Pinned := { name := "ytkakcalabpobpaa", sum := "09422e1dc71f4320c4143640b4f56b0c659c7dcd6e065cf1b4cf619a723774ec", checked := Try.checked }
namespace Rows
def none {H : Type} : Left H := { results := [], args := [] }

/-- 'bywashlaw17.PingPlays': WHATEVER THE INPUT: true; the input reads as it did. -/
def pingPlaysSpec : ChangeSpec := { name := "pingPlays", fn := fun _ => fun
  | [d1, d2, d3] => { results := [.lit (.bool true)], args := [d1, d2, d3] }
  | _ => none }
def pingPlaysRow : OpenClaim := { program := "ytkakcalabpobpaa", sum := "09422e1dc71f4320c4143640b4f56b0c659c7dcd6e065cf1b4cf619a723774ec", func := "bywash/bywashlaw17.PingPlays", spec := "pingPlays", apart := false }
def PingPlaysSaid : Prop := pingPlaysRow.holds Try.pinned (OpenSpec.ofChange pingPlaysSpec)

/-- ITS FALSE NEIGHBOUR: 'it returns false'. Refute it at one input. -/
def pingPlaysWrong : ChangeSpec := { name := "pingPlays", fn := fun _ => fun
  | [d1, d2, d3] => { results := [.lit (.bool false)], args := [d1, d2, d3] }
  | _ => none }
def PingPlaysWrongFalsely : Prop := pingPlaysRow.holds Try.pinned (OpenSpec.ofChange pingPlaysWrong)

/-- 'bywashlaw17.PingGone': WHATEVER THE INPUT: true; the input reads as it did. -/
def pingGoneSpec : ChangeSpec := { name := "pingGone", fn := fun _ => fun
  | [d1, d2, d3] => { results := [.lit (.bool true)], args := [d1, d2, d3] }
  | _ => none }
def pingGoneRow : OpenClaim := { program := "ytkakcalabpobpaa", sum := "09422e1dc71f4320c4143640b4f56b0c659c7dcd6e065cf1b4cf619a723774ec", func := "bywash/bywashlaw17.PingGone", spec := "pingGone", apart := false }
def PingGoneSaid : Prop := pingGoneRow.holds Try.pinned (OpenSpec.ofChange pingGoneSpec)

/-- ITS FALSE NEIGHBOUR: 'it returns false'. Refute it at one input. -/
def pingGoneWrong : ChangeSpec := { name := "pingGone", fn := fun _ => fun
  | [d1, d2, d3] => { results := [.lit (.bool false)], args := [d1, d2, d3] }
  | _ => none }
def PingGoneWrongFalsely : Prop := pingGoneRow.holds Try.pinned (OpenSpec.ofChange pingGoneWrong)

/-- 'bywashlaw17.PingNumbers': WHATEVER THE INPUT: true; the input reads as it did. -/
def pingNumbersSpec : ChangeSpec := { name := "pingNumbers", fn := fun _ => fun
  | [d1, d2] => { results := [.lit (.bool true)], args := [d1, d2] }
  | _ => none }
def pingNumbersRow : OpenClaim := { program := "ytkakcalabpobpaa", sum := "09422e1dc71f4320c4143640b4f56b0c659c7dcd6e065cf1b4cf619a723774ec", func := "bywash/bywashlaw17.PingNumbers", spec := "pingNumbers", apart := false }
def PingNumbersSaid : Prop := pingNumbersRow.holds Try.pinned (OpenSpec.ofChange pingNumbersSpec)

/-- ITS FALSE NEIGHBOUR: 'it returns false'. Refute it at one input. -/
def pingNumbersWrong : ChangeSpec := { name := "pingNumbers", fn := fun _ => fun
  | [d1, d2] => { results := [.lit (.bool false)], args := [d1, d2] }
  | _ => none }
def PingNumbersWrongFalsely : Prop := pingNumbersRow.holds Try.pinned (OpenSpec.ofChange pingNumbersWrong)

/-- 'bywashlaw17.PingQuiet': WHATEVER THE INPUT: true; the input reads as it did. -/
def pingQuietSpec : ChangeSpec := { name := "pingQuiet", fn := fun _ => fun
  | [d1, d2, d3] => { results := [.lit (.bool true)], args := [d1, d2, d3] }
  | _ => none }
def pingQuietRow : OpenClaim := { program := "ytkakcalabpobpaa", sum := "09422e1dc71f4320c4143640b4f56b0c659c7dcd6e065cf1b4cf619a723774ec", func := "bywash/bywashlaw17.PingQuiet", spec := "pingQuiet", apart := false }
def PingQuietSaid : Prop := pingQuietRow.holds Try.pinned (OpenSpec.ofChange pingQuietSpec)

/-- ITS FALSE NEIGHBOUR: 'it returns false'. Refute it at one input. -/
def pingQuietWrong : ChangeSpec := { name := "pingQuiet", fn := fun _ => fun
  | [d1, d2, d3] => { results := [.lit (.bool false)], args := [d1, d2, d3] }
  | _ => none }
def PingQuietWrongFalsely : Prop := pingQuietRow.holds Try.pinned (OpenSpec.ofChange pingQuietWrong)

/-- 'bywashlaw17.PingSteady': WHATEVER THE INPUT: true; the input reads as it did. -/
def pingSteadySpec : ChangeSpec := { name := "pingSteady", fn := fun _ => fun
  | [d1, d2, d3] => { results := [.lit (.bool true)], args := [d1, d2, d3] }
  | _ => none }
def pingSteadyRow : OpenClaim := { program := "ytkakcalabpobpaa", sum := "09422e1dc71f4320c4143640b4f56b0c659c7dcd6e065cf1b4cf619a723774ec", func := "bywash/bywashlaw17.PingSteady", spec := "pingSteady", apart := false }
def PingSteadySaid : Prop := pingSteadyRow.holds Try.pinned (OpenSpec.ofChange pingSteadySpec)

/-- ITS FALSE NEIGHBOUR: 'it returns false'. Refute it at one input. -/
def pingSteadyWrong : ChangeSpec := { name := "pingSteady", fn := fun _ => fun
  | [d1, d2, d3] => { results := [.lit (.bool false)], args := [d1, d2, d3] }
  | _ => none }
def PingSteadyWrongFalsely : Prop := pingSteadyRow.holds Try.pinned (OpenSpec.ofChange pingSteadyWrong)

/- THE SECOND FORM. 'bulk': how many values and letters a reading holds, each counted each time it is reached (what is shared counts as often as it is met; a slice's spare places count too). A statement '..UptoSaid' is the law's where the arguments, and the package variables that the reading takes, are together of bulk at most 1048576: NARROWER than '..Said'. Prove '..Said' where nothing that the law and all that it calls make is longer than what came in: it says more and counts as full. Else prove '..UptoSaid'. A law counts once. -/
mutual
def uptoBulk {H : Type} : DataW H → Nat
  | .lit (.string bytes) => bytes.length + 1
  | .lit _ => 1
  | .nil => 1
  | .ptr d => uptoBulk d + 1
  | .slice elems spare => uptoBulkAll elems + uptoBulkAll spare + 1
  | .agg parts => uptoBulkAll parts + 1
  | .iface _ d => uptoBulk d + 1
  | .map entries => uptoBulkEntries entries + 1
  | .held _ => 1
def uptoBulkAll {H : Type} : List (DataW H) → Nat
  | [] => 0
  | d :: r => uptoBulk d + uptoBulkAll r
def uptoBulkEntries {H : Type} : List (Lit × DataW H) → Nat
  | [] => 0
  | x :: r => uptoBulkEntry x + uptoBulkEntries r
def uptoBulkEntry {H : Type} : Lit × DataW H → Nat
  | (.string bytes, d) => bytes.length + uptoBulk d + 1
  | (_, d) => uptoBulk d + 1
 end
def uptoSmall : (H : Type) → List (DataW H) → Bool := fun _ ds => decide (uptoBulkAll ds ≤ 1048576)
def OpenSpec.upto (s : _root_.Go.ChangeSpec) : _root_.Go.OpenSpec := { _root_.Go.OpenSpec.ofChange s with cond := some uptoSmall }

/-- 'bywashlaw17.PingPlays', WHERE WHAT IT READS IS OF BULK AT MOST 1048576: true; the input reads as it did. -/
def pingPlaysUptoRow : OpenClaim := { program := "ytkakcalabpobpaa", sum := "09422e1dc71f4320c4143640b4f56b0c659c7dcd6e065cf1b4cf619a723774ec", func := "bywash/bywashlaw17.PingPlays", spec := "pingPlays", apart := false, narrowed := true }
def PingPlaysUptoSaid : Prop := pingPlaysUptoRow.holds Try.pinned (OpenSpec.upto pingPlaysSpec)

/-- 'bywashlaw17.PingGone', WHERE WHAT IT READS IS OF BULK AT MOST 1048576: true; the input reads as it did. -/
def pingGoneUptoRow : OpenClaim := { program := "ytkakcalabpobpaa", sum := "09422e1dc71f4320c4143640b4f56b0c659c7dcd6e065cf1b4cf619a723774ec", func := "bywash/bywashlaw17.PingGone", spec := "pingGone", apart := false, narrowed := true }
def PingGoneUptoSaid : Prop := pingGoneUptoRow.holds Try.pinned (OpenSpec.upto pingGoneSpec)

/-- 'bywashlaw17.PingNumbers', WHERE WHAT IT READS IS OF BULK AT MOST 1048576: true; the input reads as it did. -/
def pingNumbersUptoRow : OpenClaim := { program := "ytkakcalabpobpaa", sum := "09422e1dc71f4320c4143640b4f56b0c659c7dcd6e065cf1b4cf619a723774ec", func := "bywash/bywashlaw17.PingNumbers", spec := "pingNumbers", apart := false, narrowed := true }
def PingNumbersUptoSaid : Prop := pingNumbersUptoRow.holds Try.pinned (OpenSpec.upto pingNumbersSpec)

/-- 'bywashlaw17.PingQuiet', WHERE WHAT IT READS IS OF BULK AT MOST 1048576: true; the input reads as it did. -/
def pingQuietUptoRow : OpenClaim := { program := "ytkakcalabpobpaa", sum := "09422e1dc71f4320c4143640b4f56b0c659c7dcd6e065cf1b4cf619a723774ec", func := "bywash/bywashlaw17.PingQuiet", spec := "pingQuiet", apart := false, narrowed := true }
def PingQuietUptoSaid : Prop := pingQuietUptoRow.holds Try.pinned (OpenSpec.upto pingQuietSpec)

/-- 'bywashlaw17.PingSteady', WHERE WHAT IT READS IS OF BULK AT MOST 1048576: true; the input reads as it did. -/
def pingSteadyUptoRow : OpenClaim := { program := "ytkakcalabpobpaa", sum := "09422e1dc71f4320c4143640b4f56b0c659c7dcd6e065cf1b4cf619a723774ec", func := "bywash/bywashlaw17.PingSteady", spec := "pingSteady", apart := false, narrowed := true }
def PingSteadyUptoSaid : Prop := pingSteadyUptoRow.holds Try.pinned (OpenSpec.upto pingSteadySpec)

end Rows
end Go.Proofs.Ytkakcalabpobpaa
