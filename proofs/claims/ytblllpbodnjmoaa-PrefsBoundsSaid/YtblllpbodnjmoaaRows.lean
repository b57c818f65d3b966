/-
  No cell of these rows narrows 'for every input' (looked for: loops, veiled, ifaces, maps, wideKeys, modest, calm, conditions, laid).
  DERIVED. THE GIVEN ROWS OF THIS SEAT. 7 by the template 'for every input the law returns true; each argument reads behind the call as it read before'; 0 by the template 'total and deterministic' (their statements: YtblllpbodnjmoaaTotals.lean).
  GIVEN WITH THE SEED: the statements are not yours to turn. If you find one false, say at which input.
  Laid BY PROGRAM, IN A SANDBOX (cutbox-rows.mjs): the forced cells as the released guide's own fill.sh prints them over the translation b97387f42b00b13b… (all of the seat's roots in one cut). By AI agents, Wed Nov 11 2026. No macro, syntax, notation, axiom, sorry.
-/
import Derived.Test.YtblllpbodnjmoaaChecked
import GoSem.Claim
import GoSem.ClaimJoined
import GoSem.ClaimMapViews
import Derived.JoinedTies
import Derived.KernelRfl
namespace Go.Proofs.Ytblllpbodnjmoaa
/- THE CELL 'sum', in the pinned program and in every row, IS THE sha256 OF THE DUMP (.gsa) THAT YtblllpbodnjmoaaProg.lean LOADS. Nothing in Lean hashes anything: it is a label: what it is worth is what the hold of that sum in a sandbox is worth. -/
noncomputable def Try.pinned : Pinned := { name := "ytblllpbodnjmoaa", sum := "b97387f42b00b13bddd17f9a221e08f0c59ee648b2fe2fddbe70e81f5807f83f", checked := Try.checked }
namespace Rows
def none {H : Type} : Left H := { results := [], args := [] }

/-- 'bywashlaw10.PrefsTells': WHATEVER THE INPUT: true; the input reads as it did. -/
def prefsTellsSpec : ChangeSpec := { name := "prefsTells", fn := fun _ => fun
  | [d1, d2, d3] => { results := [.lit (.bool true)], args := [d1, d2, d3] }
  | _ => none }
def prefsTellsRow : OpenClaim := { program := "ytblllpbodnjmoaa", sum := "b97387f42b00b13bddd17f9a221e08f0c59ee648b2fe2fddbe70e81f5807f83f", func := "bywash/bywashlaw10.PrefsTells", spec := "prefsTells", apart := false }
def PrefsTellsSaid : Prop := prefsTellsRow.holds Try.pinned (OpenSpec.ofChange prefsTellsSpec)

/-- ITS FALSE NEIGHBOUR: 'it returns false'. Refute it at one input. -/
def prefsTellsWrong : ChangeSpec := { name := "prefsTells", fn := fun _ => fun
  | [d1, d2, d3] => { results := [.lit (.bool false)], args := [d1, d2, d3] }
  | _ => none }
def PrefsTellsWrongFalsely : Prop := prefsTellsRow.holds Try.pinned (OpenSpec.ofChange prefsTellsWrong)

/-- 'bywashlaw10.PrefsParts': WHATEVER THE INPUT: true; the input reads as it did. -/
def prefsPartsSpec : ChangeSpec := { name := "prefsParts", fn := fun _ => fun
  | [d] => { results := [.lit (.bool true)], args := [d] }
  | _ => none }
def prefsPartsRow : OpenClaim := { program := "ytblllpbodnjmoaa", sum := "b97387f42b00b13bddd17f9a221e08f0c59ee648b2fe2fddbe70e81f5807f83f", func := "bywash/bywashlaw10.PrefsParts", spec := "prefsParts", apart := false }
def PrefsPartsSaid : Prop := prefsPartsRow.holds Try.pinned (OpenSpec.ofChange prefsPartsSpec)

/-- ITS FALSE NEIGHBOUR: 'it returns false'. Refute it at one input. -/
def prefsPartsWrong : ChangeSpec := { name := "prefsParts", fn := fun _ => fun
  | [d] => { results := [.lit (.bool false)], args := [d] }
  | _ => none }
def PrefsPartsWrongFalsely : Prop := prefsPartsRow.holds Try.pinned (OpenSpec.ofChange prefsPartsWrong)

/-- 'bywashlaw10.PrefsLast': WHATEVER THE INPUT: true; the input reads as it did. -/
def prefsLastSpec : ChangeSpec := { name := "prefsLast", fn := fun _ => fun
  | [d1, d2, d3] => { results := [.lit (.bool true)], args := [d1, d2, d3] }
  | _ => none }
def prefsLastRow : OpenClaim := { program := "ytblllpbodnjmoaa", sum := "b97387f42b00b13bddd17f9a221e08f0c59ee648b2fe2fddbe70e81f5807f83f", func := "bywash/bywashlaw10.PrefsLast", spec := "prefsLast", apart := false }
def PrefsLastSaid : Prop := prefsLastRow.holds Try.pinned (OpenSpec.ofChange prefsLastSpec)

/-- ITS FALSE NEIGHBOUR: 'it returns false'. Refute it at one input. -/
def prefsLastWrong : ChangeSpec := { name := "prefsLast", fn := fun _ => fun
  | [d1, d2, d3] => { results := [.lit (.bool false)], args := [d1, d2, d3] }
  | _ => none }
def PrefsLastWrongFalsely : Prop := prefsLastRow.holds Try.pinned (OpenSpec.ofChange prefsLastWrong)

/-- 'bywashlaw10.PrefsBounds': WHATEVER THE INPUT: true; the input reads as it did. -/
def prefsBoundsSpec : ChangeSpec := { name := "prefsBounds", fn := fun _ => fun
  | [d1, d2] => { results := [.lit (.bool true)], args := [d1, d2] }
  | _ => none }
def prefsBoundsRow : OpenClaim := { program := "ytblllpbodnjmoaa", sum := "b97387f42b00b13bddd17f9a221e08f0c59ee648b2fe2fddbe70e81f5807f83f", func := "bywash/bywashlaw10.PrefsBounds", spec := "prefsBounds", apart := false }
def PrefsBoundsSaid : Prop := prefsBoundsRow.holds Try.pinned (OpenSpec.ofChange prefsBoundsSpec)

/-- ITS FALSE NEIGHBOUR: 'it returns false'. Refute it at one input. -/
def prefsBoundsWrong : ChangeSpec := { name := "prefsBounds", fn := fun _ => fun
  | [d1, d2] => { results := [.lit (.bool false)], args := [d1, d2] }
  | _ => none }
def PrefsBoundsWrongFalsely : Prop := prefsBoundsRow.holds Try.pinned (OpenSpec.ofChange prefsBoundsWrong)

/-- 'bywashlaw10.PrefsCuts': WHATEVER THE INPUT: true; the input reads as it did. -/
def prefsCutsSpec : ChangeSpec := { name := "prefsCuts", fn := fun _ => fun
  | [d1, d2] => { results := [.lit (.bool true)], args := [d1, d2] }
  | _ => none }
def prefsCutsRow : OpenClaim := { program := "ytblllpbodnjmoaa", sum := "b97387f42b00b13bddd17f9a221e08f0c59ee648b2fe2fddbe70e81f5807f83f", func := "bywash/bywashlaw10.PrefsCuts", spec := "prefsCuts", apart := false }
def PrefsCutsSaid : Prop := prefsCutsRow.holds Try.pinned (OpenSpec.ofChange prefsCutsSpec)

/-- ITS FALSE NEIGHBOUR: 'it returns false'. Refute it at one input. -/
def prefsCutsWrong : ChangeSpec := { name := "prefsCuts", fn := fun _ => fun
  | [d1, d2] => { results := [.lit (.bool false)], args := [d1, d2] }
  | _ => none }
def PrefsCutsWrongFalsely : Prop := prefsCutsRow.holds Try.pinned (OpenSpec.ofChange prefsCutsWrong)

/-- 'bywashlaw10.PrefsMine': WHATEVER THE INPUT: true; the input reads as it did. -/
def prefsMineSpec : ChangeSpec := { name := "prefsMine", fn := fun _ => fun
  | [d] => { results := [.lit (.bool true)], args := [d] }
  | _ => none }
def prefsMineRow : OpenClaim := { program := "ytblllpbodnjmoaa", sum := "b97387f42b00b13bddd17f9a221e08f0c59ee648b2fe2fddbe70e81f5807f83f", func := "bywash/bywashlaw10.PrefsMine", spec := "prefsMine", apart := false }
def PrefsMineSaid : Prop := prefsMineRow.holds Try.pinned (OpenSpec.ofChange prefsMineSpec)

/-- ITS FALSE NEIGHBOUR: 'it returns false'. Refute it at one input. -/
def prefsMineWrong : ChangeSpec := { name := "prefsMine", fn := fun _ => fun
  | [d] => { results := [.lit (.bool false)], args := [d] }
  | _ => none }
def PrefsMineWrongFalsely : Prop := prefsMineRow.holds Try.pinned (OpenSpec.ofChange prefsMineWrong)

/-- 'bywashlaw10.PrefsPush': WHATEVER THE INPUT: true; the input reads as it did. -/
def prefsPushSpec : ChangeSpec := { name := "prefsPush", fn := fun _ => fun
  | [d1, d2] => { results := [.lit (.bool true)], args := [d1, d2] }
  | _ => none }
def prefsPushRow : OpenClaim := { program := "ytblllpbodnjmoaa", sum := "b97387f42b00b13bddd17f9a221e08f0c59ee648b2fe2fddbe70e81f5807f83f", func := "bywash/bywashlaw10.PrefsPush", spec := "prefsPush", apart := false }
def PrefsPushSaid : Prop := prefsPushRow.holds Try.pinned (OpenSpec.ofChange prefsPushSpec)

/-- ITS FALSE NEIGHBOUR: 'it returns false'. Refute it at one input. -/
def prefsPushWrong : ChangeSpec := { name := "prefsPush", fn := fun _ => fun
  | [d1, d2] => { results := [.lit (.bool false)], args := [d1, d2] }
  | _ => none }
def PrefsPushWrongFalsely : Prop := prefsPushRow.holds Try.pinned (OpenSpec.ofChange prefsPushWrong)

/- THE SECOND FORM. 'bulk': how many values and letters a reading holds, each counted each time it is reached (what is shared counts as often as it is met; a slice's spare places count too). A statement '..UptoSaid' is the law's where the arguments, and the package variables that the reading takes, are together of bulk at most 1048576: NARROWER than '..Said'. Prove '..Said' where nothing that the law and all that it calls make is longer than what came in: it says more and counts as full. Else prove '..UptoSaid'. A law counts once. -/
mutual
def uptoBulk {H : Type} : DataW H → Nat
  | .lit (.string bytes) => bytes.length + 1
  | .lit _ => 1
  | .nil => 1
  | .ptr d => uptoBulk d + 1
  | .slice elems spare => uptoBulkAll elems + uptoBulkAll spare + 1
  | .agg parts => uptoBulkAll parts + 1
  | .iface _ d => uptoBulk d + 1
  | .map entries => uptoBulkEntries entries + 1
  | .held _ => 1
def uptoBulkAll {H : Type} : List (DataW H) → Nat
  | [] => 0
  | d :: r => uptoBulk d + uptoBulkAll r
def uptoBulkEntries {H : Type} : List (Lit × DataW H) → Nat
  | [] => 0
  | x :: r => uptoBulkEntry x + uptoBulkEntries r
def uptoBulkEntry {H : Type} : Lit × DataW H → Nat
  | (.string bytes, d) => bytes.length + uptoBulk d + 1
  | (_, d) => uptoBulk d + 1
 end
def uptoSmall : (H : Type) → List (DataW H) → Bool := fun _ ds => decide (uptoBulkAll ds ≤ 1048576)
def OpenSpec.upto (s : _root_.Go.ChangeSpec) : _root_.Go.OpenSpec := { _root_.Go.OpenSpec.ofChange s with cond := some uptoSmall }

/-- 'bywashlaw10.PrefsTells', WHERE WHAT IT READS IS OF BULK AT MOST 1048576: true; the input reads as it did. -/
def prefsTellsUptoRow : OpenClaim := { program := "ytblllpbodnjmoaa", sum := "b97387f42b00b13bddd17f9a221e08f0c59ee648b2fe2fddbe70e81f5807f83f", func := "bywash/bywashlaw10.PrefsTells", spec := "prefsTells", apart := false, narrowed := true }
def PrefsTellsUptoSaid : Prop := prefsTellsUptoRow.holds Try.pinned (OpenSpec.upto prefsTellsSpec)

/-- 'bywashlaw10.PrefsParts', WHERE WHAT IT READS IS OF BULK AT MOST 1048576: true; the input reads as it did. -/
def prefsPartsUptoRow : OpenClaim := { program := "ytblllpbodnjmoaa", sum := "b97387f42b00b13bddd17f9a221e08f0c59ee648b2fe2fddbe70e81f5807f83f", func := "bywash/bywashlaw10.PrefsParts", spec := "prefsParts", apart := false, narrowed := true }
def PrefsPartsUptoSaid : Prop := prefsPartsUptoRow.holds Try.pinned (OpenSpec.upto prefsPartsSpec)

/-- 'bywashlaw10.PrefsLast', WHERE WHAT IT READS IS OF BULK AT MOST 1048576: true; the input reads as it did. -/
def prefsLastUptoRow : OpenClaim := { program := "ytblllpbodnjmoaa", sum := "b97387f42b00b13bddd17f9a221e08f0c59ee648b2fe2fddbe70e81f5807f83f", func := "bywash/bywashlaw10.PrefsLast", spec := "prefsLast", apart := false, narrowed := true }
def PrefsLastUptoSaid : Prop := prefsLastUptoRow.holds Try.pinned (OpenSpec.upto prefsLastSpec)

/-- 'bywashlaw10.PrefsBounds', WHERE WHAT IT READS IS OF BULK AT MOST 1048576: true; the input reads as it did. -/
def prefsBoundsUptoRow : OpenClaim := { program := "ytblllpbodnjmoaa", sum := "b97387f42b00b13bddd17f9a221e08f0c59ee648b2fe2fddbe70e81f5807f83f", func := "bywash/bywashlaw10.PrefsBounds", spec := "prefsBounds", apart := false, narrowed := true }
def PrefsBoundsUptoSaid : Prop := prefsBoundsUptoRow.holds Try.pinned (OpenSpec.upto prefsBoundsSpec)

/-- 'bywashlaw10.PrefsCuts', WHERE WHAT IT READS IS OF BULK AT MOST 1048576: true; the input reads as it did. -/
def prefsCutsUptoRow : OpenClaim := { program := "ytblllpbodnjmoaa", sum := "b97387f42b00b13bddd17f9a221e08f0c59ee648b2fe2fddbe70e81f5807f83f", func := "bywash/bywashlaw10.PrefsCuts", spec := "prefsCuts", apart := false, narrowed := true }
def PrefsCutsUptoSaid : Prop := prefsCutsUptoRow.holds Try.pinned (OpenSpec.upto prefsCutsSpec)

/-- 'bywashlaw10.PrefsMine', WHERE WHAT IT READS IS OF BULK AT MOST 1048576: true; the input reads as it did. -/
def prefsMineUptoRow : OpenClaim := { program := "ytblllpbodnjmoaa", sum := "b97387f42b00b13bddd17f9a221e08f0c59ee648b2fe2fddbe70e81f5807f83f", func := "bywash/bywashlaw10.PrefsMine", spec := "prefsMine", apart := false, narrowed := true }
def PrefsMineUptoSaid : Prop := prefsMineUptoRow.holds Try.pinned (OpenSpec.upto prefsMineSpec)

/-- 'bywashlaw10.PrefsPush', WHERE WHAT IT READS IS OF BULK AT MOST 1048576: true; the input reads as it did. -/
def prefsPushUptoRow : OpenClaim := { program := "ytblllpbodnjmoaa", sum := "b97387f42b00b13bddd17f9a221e08f0c59ee648b2fe2fddbe70e81f5807f83f", func := "bywash/bywashlaw10.PrefsPush", spec := "prefsPush", apart := false, narrowed := true }
def PrefsPushUptoSaid : Prop := prefsPushUptoRow.holds Try.pinned (OpenSpec.upto prefsPushSpec)

end Rows
end Go.Proofs.Ytblllpbodnjmoaa
