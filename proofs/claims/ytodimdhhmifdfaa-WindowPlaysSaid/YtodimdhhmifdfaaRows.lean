/-
  No cell of these rows narrows 'for every input' (looked for: loops, veiled, ifaces, maps, wideKeys, modest, calm, conditions, laid).
  DERIVED. THE GIVEN ROWS OF THIS SEAT. 6 by the template 'for every input the law returns true; each argument reads behind the call as it read before'; 0 by the template 'total and deterministic' (their statements: YtodimdhhmifdfaaTotals.lean).
  GIVEN WITH THE SEED: the statements are not yours to turn. If you find one false, say at which input.
  Laid BY PROGRAM, IN A SANDBOX (cutbox-rows.mjs): the forced cells as the released guide's own fill.sh prints them over the translation 9357b187af4c62ce… (all of the seat's roots in one cut). By AI agents, Wed Nov 11 2026. No macro, syntax, notation, axiom, sorry.
-/
import Derived.Test.YtodimdhhmifdfaaChecked
import GoSem.Claim
import GoSem.ClaimJoined
import GoSem.ClaimMapViews
import Derived.JoinedTies
import Derived.KernelRfl
namespace Go.Proofs.Ytodimdhhmifdfaa
/- THE CELL 'sum', in the pinned program and in every row, IS THE sha256 OF THE DUMP (.gsa) THAT YtodimdhhmifdfaaProg.lean LOADS. Nothing in Lean hashes anything: it is a label: what it is worth is what the hold of that sum in a sandbox is worth. -/
noncomputable def Try.pinned : Pinned := { name := "ytodimdhhmifdfaa", sum := "9357b187af4c62ce0776483175a3fe55fc527960c2a18afc8ed23cfb7279e530", checked := Try.checked }
namespace Rows
def none {H : Type} : Left H := { results := [], args := [] }

/-- 'bywashlaw12.WindowEven': WHATEVER THE INPUT: true; the input reads as it did. -/
def windowEvenSpec : ChangeSpec := { name := "windowEven", fn := fun _ => fun
  | [d1, d2] => { results := [.lit (.bool true)], args := [d1, d2] }
  | _ => none }
def windowEvenRow : OpenClaim := { program := "ytodimdhhmifdfaa", sum := "9357b187af4c62ce0776483175a3fe55fc527960c2a18afc8ed23cfb7279e530", func := "bywash/bywashlaw12.WindowEven", spec := "windowEven", apart := false }
def WindowEvenSaid : Prop := windowEvenRow.holds Try.pinned (OpenSpec.ofChange windowEvenSpec)

/-- ITS FALSE NEIGHBOUR: 'it returns false'. Refute it at one input. -/
def windowEvenWrong : ChangeSpec := { name := "windowEven", fn := fun _ => fun
  | [d1, d2] => { results := [.lit (.bool false)], args := [d1, d2] }
  | _ => none }
def WindowEvenWrongFalsely : Prop := windowEvenRow.holds Try.pinned (OpenSpec.ofChange windowEvenWrong)

/-- 'bywashlaw12.WindowHalf': WHATEVER THE INPUT: true; the input reads as it did. -/
def windowHalfSpec : ChangeSpec := { name := "windowHalf", fn := fun _ => fun
  | [d1, d2] => { results := [.lit (.bool true)], args := [d1, d2] }
  | _ => none }
def windowHalfRow : OpenClaim := { program := "ytodimdhhmifdfaa", sum := "9357b187af4c62ce0776483175a3fe55fc527960c2a18afc8ed23cfb7279e530", func := "bywash/bywashlaw12.WindowHalf", spec := "windowHalf", apart := false }
def WindowHalfSaid : Prop := windowHalfRow.holds Try.pinned (OpenSpec.ofChange windowHalfSpec)

/-- ITS FALSE NEIGHBOUR: 'it returns false'. Refute it at one input. -/
def windowHalfWrong : ChangeSpec := { name := "windowHalf", fn := fun _ => fun
  | [d1, d2] => { results := [.lit (.bool false)], args := [d1, d2] }
  | _ => none }
def WindowHalfWrongFalsely : Prop := windowHalfRow.holds Try.pinned (OpenSpec.ofChange windowHalfWrong)

/-- 'bywashlaw12.WindowTaken': WHATEVER THE INPUT: true; the input reads as it did. -/
def windowTakenSpec : ChangeSpec := { name := "windowTaken", fn := fun _ => fun
  | [d1, d2] => { results := [.lit (.bool true)], args := [d1, d2] }
  | _ => none }
def windowTakenRow : OpenClaim := { program := "ytodimdhhmifdfaa", sum := "9357b187af4c62ce0776483175a3fe55fc527960c2a18afc8ed23cfb7279e530", func := "bywash/bywashlaw12.WindowTaken", spec := "windowTaken", apart := false }
def WindowTakenSaid : Prop := windowTakenRow.holds Try.pinned (OpenSpec.ofChange windowTakenSpec)

/-- ITS FALSE NEIGHBOUR: 'it returns false'. Refute it at one input. -/
def windowTakenWrong : ChangeSpec := { name := "windowTaken", fn := fun _ => fun
  | [d1, d2] => { results := [.lit (.bool false)], args := [d1, d2] }
  | _ => none }
def WindowTakenWrongFalsely : Prop := windowTakenRow.holds Try.pinned (OpenSpec.ofChange windowTakenWrong)

/-- 'bywashlaw12.WindowGrows': WHATEVER THE INPUT: true; the input reads as it did. -/
def windowGrowsSpec : ChangeSpec := { name := "windowGrows", fn := fun _ => fun
  | [d1, d2] => { results := [.lit (.bool true)], args := [d1, d2] }
  | _ => none }
def windowGrowsRow : OpenClaim := { program := "ytodimdhhmifdfaa", sum := "9357b187af4c62ce0776483175a3fe55fc527960c2a18afc8ed23cfb7279e530", func := "bywash/bywashlaw12.WindowGrows", spec := "windowGrows", apart := false }
def WindowGrowsSaid : Prop := windowGrowsRow.holds Try.pinned (OpenSpec.ofChange windowGrowsSpec)

/-- ITS FALSE NEIGHBOUR: 'it returns false'. Refute it at one input. -/
def windowGrowsWrong : ChangeSpec := { name := "windowGrows", fn := fun _ => fun
  | [d1, d2] => { results := [.lit (.bool false)], args := [d1, d2] }
  | _ => none }
def WindowGrowsWrongFalsely : Prop := windowGrowsRow.holds Try.pinned (OpenSpec.ofChange windowGrowsWrong)

/-- 'bywashlaw12.WindowShifts': WHATEVER THE INPUT: true; the input reads as it did. -/
def windowShiftsSpec : ChangeSpec := { name := "windowShifts", fn := fun _ => fun
  | [d1, d2, d3] => { results := [.lit (.bool true)], args := [d1, d2, d3] }
  | _ => none }
def windowShiftsRow : OpenClaim := { program := "ytodimdhhmifdfaa", sum := "9357b187af4c62ce0776483175a3fe55fc527960c2a18afc8ed23cfb7279e530", func := "bywash/bywashlaw12.WindowShifts", spec := "windowShifts", apart := false }
def WindowShiftsSaid : Prop := windowShiftsRow.holds Try.pinned (OpenSpec.ofChange windowShiftsSpec)

/-- ITS FALSE NEIGHBOUR: 'it returns false'. Refute it at one input. -/
def windowShiftsWrong : ChangeSpec := { name := "windowShifts", fn := fun _ => fun
  | [d1, d2, d3] => { results := [.lit (.bool false)], args := [d1, d2, d3] }
  | _ => none }
def WindowShiftsWrongFalsely : Prop := windowShiftsRow.holds Try.pinned (OpenSpec.ofChange windowShiftsWrong)

/-- 'bywashlaw12.WindowPlays': WHATEVER THE INPUT: true; the input reads as it did. -/
def windowPlaysSpec : ChangeSpec := { name := "windowPlays", fn := fun _ => fun
  | [d1, d2] => { results := [.lit (.bool true)], args := [d1, d2] }
  | _ => none }
def windowPlaysRow : OpenClaim := { program := "ytodimdhhmifdfaa", sum := "9357b187af4c62ce0776483175a3fe55fc527960c2a18afc8ed23cfb7279e530", func := "bywash/bywashlaw12.WindowPlays", spec := "windowPlays", apart := false }
def WindowPlaysSaid : Prop := windowPlaysRow.holds Try.pinned (OpenSpec.ofChange windowPlaysSpec)

/-- ITS FALSE NEIGHBOUR: 'it returns false'. Refute it at one input. -/
def windowPlaysWrong : ChangeSpec := { name := "windowPlays", fn := fun _ => fun
  | [d1, d2] => { results := [.lit (.bool false)], args := [d1, d2] }
  | _ => none }
def WindowPlaysWrongFalsely : Prop := windowPlaysRow.holds Try.pinned (OpenSpec.ofChange windowPlaysWrong)

/- THE SECOND FORM. 'bulk': how many values and letters a reading holds, each counted each time it is reached (what is shared counts as often as it is met; a slice's spare places count too). A statement '..UptoSaid' is the law's where the arguments, and the package variables that the reading takes, are together of bulk at most 1048576: NARROWER than '..Said'. Prove '..Said' where nothing that the law and all that it calls make is longer than what came in: it says more and counts as full. Else prove '..UptoSaid'. A law counts once. -/
mutual
def uptoBulk {H : Type} : DataW H → Nat
  | .lit (.string bytes) => bytes.length + 1
  | .lit _ => 1
  | .nil => 1
  | .ptr d => uptoBulk d + 1
  | .slice elems spare => uptoBulkAll elems + uptoBulkAll spare + 1
  | .agg parts => uptoBulkAll parts + 1
  | .iface _ d => uptoBulk d + 1
  | .map entries => uptoBulkEntries entries + 1
  | .held _ => 1
def uptoBulkAll {H : Type} : List (DataW H) → Nat
  | [] => 0
  | d :: r => uptoBulk d + uptoBulkAll r
def uptoBulkEntries {H : Type} : List (Lit × DataW H) → Nat
  | [] => 0
  | x :: r => uptoBulkEntry x + uptoBulkEntries r
def uptoBulkEntry {H : Type} : Lit × DataW H → Nat
  | (.string bytes, d) => bytes.length + uptoBulk d + 1
  | (_, d) => uptoBulk d + 1
 end
def uptoSmall : (H : Type) → List (DataW H) → Bool := fun _ ds => decide (uptoBulkAll ds ≤ 1048576)
def OpenSpec.upto (s : _root_.Go.ChangeSpec) : _root_.Go.OpenSpec := { _root_.Go.OpenSpec.ofChange s with cond := some uptoSmall }

/-- 'bywashlaw12.WindowEven', WHERE WHAT IT READS IS OF BULK AT MOST 1048576: true; the input reads as it did. -/
def windowEvenUptoRow : OpenClaim := { program := "ytodimdhhmifdfaa", sum := "9357b187af4c62ce0776483175a3fe55fc527960c2a18afc8ed23cfb7279e530", func := "bywash/bywashlaw12.WindowEven", spec := "windowEven", apart := false, narrowed := true }
def WindowEvenUptoSaid : Prop := windowEvenUptoRow.holds Try.pinned (OpenSpec.upto windowEvenSpec)

/-- 'bywashlaw12.WindowHalf', WHERE WHAT IT READS IS OF BULK AT MOST 1048576: true; the input reads as it did. -/
def windowHalfUptoRow : OpenClaim := { program := "ytodimdhhmifdfaa", sum := "9357b187af4c62ce0776483175a3fe55fc527960c2a18afc8ed23cfb7279e530", func := "bywash/bywashlaw12.WindowHalf", spec := "windowHalf", apart := false, narrowed := true }
def WindowHalfUptoSaid : Prop := windowHalfUptoRow.holds Try.pinned (OpenSpec.upto windowHalfSpec)

/-- 'bywashlaw12.WindowTaken', WHERE WHAT IT READS IS OF BULK AT MOST 1048576: true; the input reads as it did. -/
def windowTakenUptoRow : OpenClaim := { program := "ytodimdhhmifdfaa", sum := "9357b187af4c62ce0776483175a3fe55fc527960c2a18afc8ed23cfb7279e530", func := "bywash/bywashlaw12.WindowTaken", spec := "windowTaken", apart := false, narrowed := true }
def WindowTakenUptoSaid : Prop := windowTakenUptoRow.holds Try.pinned (OpenSpec.upto windowTakenSpec)

/-- 'bywashlaw12.WindowGrows', WHERE WHAT IT READS IS OF BULK AT MOST 1048576: true; the input reads as it did. -/
def windowGrowsUptoRow : OpenClaim := { program := "ytodimdhhmifdfaa", sum := "9357b187af4c62ce0776483175a3fe55fc527960c2a18afc8ed23cfb7279e530", func := "bywash/bywashlaw12.WindowGrows", spec := "windowGrows", apart := false, narrowed := true }
def WindowGrowsUptoSaid : Prop := windowGrowsUptoRow.holds Try.pinned (OpenSpec.upto windowGrowsSpec)

/-- 'bywashlaw12.WindowShifts', WHERE WHAT IT READS IS OF BULK AT MOST 1048576: true; the input reads as it did. -/
def windowShiftsUptoRow : OpenClaim := { program := "ytodimdhhmifdfaa", sum := "9357b187af4c62ce0776483175a3fe55fc527960c2a18afc8ed23cfb7279e530", func := "bywash/bywashlaw12.WindowShifts", spec := "windowShifts", apart := false, narrowed := true }
def WindowShiftsUptoSaid : Prop := windowShiftsUptoRow.holds Try.pinned (OpenSpec.upto windowShiftsSpec)

/-- 'bywashlaw12.WindowPlays', WHERE WHAT IT READS IS OF BULK AT MOST 1048576: true; the input reads as it did. -/
def windowPlaysUptoRow : OpenClaim := { program := "ytodimdhhmifdfaa", sum := "9357b187af4c62ce0776483175a3fe55fc527960c2a18afc8ed23cfb7279e530", func := "bywash/bywashlaw12.WindowPlays", spec := "windowPlays", apart := false, narrowed := true }
def WindowPlaysUptoSaid : Prop := windowPlaysUptoRow.holds Try.pinned (OpenSpec.upto windowPlaysSpec)

end Rows
end Go.Proofs.Ytodimdhhmifdfaa
