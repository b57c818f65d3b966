/-
  No cell of these rows narrows 'for every input' (looked for: loops, veiled, ifaces, maps, wideKeys, modest, calm, conditions, laid).
  DERIVED. THE GIVEN ROWS OF THIS SEAT. 6 by the template 'for every input the law returns true; each argument reads behind the call as it read before'; 0 by the template 'total and deterministic' (their statements: YthbhipmflbbgnaaTotals.lean).
  GIVEN WITH THE SEED: the statements are not yours to turn. If you find one false, say at which input.
  Laid BY PROGRAM, IN A SANDBOX (cutbox-rows.mjs): the forced cells as the released guide's own fill.sh prints them over the translation 2d3fb795600d3987… (all of the seat's roots in one cut). By AI agents, Wed Nov 11 2026. No macro, syntax, notation, axiom, sorry.
-/
import Derived.Test.YthbhipmflbbgnaaChecked
import GoSem.Claim
import GoSem.ClaimJoined
import GoSem.ClaimMapViews
import Derived.JoinedTies
import Derived.KernelRfl
namespace Go.Proofs.Ythbhipmflbbgnaa
/- THE CELL 'sum', in the pinned program and in every row, IS THE sha256 OF THE DUMP (.gsa) THAT YthbhipmflbbgnaaProg.lean LOADS. Nothing in Lean hashes anything: it is a label: what it is worth is what the hold of that sum in a sandbox is worth. -/
noncomputable def Try.pinned : Pinned := { name := "ythbhipmflbbgnaa", sum := "2d3fb795600d398729ec4bea22b898e347a5e57a7b47c13f391de8e609f82238", checked := Try.checked }
namespace Rows
def none {H : Type} : Left H := { results := [], args := [] }

/-- 'bywashlaw9.RuleTells': WHATEVER THE INPUT: true; the input reads as it did. -/
def ruleTellsSpec : ChangeSpec := { name := "ruleTells", fn := fun _ => fun
  | [d1, d2, d3] => { results := [.lit (.bool true)], args := [d1, d2, d3] }
  | _ => none }
def ruleTellsRow : OpenClaim := { program := "ythbhipmflbbgnaa", sum := "2d3fb795600d398729ec4bea22b898e347a5e57a7b47c13f391de8e609f82238", func := "bywash/bywashlaw9.RuleTells", spec := "ruleTells", apart := false }
def RuleTellsSaid : Prop := ruleTellsRow.holds Try.pinned (OpenSpec.ofChange ruleTellsSpec)

/-- ITS FALSE NEIGHBOUR: 'it returns false'. Refute it at one input. -/
def ruleTellsWrong : ChangeSpec := { name := "ruleTells", fn := fun _ => fun
  | [d1, d2, d3] => { results := [.lit (.bool false)], args := [d1, d2, d3] }
  | _ => none }
def RuleTellsWrongFalsely : Prop := ruleTellsRow.holds Try.pinned (OpenSpec.ofChange ruleTellsWrong)

/-- 'bywashlaw9.RuleZero': WHATEVER THE INPUT: true; the input reads as it did. -/
def ruleZeroSpec : ChangeSpec := { name := "ruleZero", fn := fun _ => fun
  | [d1, d2] => { results := [.lit (.bool true)], args := [d1, d2] }
  | _ => none }
def ruleZeroRow : OpenClaim := { program := "ythbhipmflbbgnaa", sum := "2d3fb795600d398729ec4bea22b898e347a5e57a7b47c13f391de8e609f82238", func := "bywash/bywashlaw9.RuleZero", spec := "ruleZero", apart := false }
def RuleZeroSaid : Prop := ruleZeroRow.holds Try.pinned (OpenSpec.ofChange ruleZeroSpec)

/-- ITS FALSE NEIGHBOUR: 'it returns false'. Refute it at one input. -/
def ruleZeroWrong : ChangeSpec := { name := "ruleZero", fn := fun _ => fun
  | [d1, d2] => { results := [.lit (.bool false)], args := [d1, d2] }
  | _ => none }
def RuleZeroWrongFalsely : Prop := ruleZeroRow.holds Try.pinned (OpenSpec.ofChange ruleZeroWrong)

/-- 'bywashlaw9.RuleSizes': WHATEVER THE INPUT: true; the input reads as it did. -/
def ruleSizesSpec : ChangeSpec := { name := "ruleSizes", fn := fun _ => fun
  | [d1, d2, d3] => { results := [.lit (.bool true)], args := [d1, d2, d3] }
  | _ => none }
def ruleSizesRow : OpenClaim := { program := "ythbhipmflbbgnaa", sum := "2d3fb795600d398729ec4bea22b898e347a5e57a7b47c13f391de8e609f82238", func := "bywash/bywashlaw9.RuleSizes", spec := "ruleSizes", apart := false }
def RuleSizesSaid : Prop := ruleSizesRow.holds Try.pinned (OpenSpec.ofChange ruleSizesSpec)

/-- ITS FALSE NEIGHBOUR: 'it returns false'. Refute it at one input. -/
def ruleSizesWrong : ChangeSpec := { name := "ruleSizes", fn := fun _ => fun
  | [d1, d2, d3] => { results := [.lit (.bool false)], args := [d1, d2, d3] }
  | _ => none }
def RuleSizesWrongFalsely : Prop := ruleSizesRow.holds Try.pinned (OpenSpec.ofChange ruleSizesWrong)

/-- 'bywashlaw9.RuleUnknown': WHATEVER THE INPUT: true; the input reads as it did. -/
def ruleUnknownSpec : ChangeSpec := { name := "ruleUnknown", fn := fun _ => fun
  | [d1, d2, d3, d4] => { results := [.lit (.bool true)], args := [d1, d2, d3, d4] }
  | _ => none }
def ruleUnknownRow : OpenClaim := { program := "ythbhipmflbbgnaa", sum := "2d3fb795600d398729ec4bea22b898e347a5e57a7b47c13f391de8e609f82238", func := "bywash/bywashlaw9.RuleUnknown", spec := "ruleUnknown", apart := false }
def RuleUnknownSaid : Prop := ruleUnknownRow.holds Try.pinned (OpenSpec.ofChange ruleUnknownSpec)

/-- ITS FALSE NEIGHBOUR: 'it returns false'. Refute it at one input. -/
def ruleUnknownWrong : ChangeSpec := { name := "ruleUnknown", fn := fun _ => fun
  | [d1, d2, d3, d4] => { results := [.lit (.bool false)], args := [d1, d2, d3, d4] }
  | _ => none }
def RuleUnknownWrongFalsely : Prop := ruleUnknownRow.holds Try.pinned (OpenSpec.ofChange ruleUnknownWrong)

/-- 'bywashlaw9.RuleCodes': WHATEVER THE INPUT: true; the input reads as it did. -/
def ruleCodesSpec : ChangeSpec := { name := "ruleCodes", fn := fun _ => fun
  | [d] => { results := [.lit (.bool true)], args := [d] }
  | _ => none }
def ruleCodesRow : OpenClaim := { program := "ythbhipmflbbgnaa", sum := "2d3fb795600d398729ec4bea22b898e347a5e57a7b47c13f391de8e609f82238", func := "bywash/bywashlaw9.RuleCodes", spec := "ruleCodes", apart := false }
def RuleCodesSaid : Prop := ruleCodesRow.holds Try.pinned (OpenSpec.ofChange ruleCodesSpec)

/-- ITS FALSE NEIGHBOUR: 'it returns false'. Refute it at one input. -/
def ruleCodesWrong : ChangeSpec := { name := "ruleCodes", fn := fun _ => fun
  | [d] => { results := [.lit (.bool false)], args := [d] }
  | _ => none }
def RuleCodesWrongFalsely : Prop := ruleCodesRow.holds Try.pinned (OpenSpec.ofChange ruleCodesWrong)

/-- 'bywashlaw9.RulePads': WHATEVER THE INPUT: true; the input reads as it did. -/
def rulePadsSpec : ChangeSpec := { name := "rulePads", fn := fun _ => fun
  | [d1, d2] => { results := [.lit (.bool true)], args := [d1, d2] }
  | _ => none }
def rulePadsRow : OpenClaim := { program := "ythbhipmflbbgnaa", sum := "2d3fb795600d398729ec4bea22b898e347a5e57a7b47c13f391de8e609f82238", func := "bywash/bywashlaw9.RulePads", spec := "rulePads", apart := false }
def RulePadsSaid : Prop := rulePadsRow.holds Try.pinned (OpenSpec.ofChange rulePadsSpec)

/-- ITS FALSE NEIGHBOUR: 'it returns false'. Refute it at one input. -/
def rulePadsWrong : ChangeSpec := { name := "rulePads", fn := fun _ => fun
  | [d1, d2] => { results := [.lit (.bool false)], args := [d1, d2] }
  | _ => none }
def RulePadsWrongFalsely : Prop := rulePadsRow.holds Try.pinned (OpenSpec.ofChange rulePadsWrong)

/- THE SECOND FORM. 'bulk': how many values and letters a reading holds, each counted each time it is reached (what is shared counts as often as it is met; a slice's spare places count too). A statement '..UptoSaid' is the law's where the arguments, and the package variables that the reading takes, are together of bulk at most 1048576: NARROWER than '..Said'. Prove '..Said' where nothing that the law and all that it calls make is longer than what came in: it says more and counts as full. Else prove '..UptoSaid'. A law counts once. -/
mutual
def uptoBulk {H : Type} : DataW H → Nat
  | .lit (.string bytes) => bytes.length + 1
  | .lit _ => 1
  | .nil => 1
  | .ptr d => uptoBulk d + 1
  | .slice elems spare => uptoBulkAll elems + uptoBulkAll spare + 1
  | .agg parts => uptoBulkAll parts + 1
  | .iface _ d => uptoBulk d + 1
  | .map entries => uptoBulkEntries entries + 1
  | .held _ => 1
def uptoBulkAll {H : Type} : List (DataW H) → Nat
  | [] => 0
  | d :: r => uptoBulk d + uptoBulkAll r
def uptoBulkEntries {H : Type} : List (Lit × DataW H) → Nat
  | [] => 0
  | x :: r => uptoBulkEntry x + uptoBulkEntries r
def uptoBulkEntry {H : Type} : Lit × DataW H → Nat
  | (.string bytes, d) => bytes.length + uptoBulk d + 1
  | (_, d) => uptoBulk d + 1
 end
def uptoSmall : (H : Type) → List (DataW H) → Bool := fun _ ds => decide (uptoBulkAll ds ≤ 1048576)
def OpenSpec.upto (s : _root_.Go.ChangeSpec) : _root_.Go.OpenSpec := { _root_.Go.OpenSpec.ofChange s with cond := some uptoSmall }

/-- 'bywashlaw9.RuleTells', WHERE WHAT IT READS IS OF BULK AT MOST 1048576: true; the input reads as it did. -/
def ruleTellsUptoRow : OpenClaim := { program := "ythbhipmflbbgnaa", sum := "2d3fb795600d398729ec4bea22b898e347a5e57a7b47c13f391de8e609f82238", func := "bywash/bywashlaw9.RuleTells", spec := "ruleTells", apart := false, narrowed := true }
def RuleTellsUptoSaid : Prop := ruleTellsUptoRow.holds Try.pinned (OpenSpec.upto ruleTellsSpec)

/-- 'bywashlaw9.RuleZero', WHERE WHAT IT READS IS OF BULK AT MOST 1048576: true; the input reads as it did. -/
def ruleZeroUptoRow : OpenClaim := { program := "ythbhipmflbbgnaa", sum := "2d3fb795600d398729ec4bea22b898e347a5e57a7b47c13f391de8e609f82238", func := "bywash/bywashlaw9.RuleZero", spec := "ruleZero", apart := false, narrowed := true }
def RuleZeroUptoSaid : Prop := ruleZeroUptoRow.holds Try.pinned (OpenSpec.upto ruleZeroSpec)

/-- 'bywashlaw9.RuleSizes', WHERE WHAT IT READS IS OF BULK AT MOST 1048576: true; the input reads as it did. -/
def ruleSizesUptoRow : OpenClaim := { program := "ythbhipmflbbgnaa", sum := "2d3fb795600d398729ec4bea22b898e347a5e57a7b47c13f391de8e609f82238", func := "bywash/bywashlaw9.RuleSizes", spec := "ruleSizes", apart := false, narrowed := true }
def RuleSizesUptoSaid : Prop := ruleSizesUptoRow.holds Try.pinned (OpenSpec.upto ruleSizesSpec)

/-- 'bywashlaw9.RuleUnknown', WHERE WHAT IT READS IS OF BULK AT MOST 1048576: true; the input reads as it did. -/
def ruleUnknownUptoRow : OpenClaim := { program := "ythbhipmflbbgnaa", sum := "2d3fb795600d398729ec4bea22b898e347a5e57a7b47c13f391de8e609f82238", func := "bywash/bywashlaw9.RuleUnknown", spec := "ruleUnknown", apart := false, narrowed := true }
def RuleUnknownUptoSaid : Prop := ruleUnknownUptoRow.holds Try.pinned (OpenSpec.upto ruleUnknownSpec)

/-- 'bywashlaw9.RuleCodes', WHERE WHAT IT READS IS OF BULK AT MOST 1048576: true; the input reads as it did. -/
def ruleCodesUptoRow : OpenClaim := { program := "ythbhipmflbbgnaa", sum := "2d3fb795600d398729ec4bea22b898e347a5e57a7b47c13f391de8e609f82238", func := "bywash/bywashlaw9.RuleCodes", spec := "ruleCodes", apart := false, narrowed := true }
def RuleCodesUptoSaid : Prop := ruleCodesUptoRow.holds Try.pinned (OpenSpec.upto ruleCodesSpec)

/-- 'bywashlaw9.RulePads', WHERE WHAT IT READS IS OF BULK AT MOST 1048576: true; the input reads as it did. -/
def rulePadsUptoRow : OpenClaim := { program := "ythbhipmflbbgnaa", sum := "2d3fb795600d398729ec4bea22b898e347a5e57a7b47c13f391de8e609f82238", func := "bywash/bywashlaw9.RulePads", spec := "rulePads", apart := false, narrowed := true }
def RulePadsUptoSaid : Prop := rulePadsUptoRow.holds Try.pinned (OpenSpec.upto rulePadsSpec)

end Rows
end Go.Proofs.Ythbhipmflbbgnaa
