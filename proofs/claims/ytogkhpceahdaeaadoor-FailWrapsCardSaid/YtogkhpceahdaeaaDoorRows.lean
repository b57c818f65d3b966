/-
  NARROWER THAN 'FOR EVERY INPUT', by the rows' own cells (each row's printed sentence says how): FailNames: laid · FailTells: laid · FailUnwraps: laid · FailWraps: laid · FailJoined: laid.
  DERIVED. THE GIVEN ROWS OF THIS SEAT. 5 by the template 'for every input the law returns true; each argument reads behind the call as it read before'; 0 by the template 'total and deterministic' (their statements: YtogkhpceahdaeaaDoorTotals.lean).
  GIVEN WITH THE SEED: the statements are not yours to turn. If you find one false, say at which input.
  Laid BY PROGRAM, IN A SANDBOX (cutbox-rows.mjs): the forced cells as the released guide's own fill.sh prints them over the translation 7c44e5cd09e97b6c… (all of the seat's roots in one cut). By AI agents, Wed Nov 11 2026. No macro, syntax, notation, axiom, sorry.
-/
import Derived.Test.YtogkhpceahdaeaaDoorChecked
import GoSem.Claim
import GoSem.ClaimJoined
import GoSem.ClaimMapViews
import Derived.JoinedTies
import Derived.KernelRfl
namespace Go.Proofs.YtogkhpceahdaeaaDoor
/- THE CELL 'sum', in the pinned program and in every row, IS THE sha256 OF THE DUMP (.gsa) THAT YtogkhpceahdaeaaDoorProg.lean LOADS. Nothing in Lean hashes anything: it is a label: what it is worth is what the hold of that sum in a sandbox is worth. -/
noncomputable def Tryd.pinned : Pinned := { name := "ytogkhpceahdaeaadoor", sum := "7c44e5cd09e97b6c9ae9f898cd583fb6677dc8a0e394ee9f8af3150284206e17", checked := Tryd.checked }
namespace Rows
def none {H : Type} : Left H := { results := [], args := [] }

/- WHAT THE LISTED PACKAGE-LEVEL VARIABLES READ AS WHEN THE CALL BEGINS. Each datum BY PROGRAM (the guide's laid-datum.mjs) off the statement by which the dump's own 'gosem.cut.vars' lays the variable. In a bare row this is a premise. The card (YtogkhpceahdaeaaDoorCards.lean) ties it to the program's text. -/
def laid_errors_errorType {H : Type} : DataW H := .iface "internal/reflectlite.rtype" (.agg [.ptr (.lit (.string [101, 114, 114, 111, 114]))])

/-- 'bywashlaw1.FailNames': WHATEVER THE INPUT: true; the input reads as it did. -/
def failNamesSpec : ChangeSpec := { name := "failNames", fn := fun _ => fun
  | [d1, d2] => { results := [.lit (.bool true)], args := [d1, d2] }
  | _ => none }
def failNamesRow : OpenClaim := { program := "ytogkhpceahdaeaadoor", sum := "7c44e5cd09e97b6c9ae9f898cd583fb6677dc8a0e394ee9f8af3150284206e17", func := "bywash/bywashlaw1.FailNames", spec := "failNames", inPlace := ["internal/reflectlite.ValueOf", "(internal/reflectlite.Value).Type", "(internal/reflectlite.Value).IsNil", "internal/reflectlite.TypeOf", "(internal/reflectlite.Value).Elem", "(internal/reflectlite.Value).Set"], unfollowed := true, recurses := true, named := ["errors.errorType"], apart := false, laid := [("errors.errorType", laid_errors_errorType)] }
def FailNamesSaid : Prop := failNamesRow.holds Tryd.pinned (OpenSpec.ofChange failNamesSpec)

/-- ITS FALSE NEIGHBOUR: 'it returns false'. Refute it at one input. -/
def failNamesWrong : ChangeSpec := { name := "failNames", fn := fun _ => fun
  | [d1, d2] => { results := [.lit (.bool false)], args := [d1, d2] }
  | _ => none }
def FailNamesWrongFalsely : Prop := failNamesRow.holds Tryd.pinned (OpenSpec.ofChange failNamesWrong)

/-- 'bywashlaw1.FailTells': WHATEVER THE INPUT: true; the input reads as it did. -/
def failTellsSpec : ChangeSpec := { name := "failTells", fn := fun _ => fun
  | [d1, d2, d3] => { results := [.lit (.bool true)], args := [d1, d2, d3] }
  | _ => none }
def failTellsRow : OpenClaim := { program := "ytogkhpceahdaeaadoor", sum := "7c44e5cd09e97b6c9ae9f898cd583fb6677dc8a0e394ee9f8af3150284206e17", func := "bywash/bywashlaw1.FailTells", spec := "failTells", inPlace := ["internal/reflectlite.ValueOf", "(internal/reflectlite.Value).Type", "(internal/reflectlite.Value).IsNil", "internal/reflectlite.TypeOf", "(internal/reflectlite.Value).Elem", "(internal/reflectlite.Value).Set"], unfollowed := true, recurses := true, named := ["errors.errorType"], apart := false, laid := [("errors.errorType", laid_errors_errorType)] }
def FailTellsSaid : Prop := failTellsRow.holds Tryd.pinned (OpenSpec.ofChange failTellsSpec)

/-- ITS FALSE NEIGHBOUR: 'it returns false'. Refute it at one input. -/
def failTellsWrong : ChangeSpec := { name := "failTells", fn := fun _ => fun
  | [d1, d2, d3] => { results := [.lit (.bool false)], args := [d1, d2, d3] }
  | _ => none }
def FailTellsWrongFalsely : Prop := failTellsRow.holds Tryd.pinned (OpenSpec.ofChange failTellsWrong)

/-- 'bywashlaw1.FailUnwraps': WHATEVER THE INPUT: true; the input reads as it did. -/
def failUnwrapsSpec : ChangeSpec := { name := "failUnwraps", fn := fun _ => fun
  | [d1, d2] => { results := [.lit (.bool true)], args := [d1, d2] }
  | _ => none }
def failUnwrapsRow : OpenClaim := { program := "ytogkhpceahdaeaadoor", sum := "7c44e5cd09e97b6c9ae9f898cd583fb6677dc8a0e394ee9f8af3150284206e17", func := "bywash/bywashlaw1.FailUnwraps", spec := "failUnwraps", inPlace := ["internal/reflectlite.ValueOf", "(internal/reflectlite.Value).Type", "(internal/reflectlite.Value).IsNil", "internal/reflectlite.TypeOf", "(internal/reflectlite.Value).Elem", "(internal/reflectlite.Value).Set"], unfollowed := true, recurses := true, named := ["errors.errorType"], apart := false, laid := [("errors.errorType", laid_errors_errorType)] }
def FailUnwrapsSaid : Prop := failUnwrapsRow.holds Tryd.pinned (OpenSpec.ofChange failUnwrapsSpec)

/-- ITS FALSE NEIGHBOUR: 'it returns false'. Refute it at one input. -/
def failUnwrapsWrong : ChangeSpec := { name := "failUnwraps", fn := fun _ => fun
  | [d1, d2] => { results := [.lit (.bool false)], args := [d1, d2] }
  | _ => none }
def FailUnwrapsWrongFalsely : Prop := failUnwrapsRow.holds Tryd.pinned (OpenSpec.ofChange failUnwrapsWrong)

/-- 'bywashlaw1.FailWraps': WHATEVER THE INPUT: true; the input reads as it did. -/
def failWrapsSpec : ChangeSpec := { name := "failWraps", fn := fun _ => fun
  | [d1, d2] => { results := [.lit (.bool true)], args := [d1, d2] }
  | _ => none }
def failWrapsRow : OpenClaim := { program := "ytogkhpceahdaeaadoor", sum := "7c44e5cd09e97b6c9ae9f898cd583fb6677dc8a0e394ee9f8af3150284206e17", func := "bywash/bywashlaw1.FailWraps", spec := "failWraps", inPlace := ["internal/reflectlite.ValueOf", "(internal/reflectlite.Value).Type", "(internal/reflectlite.Value).IsNil", "internal/reflectlite.TypeOf", "(internal/reflectlite.Value).Elem", "(internal/reflectlite.Value).Set"], unfollowed := true, recurses := true, named := ["errors.errorType"], apart := false, laid := [("errors.errorType", laid_errors_errorType)] }
def FailWrapsSaid : Prop := failWrapsRow.holds Tryd.pinned (OpenSpec.ofChange failWrapsSpec)

/-- ITS FALSE NEIGHBOUR: 'it returns false'. Refute it at one input. -/
def failWrapsWrong : ChangeSpec := { name := "failWraps", fn := fun _ => fun
  | [d1, d2] => { results := [.lit (.bool false)], args := [d1, d2] }
  | _ => none }
def FailWrapsWrongFalsely : Prop := failWrapsRow.holds Tryd.pinned (OpenSpec.ofChange failWrapsWrong)

/-- 'bywashlaw1.FailJoined': WHATEVER THE INPUT: true; the input reads as it did. -/
def failJoinedSpec : ChangeSpec := { name := "failJoined", fn := fun _ => fun
  | [d1, d2, d3] => { results := [.lit (.bool true)], args := [d1, d2, d3] }
  | _ => none }
def failJoinedRow : OpenClaim := { program := "ytogkhpceahdaeaadoor", sum := "7c44e5cd09e97b6c9ae9f898cd583fb6677dc8a0e394ee9f8af3150284206e17", func := "bywash/bywashlaw1.FailJoined", spec := "failJoined", inPlace := ["internal/reflectlite.ValueOf", "(internal/reflectlite.Value).Type", "(internal/reflectlite.Value).IsNil", "internal/reflectlite.TypeOf", "(internal/reflectlite.Value).Elem", "(internal/reflectlite.Value).Set"], unfollowed := true, recurses := true, named := ["errors.errorType"], apart := false, laid := [("errors.errorType", laid_errors_errorType)] }
def FailJoinedSaid : Prop := failJoinedRow.holds Tryd.pinned (OpenSpec.ofChange failJoinedSpec)

/-- ITS FALSE NEIGHBOUR: 'it returns false'. Refute it at one input. -/
def failJoinedWrong : ChangeSpec := { name := "failJoined", fn := fun _ => fun
  | [d1, d2, d3] => { results := [.lit (.bool false)], args := [d1, d2, d3] }
  | _ => none }
def FailJoinedWrongFalsely : Prop := failJoinedRow.holds Tryd.pinned (OpenSpec.ofChange failJoinedWrong)

/- THE SECOND FORM. 'bulk': how many values and letters a reading holds, each counted each time it is reached (what is shared counts as often as it is met; a slice's spare places count too). A statement '..UptoSaid' is the law's where the arguments, and the package variables that the reading takes, are together of bulk at most 1048576: NARROWER than '..Said'. Prove '..Said' where nothing that the law and all that it calls make is longer than what came in: it says more and counts as full. Else prove '..UptoSaid'. A law counts once. -/
mutual
def uptoBulk {H : Type} : DataW H → Nat
  | .lit (.string bytes) => bytes.length + 1
  | .lit _ => 1
  | .nil => 1
  | .ptr d => uptoBulk d + 1
  | .slice elems spare => uptoBulkAll elems + uptoBulkAll spare + 1
  | .agg parts => uptoBulkAll parts + 1
  | .iface _ d => uptoBulk d + 1
  | .map entries => uptoBulkEntries entries + 1
  | .held _ => 1
def uptoBulkAll {H : Type} : List (DataW H) → Nat
  | [] => 0
  | d :: r => uptoBulk d + uptoBulkAll r
def uptoBulkEntries {H : Type} : List (Lit × DataW H) → Nat
  | [] => 0
  | x :: r => uptoBulkEntry x + uptoBulkEntries r
def uptoBulkEntry {H : Type} : Lit × DataW H → Nat
  | (.string bytes, d) => bytes.length + uptoBulk d + 1
  | (_, d) => uptoBulk d + 1
 end
def uptoSmall : (H : Type) → List (DataW H) → Bool := fun _ ds => decide (uptoBulkAll ds ≤ 1048576)
def OpenSpec.upto (s : _root_.Go.ChangeSpec) : _root_.Go.OpenSpec := { _root_.Go.OpenSpec.ofChange s with cond := some uptoSmall }

/-- 'bywashlaw1.FailNames', WHERE WHAT IT READS IS OF BULK AT MOST 1048576: true; the input reads as it did. -/
def failNamesUptoRow : OpenClaim := { program := "ytogkhpceahdaeaadoor", sum := "7c44e5cd09e97b6c9ae9f898cd583fb6677dc8a0e394ee9f8af3150284206e17", func := "bywash/bywashlaw1.FailNames", spec := "failNames", inPlace := ["internal/reflectlite.ValueOf", "(internal/reflectlite.Value).Type", "(internal/reflectlite.Value).IsNil", "internal/reflectlite.TypeOf", "(internal/reflectlite.Value).Elem", "(internal/reflectlite.Value).Set"], unfollowed := true, recurses := true, named := ["errors.errorType"], apart := false, laid := [("errors.errorType", laid_errors_errorType)], narrowed := true }
def FailNamesUptoSaid : Prop := failNamesUptoRow.holds Tryd.pinned (OpenSpec.upto failNamesSpec)

/-- 'bywashlaw1.FailTells', WHERE WHAT IT READS IS OF BULK AT MOST 1048576: true; the input reads as it did. -/
def failTellsUptoRow : OpenClaim := { program := "ytogkhpceahdaeaadoor", sum := "7c44e5cd09e97b6c9ae9f898cd583fb6677dc8a0e394ee9f8af3150284206e17", func := "bywash/bywashlaw1.FailTells", spec := "failTells", inPlace := ["internal/reflectlite.ValueOf", "(internal/reflectlite.Value).Type", "(internal/reflectlite.Value).IsNil", "internal/reflectlite.TypeOf", "(internal/reflectlite.Value).Elem", "(internal/reflectlite.Value).Set"], unfollowed := true, recurses := true, named := ["errors.errorType"], apart := false, laid := [("errors.errorType", laid_errors_errorType)], narrowed := true }
def FailTellsUptoSaid : Prop := failTellsUptoRow.holds Tryd.pinned (OpenSpec.upto failTellsSpec)

/-- 'bywashlaw1.FailUnwraps', WHERE WHAT IT READS IS OF BULK AT MOST 1048576: true; the input reads as it did. -/
def failUnwrapsUptoRow : OpenClaim := { program := "ytogkhpceahdaeaadoor", sum := "7c44e5cd09e97b6c9ae9f898cd583fb6677dc8a0e394ee9f8af3150284206e17", func := "bywash/bywashlaw1.FailUnwraps", spec := "failUnwraps", inPlace := ["internal/reflectlite.ValueOf", "(internal/reflectlite.Value).Type", "(internal/reflectlite.Value).IsNil", "internal/reflectlite.TypeOf", "(internal/reflectlite.Value).Elem", "(internal/reflectlite.Value).Set"], unfollowed := true, recurses := true, named := ["errors.errorType"], apart := false, laid := [("errors.errorType", laid_errors_errorType)], narrowed := true }
def FailUnwrapsUptoSaid : Prop := failUnwrapsUptoRow.holds Tryd.pinned (OpenSpec.upto failUnwrapsSpec)

/-- 'bywashlaw1.FailWraps', WHERE WHAT IT READS IS OF BULK AT MOST 1048576: true; the input reads as it did. -/
def failWrapsUptoRow : OpenClaim := { program := "ytogkhpceahdaeaadoor", sum := "7c44e5cd09e97b6c9ae9f898cd583fb6677dc8a0e394ee9f8af3150284206e17", func := "bywash/bywashlaw1.FailWraps", spec := "failWraps", inPlace := ["internal/reflectlite.ValueOf", "(internal/reflectlite.Value).Type", "(internal/reflectlite.Value).IsNil", "internal/reflectlite.TypeOf", "(internal/reflectlite.Value).Elem", "(internal/reflectlite.Value).Set"], unfollowed := true, recurses := true, named := ["errors.errorType"], apart := false, laid := [("errors.errorType", laid_errors_errorType)], narrowed := true }
def FailWrapsUptoSaid : Prop := failWrapsUptoRow.holds Tryd.pinned (OpenSpec.upto failWrapsSpec)

/-- 'bywashlaw1.FailJoined', WHERE WHAT IT READS IS OF BULK AT MOST 1048576: true; the input reads as it did. -/
def failJoinedUptoRow : OpenClaim := { program := "ytogkhpceahdaeaadoor", sum := "7c44e5cd09e97b6c9ae9f898cd583fb6677dc8a0e394ee9f8af3150284206e17", func := "bywash/bywashlaw1.FailJoined", spec := "failJoined", inPlace := ["internal/reflectlite.ValueOf", "(internal/reflectlite.Value).Type", "(internal/reflectlite.Value).IsNil", "internal/reflectlite.TypeOf", "(internal/reflectlite.Value).Elem", "(internal/reflectlite.Value).Set"], unfollowed := true, recurses := true, named := ["errors.errorType"], apart := false, laid := [("errors.errorType", laid_errors_errorType)], narrowed := true }
def FailJoinedUptoSaid : Prop := failJoinedUptoRow.holds Tryd.pinned (OpenSpec.upto failJoinedSpec)

end Rows
end Go.Proofs.YtogkhpceahdaeaaDoor
