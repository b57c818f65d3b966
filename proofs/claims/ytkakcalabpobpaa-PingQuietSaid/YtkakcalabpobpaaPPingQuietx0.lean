-- Written by a program of this session (the kit's printer, turned): the functions that the law reaches.
import Derived.Test.YtkakcalabpobpaaProg
import Derived.Below
import Derived.Deep.Draws
import Derived.Deep.AppendLies
import Derived.Maps.AppendAt
import Derived.OwnWalk
import Derived.Laws.BytesArg
import Derived.Laws.MakeOwn
import Derived.Laws.OwnMore
import Derived.Deep.OwnRows
import Derived.Tactics
import Derived.Lib.ConvBytes
import Derived.Laws.Slices
import Derived.WalkKit
import Derived.KernelRfl
import Derived.RowKit3
import Derived.Deep.LoopGhost
import Derived.Deep.QuietTactic
import Derived.BigQuiet
import Derived.WideLaws
import Derived.Deep.DeepCutAuto
import Derived.Deep.CutBlock
import Derived.Deep.RegionHeld3
import Derived.Laws.Rows
import Derived.Lib.AppendStr
import Derived.ArgAppend
import Derived.Laws.IdiomCopy
import Derived.OrdersHeld
import Derived.Laws.BitsLemmas
import Derived.RowKit
import Derived.Test.YtkakcalabpobpaaWWords
import Derived.Test.YtkakcalabpobpaaWLast
import Derived.Test.YtkakcalabpobpaaWTab
import Derived.Test.YtkakcalabpobpaaWFour
import Derived.Test.YtkakcalabpobpaaWQPut
import Derived.Test.YtkakcalabpobpaaWApart
import Derived.Test.YtkakcalabpobpaaWArr
import Derived.Test.YtkakcalabpobpaaWZeros
import Derived.Test.YtkakcalabpobpaaWFoot
import Derived.Test.YtkakcalabpobpaaWKept
import Derived.Test.YtkakcalabpobpaaWShare
import Derived.Test.YtkakcalabpobpaaWN
import Derived.Test.YtkakcalabpobpaaWFootNe
import Derived.Test.YtkakcalabpobpaaWAt
import Derived.Test.YtkakcalabpobpaaWEqStruct
import Derived.Test.YtkakcalabpobpaaWRepsOne
import Derived.Test.YtkakcalabpobpaaWInv
import Derived.Test.YtkakcalabpobpaaWInvWords
import Derived.Test.YtkakcalabpobpaaWGuard
import Derived.Test.YtkakcalabpobpaaWNEv
import Derived.Test.YtkakcalabpobpaaWMore
namespace Go.Proofs.Ytkakcalabpobpaa.PPingQuiet
open Go.RowKit Go.Proofs.YtkakcalabpobpaaW.PrintWords Go.Proofs.YtkakcalabpobpaaW.PrintLast Go.Proofs.YtkakcalabpobpaaW.PrintMore
attribute [local go_sem] max2_int min2_int max_two min_two max_three min_three max_four min_four   -- for this text's walks alone
set_option linter.unusedVariables false
set_option linter.unusedSimpArgs false



def errW : Option Int → Value
  | none => .nilIface
  | some c => .iface 0 (.int .i64 c)
theorem errW_none : errW none = .nilIface := rfl
theorem errW_some (c : Int) : errW (some c) = .iface 0 (.int .i64 c) := rfl

theorem info5 : (Try.prog.info? 5).map (fun i => (i.zero, i.size, i.bytes)) = some (some (.int .u8 0), 1, 1) := by kernel_rfl
-- the values' own types

end Go.Proofs.Ytkakcalabpobpaa.PPingQuiet
