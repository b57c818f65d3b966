-- Written by a program of this session (the kit's printer, turned): the functions that the law reaches.
import Derived.Test.YtehccigpbchbcaaProg
import Derived.Below
import Derived.Deep.Draws
import Derived.Deep.AppendLies
import Derived.Maps.AppendAt
import Derived.OwnWalk
import Derived.Laws.BytesArg
import Derived.Laws.MakeOwn
import Derived.Laws.OwnMore
import Derived.Deep.OwnRows
import Derived.Tactics
import Derived.Lib.ConvBytes
import Derived.Laws.Slices
import Derived.WalkKit
import Derived.KernelRfl
import Derived.RowKit3
import Derived.Deep.LoopGhost
import Derived.Deep.QuietTactic
import Derived.BigQuiet
import Derived.WideLaws
import Derived.Deep.DeepCutAuto
import Derived.Deep.CutBlock
import Derived.Deep.RegionHeld3
import Derived.Laws.Rows
import Derived.Lib.AppendStr
import Derived.ArgAppend
import Derived.Laws.IdiomCopy
import Derived.OrdersHeld
import Derived.Laws.BitsLemmas
import Derived.RowKit
import Derived.Test.YtehccigpbchbcaaWWords
import Derived.Test.YtehccigpbchbcaaWLast
import Derived.Test.YtehccigpbchbcaaWTab
import Derived.Test.YtehccigpbchbcaaWFour
import Derived.Test.YtehccigpbchbcaaWQPut
import Derived.Test.YtehccigpbchbcaaWApart
import Derived.Test.YtehccigpbchbcaaWArr
import Derived.Test.YtehccigpbchbcaaWZeros
import Derived.Test.YtehccigpbchbcaaWFoot
import Derived.Test.YtehccigpbchbcaaWKept
import Derived.Test.YtehccigpbchbcaaWShare
import Derived.Test.YtehccigpbchbcaaWN
import Derived.Test.YtehccigpbchbcaaWFootNe
import Derived.Test.YtehccigpbchbcaaWAt
import Derived.Test.YtehccigpbchbcaaWEqStruct
import Derived.Test.YtehccigpbchbcaaWRepsOne
import Derived.Test.YtehccigpbchbcaaWInv
import Derived.Test.YtehccigpbchbcaaWInvWords
import Derived.Test.YtehccigpbchbcaaWGuard
import Derived.Test.YtehccigpbchbcaaWNEv
import Derived.Test.YtehccigpbchbcaaWMore
namespace Go.Proofs.Ytehccigpbchbcaa.PFrameTells
open Go.RowKit Go.Proofs.YtehccigpbchbcaaW.PrintWords Go.Proofs.YtehccigpbchbcaaW.PrintLast Go.Proofs.YtehccigpbchbcaaW.PrintMore
attribute [local go_sem] max2_int min2_int max_two min_two max_three min_three max_four min_four   -- for this text's walks alone
set_option linter.unusedVariables false
set_option linter.unusedSimpArgs false



def errW : Option Int → Value
  | none => .nilIface
  | some c => .iface 0 (.int .i64 c)
theorem errW_none : errW none = .nilIface := rfl
theorem errW_some (c : Int) : errW (some c) = .iface 0 (.int .i64 c) := rfl

theorem info5 : (Try.prog.info? 5).map (fun i => (i.zero, i.size, i.bytes)) = some (some (.int .u8 0), 1, 1) := by kernel_rfl
theorem info9 : (Try.prog.info? 9).map (fun i => (i.zero, i.size, i.bytes)) = some (some (.string ⟨#[]⟩), 1, 16) := by kernel_rfl
-- the values' own types

end Go.Proofs.Ytehccigpbchbcaa.PFrameTells
