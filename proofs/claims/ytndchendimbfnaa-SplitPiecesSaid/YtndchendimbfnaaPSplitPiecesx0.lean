-- Written by a program of this session (the kit's printer, turned): the functions that the law reaches.
import Derived.Test.YtndchendimbfnaaProg
import Derived.Below
import Derived.Deep.Draws
import Derived.Deep.AppendLies
import Derived.Maps.AppendAt
import Derived.OwnWalk
import Derived.Laws.BytesArg
import Derived.Laws.MakeOwn
import Derived.Laws.OwnMore
import Derived.Deep.OwnRows
import Derived.Tactics
import Derived.Lib.ConvBytes
import Derived.Laws.Slices
import Derived.WalkKit
import Derived.KernelRfl
import Derived.RowKit3
import Derived.Deep.LoopGhost
import Derived.Deep.QuietTactic
import Derived.BigQuiet
import Derived.WideLaws
import Derived.Deep.DeepCutAuto
import Derived.Deep.CutBlock
import Derived.Deep.RegionHeld3
import Derived.Laws.Rows
import Derived.Lib.AppendStr
import Derived.ArgAppend
import Derived.Laws.IdiomCopy
import Derived.OrdersHeld
import Derived.Laws.BitsLemmas
import Derived.RowKit
import Derived.Test.YtndchendimbfnaaWWords
import Derived.Test.YtndchendimbfnaaWLast
import Derived.Test.YtndchendimbfnaaWTab
import Derived.Test.YtndchendimbfnaaWFour
import Derived.Test.YtndchendimbfnaaWQPut
import Derived.Test.YtndchendimbfnaaWApart
import Derived.Test.YtndchendimbfnaaWArr
import Derived.Test.YtndchendimbfnaaWZeros
import Derived.Test.YtndchendimbfnaaWFoot
import Derived.Test.YtndchendimbfnaaWKept
import Derived.Test.YtndchendimbfnaaWShare
import Derived.Test.YtndchendimbfnaaWN
import Derived.Test.YtndchendimbfnaaWFootNe
import Derived.Test.YtndchendimbfnaaWAt
import Derived.Test.YtndchendimbfnaaWEqStruct
import Derived.Test.YtndchendimbfnaaWRepsOne
import Derived.Test.YtndchendimbfnaaWInv
import Derived.Test.YtndchendimbfnaaWInvWords
import Derived.Test.YtndchendimbfnaaWGuard
import Derived.Test.YtndchendimbfnaaWNEv
import Derived.Test.YtndchendimbfnaaWMore
namespace Go.Proofs.Ytndchendimbfnaa.PSplitPieces
open Go.RowKit Go.Proofs.YtndchendimbfnaaW.PrintWords Go.Proofs.YtndchendimbfnaaW.PrintLast Go.Proofs.YtndchendimbfnaaW.PrintMore
attribute [local go_sem] max2_int min2_int max_two min_two max_three min_three max_four min_four   -- for this text's walks alone
set_option linter.unusedVariables false
set_option linter.unusedSimpArgs false



def errW : Option Int → Value
  | none => .nilIface
  | some c => .iface 0 (.int .i64 c)
theorem errW_none : errW none = .nilIface := rfl
theorem errW_some (c : Int) : errW (some c) = .iface 0 (.int .i64 c) := rfl

theorem info5 : (Try.prog.info? 5).map (fun i => (i.zero, i.size, i.bytes)) = some (some (.int .u8 0), 1, 1) := by kernel_rfl
-- the values' own types

end Go.Proofs.Ytndchendimbfnaa.PSplitPieces
