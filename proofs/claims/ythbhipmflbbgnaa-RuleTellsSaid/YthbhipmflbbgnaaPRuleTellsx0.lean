-- Written by a program of this session (the kit's printer, turned): the functions that the law reaches.
import Derived.Test.YthbhipmflbbgnaaProg
import Derived.Below
import Derived.Deep.Draws
import Derived.Deep.AppendLies
import Derived.Maps.AppendAt
import Derived.OwnWalk
import Derived.Laws.BytesArg
import Derived.Laws.MakeOwn
import Derived.Laws.OwnMore
import Derived.Deep.OwnRows
import Derived.Tactics
import Derived.Lib.ConvBytes
import Derived.Laws.Slices
import Derived.WalkKit
import Derived.KernelRfl
import Derived.RowKit3
import Derived.Deep.LoopGhost
import Derived.Deep.QuietTactic
import Derived.BigQuiet
import Derived.WideLaws
import Derived.Deep.DeepCutAuto
import Derived.Deep.CutBlock
import Derived.Deep.RegionHeld3
import Derived.Laws.Rows
import Derived.Lib.AppendStr
import Derived.ArgAppend
import Derived.Laws.IdiomCopy
import Derived.OrdersHeld
import Derived.Laws.BitsLemmas
import Derived.RowKit
import Derived.Test.YthbhipmflbbgnaaWWords
import Derived.Test.YthbhipmflbbgnaaWLast
import Derived.Test.YthbhipmflbbgnaaWTab
import Derived.Test.YthbhipmflbbgnaaWFour
import Derived.Test.YthbhipmflbbgnaaWQPut
import Derived.Test.YthbhipmflbbgnaaWApart
import Derived.Test.YthbhipmflbbgnaaWArr
import Derived.Test.YthbhipmflbbgnaaWZeros
import Derived.Test.YthbhipmflbbgnaaWFoot
import Derived.Test.YthbhipmflbbgnaaWKept
import Derived.Test.YthbhipmflbbgnaaWShare
import Derived.Test.YthbhipmflbbgnaaWN
import Derived.Test.YthbhipmflbbgnaaWFootNe
import Derived.Test.YthbhipmflbbgnaaWAt
import Derived.Test.YthbhipmflbbgnaaWEqStruct
import Derived.Test.YthbhipmflbbgnaaWRepsOne
import Derived.Test.YthbhipmflbbgnaaWInv
import Derived.Test.YthbhipmflbbgnaaWInvWords
import Derived.Test.YthbhipmflbbgnaaWGuard
import Derived.Test.YthbhipmflbbgnaaWNEv
import Derived.Test.YthbhipmflbbgnaaWMore
namespace Go.Proofs.Ythbhipmflbbgnaa.PRuleTells
open Go.RowKit Go.Proofs.YthbhipmflbbgnaaW.PrintWords Go.Proofs.YthbhipmflbbgnaaW.PrintLast Go.Proofs.YthbhipmflbbgnaaW.PrintMore
attribute [local go_sem] max2_int min2_int max_two min_two max_three min_three max_four min_four   -- for this text's walks alone
set_option linter.unusedVariables false
set_option linter.unusedSimpArgs false



def errW : Option Int → Value
  | none => .nilIface
  | some c => .iface 0 (.int .i64 c)
theorem errW_none : errW none = .nilIface := rfl
theorem errW_some (c : Int) : errW (some c) = .iface 0 (.int .i64 c) := rfl

-- the values' own types

end Go.Proofs.Ythbhipmflbbgnaa.PRuleTells
