-- Written by a program of this session (the kit's printer, turned): the functions that the law reaches.
import Derived.Test.YtjfcckhcmgbjjaaProg
import Derived.Below
import Derived.Deep.Draws
import Derived.Deep.AppendLies
import Derived.Maps.AppendAt
import Derived.OwnWalk
import Derived.Laws.BytesArg
import Derived.Laws.MakeOwn
import Derived.Laws.OwnMore
import Derived.Deep.OwnRows
import Derived.Tactics
import Derived.Lib.ConvBytes
import Derived.Laws.Slices
import Derived.WalkKit
import Derived.KernelRfl
import Derived.RowKit3
import Derived.Deep.LoopGhost
import Derived.Deep.QuietTactic
import Derived.BigQuiet
import Derived.WideLaws
import Derived.Deep.DeepCutAuto
import Derived.Deep.CutBlock
import Derived.Deep.RegionHeld3
import Derived.Laws.Rows
import Derived.Lib.AppendStr
import Derived.ArgAppend
import Derived.Laws.IdiomCopy
import Derived.OrdersHeld
import Derived.Laws.BitsLemmas
import Derived.RowKit
import Derived.Test.YtjfcckhcmgbjjaaWWords
import Derived.Test.YtjfcckhcmgbjjaaWLast
import Derived.Test.YtjfcckhcmgbjjaaWTab
import Derived.Test.YtjfcckhcmgbjjaaWFour
import Derived.Test.YtjfcckhcmgbjjaaWQPut
import Derived.Test.YtjfcckhcmgbjjaaWApart
import Derived.Test.YtjfcckhcmgbjjaaWArr
import Derived.Test.YtjfcckhcmgbjjaaWZeros
import Derived.Test.YtjfcckhcmgbjjaaWFoot
import Derived.Test.YtjfcckhcmgbjjaaWKept
import Derived.Test.YtjfcckhcmgbjjaaWShare
import Derived.Test.YtjfcckhcmgbjjaaWN
import Derived.Test.YtjfcckhcmgbjjaaWFootNe
import Derived.Test.YtjfcckhcmgbjjaaWAt
import Derived.Test.YtjfcckhcmgbjjaaWEqStruct
import Derived.Test.YtjfcckhcmgbjjaaWRepsOne
import Derived.Test.YtjfcckhcmgbjjaaWInv
import Derived.Test.YtjfcckhcmgbjjaaWInvWords
import Derived.Test.YtjfcckhcmgbjjaaWGuard
import Derived.Test.YtjfcckhcmgbjjaaWNEv
import Derived.Test.YtjfcckhcmgbjjaaWMore
namespace Go.Proofs.Ytjfcckhcmgbjjaa.PIdsOdd
open Go.RowKit Go.Proofs.YtjfcckhcmgbjjaaW.PrintWords Go.Proofs.YtjfcckhcmgbjjaaW.PrintLast Go.Proofs.YtjfcckhcmgbjjaaW.PrintMore
attribute [local go_sem] max2_int min2_int max_two min_two max_three min_three max_four min_four   -- for this text's walks alone
set_option linter.unusedVariables false
set_option linter.unusedSimpArgs false



def errW : Option Int → Value
  | none => .nilIface
  | some c => .iface 0 (.int .i64 c)
theorem errW_none : errW none = .nilIface := rfl
theorem errW_some (c : Int) : errW (some c) = .iface 0 (.int .i64 c) := rfl

-- the values' own types

end Go.Proofs.Ytjfcckhcmgbjjaa.PIdsOdd
