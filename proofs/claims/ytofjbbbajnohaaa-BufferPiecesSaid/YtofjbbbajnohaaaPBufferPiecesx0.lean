-- Written by a program of this session (the kit's printer, turned): the functions that the law reaches.
import Derived.Test.YtofjbbbajnohaaaProg
import Derived.Below
import Derived.Deep.Draws
import Derived.Deep.AppendLies
import Derived.Maps.AppendAt
import Derived.OwnWalk
import Derived.Laws.BytesArg
import Derived.Laws.MakeOwn
import Derived.Laws.OwnMore
import Derived.Deep.OwnRows
import Derived.Tactics
import Derived.Lib.ConvBytes
import Derived.Laws.Slices
import Derived.WalkKit
import Derived.KernelRfl
import Derived.RowKit3
import Derived.Deep.LoopGhost
import Derived.Deep.QuietTactic
import Derived.BigQuiet
import Derived.WideLaws
import Derived.Deep.DeepCutAuto
import Derived.Deep.CutBlock
import Derived.Deep.RegionHeld3
import Derived.Laws.Rows
import Derived.Lib.AppendStr
import Derived.ArgAppend
import Derived.Laws.IdiomCopy
import Derived.OrdersHeld
import Derived.Laws.BitsLemmas
import Derived.RowKit
import Derived.Test.YtofjbbbajnohaaaWWords
import Derived.Test.YtofjbbbajnohaaaWLast
import Derived.Test.YtofjbbbajnohaaaWTab
import Derived.Test.YtofjbbbajnohaaaWFour
import Derived.Test.YtofjbbbajnohaaaWQPut
import Derived.Test.YtofjbbbajnohaaaWApart
import Derived.Test.YtofjbbbajnohaaaWArr
import Derived.Test.YtofjbbbajnohaaaWZeros
import Derived.Test.YtofjbbbajnohaaaWFoot
import Derived.Test.YtofjbbbajnohaaaWKept
import Derived.Test.YtofjbbbajnohaaaWShare
import Derived.Test.YtofjbbbajnohaaaWN
import Derived.Test.YtofjbbbajnohaaaWFootNe
import Derived.Test.YtofjbbbajnohaaaWAt
import Derived.Test.YtofjbbbajnohaaaWEqStruct
import Derived.Test.YtofjbbbajnohaaaWRepsOne
import Derived.Test.YtofjbbbajnohaaaWInv
import Derived.Test.YtofjbbbajnohaaaWInvWords
import Derived.Test.YtofjbbbajnohaaaWGuard
import Derived.Test.YtofjbbbajnohaaaWNEv
import Derived.Test.YtofjbbbajnohaaaWMore
namespace Go.Proofs.Ytofjbbbajnohaaa.PBufferPieces
open Go.RowKit Go.Proofs.YtofjbbbajnohaaaW.PrintWords Go.Proofs.YtofjbbbajnohaaaW.PrintLast Go.Proofs.YtofjbbbajnohaaaW.PrintMore
attribute [local go_sem] max2_int min2_int max_two min_two max_three min_three max_four min_four   -- for this text's walks alone
set_option linter.unusedVariables false
set_option linter.unusedSimpArgs false



def errW : Option Int → Value
  | none => .nilIface
  | some c => .iface 0 (.int .i64 c)
theorem errW_none : errW none = .nilIface := rfl
theorem errW_some (c : Int) : errW (some c) = .iface 0 (.int .i64 c) := rfl

-- the values' own types

end Go.Proofs.Ytofjbbbajnohaaa.PBufferPieces
