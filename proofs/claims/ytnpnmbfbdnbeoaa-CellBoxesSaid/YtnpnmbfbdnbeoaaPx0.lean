-- Laid by a program of this session: the walk of functions of the translation, for this claim.
import Derived.Test.YtnpnmbfbdnbeoaaProg
import Derived.Below
import Derived.Deep.Draws
import Derived.Deep.AppendLies
import Derived.Maps.AppendAt
import Derived.OwnWalk
import Derived.Laws.BytesArg
import Derived.Laws.MakeOwn
import Derived.Laws.OwnMore
import Derived.Deep.OwnRows
import Derived.Tactics
import Derived.Lib.ConvBytes
import Derived.Laws.Slices
import Derived.WalkKit
import Derived.KernelRfl
import Derived.RowKit3
import Derived.Deep.LoopGhost
import Derived.Deep.QuietTactic
import Derived.BigQuiet
import Derived.WideLaws
import Derived.Deep.DeepCutAuto
import Derived.Deep.CutBlock
import Derived.Deep.RegionHeld3
import Derived.Laws.Rows
import Derived.Lib.AppendStr
import Derived.ArgAppend
import Derived.Laws.IdiomCopy
import Derived.OrdersHeld
import Derived.Laws.BitsLemmas
import Derived.RowKit
import Derived.Test.YtnpnmbfbdnbeoaaOwn
import Derived.RangeFuncNested
import Derived.RangeFuncBound
import Derived.RangeFuncCalls
import Derived.RangeFuncLeaves
import Derived.Shelf.Abstract
import Derived.Shelf.RegionOpen
import Derived.OwnWalkIn
import Derived.TacticsInMore
import Derived.LoopNIn
import Derived.LoopIn
import Derived.Lib.Tables
import Derived.Lib.BitFns
import Derived.Test.YtnpnmbfbdnbeoaaWWords
import Derived.Test.YtnpnmbfbdnbeoaaWLast
import Derived.Test.YtnpnmbfbdnbeoaaWTab
import Derived.Test.YtnpnmbfbdnbeoaaWFour
import Derived.Test.YtnpnmbfbdnbeoaaWQPut
import Derived.Test.YtnpnmbfbdnbeoaaWApart
import Derived.Test.YtnpnmbfbdnbeoaaWArr
import Derived.Test.YtnpnmbfbdnbeoaaWZeros
import Derived.Test.YtnpnmbfbdnbeoaaWFoot
import Derived.Test.YtnpnmbfbdnbeoaaWKept
import Derived.Test.YtnpnmbfbdnbeoaaWShare
import Derived.Test.YtnpnmbfbdnbeoaaWN
import Derived.Test.YtnpnmbfbdnbeoaaWFootNe
import Derived.Test.YtnpnmbfbdnbeoaaWAt
import Derived.Test.YtnpnmbfbdnbeoaaWEqStruct
import Derived.Test.YtnpnmbfbdnbeoaaWRepsOne
import Derived.Test.YtnpnmbfbdnbeoaaWInv
import Derived.Test.YtnpnmbfbdnbeoaaWInvWords
import Derived.Test.YtnpnmbfbdnbeoaaWGuard
import Derived.Test.YtnpnmbfbdnbeoaaWNEv
import Derived.Test.YtnpnmbfbdnbeoaaWMore
namespace Go.Proofs.Ytnpnmbfbdnbeoaa.P
open Go.RowKit Go.Proofs.YtnpnmbfbdnbeoaaOwn Go.Proofs.YtnpnmbfbdnbeoaaW.PrintWords Go.Proofs.YtnpnmbfbdnbeoaaW.PrintLast Go.Proofs.YtnpnmbfbdnbeoaaW.PrintMore
attribute [local go_sem] max2_int min2_int max_two min_two max_three min_three max_four min_four   -- for this text's walks alone
set_option linter.unusedVariables false
set_option linter.unusedSimpArgs false



def errW : Option Int → Value
  | none => .nilIface
  | some c => .iface 0 (.int .i64 c)
theorem errW_none : errW none = .nilIface := rfl
theorem errW_some (c : Int) : errW (some c) = .iface 0 (.int .i64 c) := rfl

-- the values' own types

end Go.Proofs.Ytnpnmbfbdnbeoaa.P
