-- written by a program of this session (the print, turned)
import Derived.Test.YtchlkbaopgpldaaProg
import Derived.Below
import Derived.Deep.Draws
import Derived.Deep.AppendLies
import Derived.Maps.AppendAt
import Derived.OwnWalk
import Derived.Laws.BytesArg
import Derived.Laws.MakeOwn
import Derived.Laws.OwnMore
import Derived.Deep.OwnRows
import Derived.Tactics
import Derived.Lib.ConvBytes
import Derived.Laws.Slices
import Derived.WalkKit
import Derived.KernelRfl
import Derived.RowKit3
import Derived.Deep.LoopGhost
import Derived.Deep.QuietTactic
import Derived.BigQuiet
import Derived.WideLaws
import Derived.Deep.DeepCutAuto
import Derived.Deep.CutBlock
import Derived.Deep.RegionHeld3
import Derived.Laws.Rows
import Derived.Lib.AppendStr
import Derived.ArgAppend
import Derived.Laws.IdiomCopy
import Derived.OrdersHeld
import Derived.Laws.BitsLemmas
import Derived.RowKit
import Derived.Test.YtchlkbaopgpldaaWWords
import Derived.Test.YtchlkbaopgpldaaWLast
import Derived.Test.YtchlkbaopgpldaaWTab
import Derived.Test.YtchlkbaopgpldaaWFour
import Derived.Test.YtchlkbaopgpldaaWQPut
import Derived.Test.YtchlkbaopgpldaaWApart
import Derived.Test.YtchlkbaopgpldaaWArr
import Derived.Test.YtchlkbaopgpldaaWZeros
import Derived.Test.YtchlkbaopgpldaaWFoot
import Derived.Test.YtchlkbaopgpldaaWKept
import Derived.Test.YtchlkbaopgpldaaWShare
import Derived.Test.YtchlkbaopgpldaaWN
import Derived.Test.YtchlkbaopgpldaaWFootNe
import Derived.Test.YtchlkbaopgpldaaWAt
import Derived.Test.YtchlkbaopgpldaaWEqStruct
import Derived.Test.YtchlkbaopgpldaaWRepsOne
import Derived.Test.YtchlkbaopgpldaaWInv
import Derived.Test.YtchlkbaopgpldaaWInvWords
import Derived.Test.YtchlkbaopgpldaaWGuard
import Derived.Test.YtchlkbaopgpldaaWNEv
import Derived.Test.YtchlkbaopgpldaaWMore
namespace Go.Proofs.Ytchlkbaopgpldaa.PKeyAfter
open Go.RowKit Go.Proofs.YtchlkbaopgpldaaW.PrintWords Go.Proofs.YtchlkbaopgpldaaW.PrintLast Go.Proofs.YtchlkbaopgpldaaW.PrintMore
attribute [local go_sem] cell_self cell_there leq_str geq_str gtr_str max2_str max2_int min2_int max_two min_two max_three min_three max_four min_four   -- for this text's walks alone
set_option linter.unusedVariables false
set_option linter.unusedSimpArgs false



def errW : Option Int → Value
  | none => .nilIface
  | some c => .iface 0 (.int .i64 c)
theorem errW_none : errW none = .nilIface := rfl
theorem errW_some (c : Int) : errW (some c) = .iface 0 (.int .i64 c) := rfl

-- the values' own types

end Go.Proofs.Ytchlkbaopgpldaa.PKeyAfter
