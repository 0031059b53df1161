-- Printed by a program of this session's own (wip/tools/pprint.sh, over the kit's print, with given contracts): not typed by hand.
import Derived.Test.YtodblgdpnjdnkaaProg
import Derived.Below
import Derived.Deep.Draws
import Derived.Deep.AppendLies
import Derived.Maps.AppendAt
import Derived.OwnWalk
import Derived.Laws.BytesArg
import Derived.Laws.MakeOwn
import Derived.Laws.OwnMore
import Derived.Deep.OwnRows
import Derived.Tactics
import Derived.Lib.ConvBytes
import Derived.Laws.Slices
import Derived.WalkKit
import Derived.KernelRfl
import Derived.RowKit3
import Derived.Deep.LoopGhost
import Derived.Deep.QuietTactic
import Derived.BigQuiet
import Derived.WideLaws
import Derived.Deep.DeepCutAuto
import Derived.Deep.CutBlock
import Derived.Deep.RegionHeld3
import Derived.Laws.Rows
import Derived.Lib.AppendStr
import Derived.ArgAppend
import Derived.Laws.IdiomCopy
import Derived.OrdersHeld
import Derived.Laws.BitsLemmas
import Derived.RowKit
import Derived.Handy
import Derived.Test.YtodblgdpnjdnkaaWWords
import Derived.Test.YtodblgdpnjdnkaaWLast
import Derived.Test.YtodblgdpnjdnkaaWTab
import Derived.Test.YtodblgdpnjdnkaaWFour
import Derived.Test.YtodblgdpnjdnkaaWQPut
import Derived.Test.YtodblgdpnjdnkaaWApart
import Derived.Test.YtodblgdpnjdnkaaWArr
import Derived.Test.YtodblgdpnjdnkaaWZeros
import Derived.Test.YtodblgdpnjdnkaaWFoot
import Derived.Test.YtodblgdpnjdnkaaWKept
import Derived.Test.YtodblgdpnjdnkaaWShare
import Derived.Test.YtodblgdpnjdnkaaWN
import Derived.Test.YtodblgdpnjdnkaaWFootNe
import Derived.Test.YtodblgdpnjdnkaaWAt
import Derived.Test.YtodblgdpnjdnkaaWEqStruct
import Derived.Test.YtodblgdpnjdnkaaWRepsOne
import Derived.Test.YtodblgdpnjdnkaaWInv
import Derived.Test.YtodblgdpnjdnkaaWInvWords
import Derived.Test.YtodblgdpnjdnkaaWGuard
import Derived.Test.YtodblgdpnjdnkaaWNEv
import Derived.Test.YtodblgdpnjdnkaaWMore
namespace Go.Proofs.Ytodblgdpnjdnkaa.P
open Go.RowKit Go.Proofs.YtodblgdpnjdnkaaW.PrintWords Go.Proofs.YtodblgdpnjdnkaaW.PrintLast Go.Proofs.YtodblgdpnjdnkaaW.PrintMore
attribute [local go_sem] max2_int min2_int max_two min_two max_three min_three max_four min_four   -- for this text's walks alone
set_option linter.unusedVariables false
set_option linter.unusedSimpArgs false



def errW : Option Int → Value
  | none => .nilIface
  | some c => .iface 0 (.int .i64 c)
theorem errW_none : errW none = .nilIface := rfl
theorem errW_some (c : Int) : errW (some c) = .iface 0 (.int .i64 c) := rfl

theorem info5 : (Try.prog.info? 5).map (fun i => (i.zero, i.size, i.bytes)) = some (some (.int .u8 0), 1, 1) := by kernel_rfl
-- the values' own types

end Go.Proofs.Ytodblgdpnjdnkaa.P
