-- Printed by a program of this session's own (wip/tools/pprint.sh, over the kit's print, with given contracts): not typed by hand.
import Derived.Test.YtachminlgcndnaaProg
import Derived.Below
import Derived.Deep.Draws
import Derived.Deep.AppendLies
import Derived.Maps.AppendAt
import Derived.OwnWalk
import Derived.Laws.BytesArg
import Derived.Laws.MakeOwn
import Derived.Laws.OwnMore
import Derived.Deep.OwnRows
import Derived.Tactics
import Derived.Lib.ConvBytes
import Derived.Laws.Slices
import Derived.WalkKit
import Derived.KernelRfl
import Derived.RowKit3
import Derived.Deep.LoopGhost
import Derived.Deep.QuietTactic
import Derived.BigQuiet
import Derived.WideLaws
import Derived.Deep.DeepCutAuto
import Derived.Deep.CutBlock
import Derived.Deep.RegionHeld3
import Derived.Laws.Rows
import Derived.Lib.AppendStr
import Derived.ArgAppend
import Derived.Laws.IdiomCopy
import Derived.OrdersHeld
import Derived.Laws.BitsLemmas
import Derived.RowKit
import Derived.Handy
import Derived.Lib.Hide
import Derived.WalkMore
import Derived.Laws.Cover1
import Derived.Test.YtachminlgcndnaaSh
import Derived.Test.YtachminlgcndnaaBuf
import Derived.Test.YtachminlgcndnaaBufC
import Derived.Test.YtachminlgcndnaaBufR
import Derived.Test.YtachminlgcndnaaSRow
import Derived.Test.YtachminlgcndnaaTh
import Derived.Test.YtachminlgcndnaaKeyT
import Derived.Test.YtachminlgcndnaaWWords
import Derived.Test.YtachminlgcndnaaWLast
import Derived.Test.YtachminlgcndnaaWTab
import Derived.Test.YtachminlgcndnaaWFour
import Derived.Test.YtachminlgcndnaaWQPut
import Derived.Test.YtachminlgcndnaaWApart
import Derived.Test.YtachminlgcndnaaWArr
import Derived.Test.YtachminlgcndnaaWZeros
import Derived.Test.YtachminlgcndnaaWFoot
import Derived.Test.YtachminlgcndnaaWKept
import Derived.Test.YtachminlgcndnaaWShare
import Derived.Test.YtachminlgcndnaaWN
import Derived.Test.YtachminlgcndnaaWFootNe
import Derived.Test.YtachminlgcndnaaWAt
import Derived.Test.YtachminlgcndnaaWEqStruct
import Derived.Test.YtachminlgcndnaaWRepsOne
import Derived.Test.YtachminlgcndnaaWInv
import Derived.Test.YtachminlgcndnaaWInvWords
import Derived.Test.YtachminlgcndnaaWGuard
import Derived.Test.YtachminlgcndnaaWNEv
import Derived.Test.YtachminlgcndnaaWMore
namespace Go.Proofs.Ytachminlgcndnaa.P
open Go.RowKit Go.Proofs.YtachminlgcndnaaW.PrintWords Go.Proofs.YtachminlgcndnaaW.PrintLast Go.Proofs.YtachminlgcndnaaW.PrintMore
attribute [local go_sem] max2_int min2_int max_two min_two max_three min_three max_four min_four   -- for this text's walks alone
set_option linter.unusedVariables false
set_option linter.unusedSimpArgs false



def errW : Option Int → Value
  | none => .nilIface
  | some c => .iface 0 (.int .i64 c)
theorem errW_none : errW none = .nilIface := rfl
theorem errW_some (c : Int) : errW (some c) = .iface 0 (.int .i64 c) := rfl

theorem info5 : (Try.prog.info? 5).map (fun i => (i.zero, i.size, i.bytes)) = some (some (.int .u8 0), 1, 1) := by kernel_rfl
-- the values' own types

end Go.Proofs.Ytachminlgcndnaa.P
