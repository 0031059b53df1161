-- Printed by a program of this session's own (wip/tools/pprint.sh, over the kit's print, with given contracts): not typed by hand.
import Derived.Test.YtkdecekmnbbbhaaProg
import Derived.Below
import Derived.Deep.Draws
import Derived.Deep.AppendLies
import Derived.Maps.AppendAt
import Derived.OwnWalk
import Derived.Laws.BytesArg
import Derived.Laws.MakeOwn
import Derived.Laws.OwnMore
import Derived.Deep.OwnRows
import Derived.Tactics
import Derived.Lib.ConvBytes
import Derived.Laws.Slices
import Derived.WalkKit
import Derived.KernelRfl
import Derived.RowKit3
import Derived.Deep.LoopGhost
import Derived.Deep.QuietTactic
import Derived.BigQuiet
import Derived.WideLaws
import Derived.Deep.DeepCutAuto
import Derived.Deep.CutBlock
import Derived.Deep.RegionHeld3
import Derived.Laws.Rows
import Derived.Lib.AppendStr
import Derived.ArgAppend
import Derived.Laws.IdiomCopy
import Derived.OrdersHeld
import Derived.Laws.BitsLemmas
import Derived.RowKit
import Derived.Handy
import Derived.Lib.Hide
import Derived.WalkMore
import Derived.Test.YtkdecekmnbbbhaaSh
import Derived.Test.YtkdecekmnbbbhaaBld
import Derived.Test.YtkdecekmnbbbhaaSRow
import Derived.Test.YtkdecekmnbbbhaaWWords
import Derived.Test.YtkdecekmnbbbhaaWLast
import Derived.Test.YtkdecekmnbbbhaaWTab
import Derived.Test.YtkdecekmnbbbhaaWFour
import Derived.Test.YtkdecekmnbbbhaaWQPut
import Derived.Test.YtkdecekmnbbbhaaWApart
import Derived.Test.YtkdecekmnbbbhaaWArr
import Derived.Test.YtkdecekmnbbbhaaWZeros
import Derived.Test.YtkdecekmnbbbhaaWFoot
import Derived.Test.YtkdecekmnbbbhaaWKept
import Derived.Test.YtkdecekmnbbbhaaWShare
import Derived.Test.YtkdecekmnbbbhaaWN
import Derived.Test.YtkdecekmnbbbhaaWFootNe
import Derived.Test.YtkdecekmnbbbhaaWAt
import Derived.Test.YtkdecekmnbbbhaaWEqStruct
import Derived.Test.YtkdecekmnbbbhaaWRepsOne
import Derived.Test.YtkdecekmnbbbhaaWInv
import Derived.Test.YtkdecekmnbbbhaaWInvWords
import Derived.Test.YtkdecekmnbbbhaaWGuard
import Derived.Test.YtkdecekmnbbbhaaWNEv
import Derived.Test.YtkdecekmnbbbhaaWMore
namespace Go.Proofs.Ytkdecekmnbbbhaa.P
open Go.RowKit Go.Proofs.YtkdecekmnbbbhaaW.PrintWords Go.Proofs.YtkdecekmnbbbhaaW.PrintLast Go.Proofs.YtkdecekmnbbbhaaW.PrintMore
attribute [local go_sem] max2_int min2_int max_two min_two max_three min_three max_four min_four   -- for this text's walks alone
set_option linter.unusedVariables false
set_option linter.unusedSimpArgs false



def errW : Option Int → Value
  | none => .nilIface
  | some c => .iface 0 (.int .i64 c)
theorem errW_none : errW none = .nilIface := rfl
theorem errW_some (c : Int) : errW (some c) = .iface 0 (.int .i64 c) := rfl

theorem info5 : (Try.prog.info? 5).map (fun i => (i.zero, i.size, i.bytes)) = some (some (.int .u8 0), 1, 1) := by kernel_rfl
theorem info9 : (Try.prog.info? 9).map (fun i => (i.zero, i.size, i.bytes)) = some (some (.string ⟨#[]⟩), 1, 16) := by kernel_rfl
-- the values' own types

end Go.Proofs.Ytkdecekmnbbbhaa.P
