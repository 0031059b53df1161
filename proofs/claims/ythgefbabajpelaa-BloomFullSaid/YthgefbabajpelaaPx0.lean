-- Printed by a program of this session's own (wip/tools/pprint.sh, over the kit's print, with given contracts): not typed by hand.
import Derived.Test.YthgefbabajpelaaProg
import Derived.Below
import Derived.Deep.Draws
import Derived.Deep.AppendLies
import Derived.Maps.AppendAt
import Derived.OwnWalk
import Derived.Laws.BytesArg
import Derived.Laws.MakeOwn
import Derived.Laws.OwnMore
import Derived.Deep.OwnRows
import Derived.Tactics
import Derived.Lib.ConvBytes
import Derived.Laws.Slices
import Derived.WalkKit
import Derived.KernelRfl
import Derived.RowKit3
import Derived.Deep.LoopGhost
import Derived.Deep.QuietTactic
import Derived.BigQuiet
import Derived.WideLaws
import Derived.Deep.DeepCutAuto
import Derived.Deep.CutBlock
import Derived.Deep.RegionHeld3
import Derived.Laws.Rows
import Derived.Lib.AppendStr
import Derived.ArgAppend
import Derived.Laws.IdiomCopy
import Derived.OrdersHeld
import Derived.Laws.BitsLemmas
import Derived.RowKit
import Derived.Handy
import Derived.Lib.Hide
import Derived.WalkMore
import Derived.Laws.Cover1
import Derived.Test.YthgefbabajpelaaMk
import Derived.Test.YthgefbabajpelaaSh
import Derived.Test.YthgefbabajpelaaSRow
import Derived.Test.YthgefbabajpelaaTh
import Derived.Test.YthgefbabajpelaaMap
import Derived.StillTailTactics
import Derived.Test.YthgefbabajpelaaWWords
import Derived.Test.YthgefbabajpelaaWLast
import Derived.Test.YthgefbabajpelaaWTab
import Derived.Test.YthgefbabajpelaaWFour
import Derived.Test.YthgefbabajpelaaWQPut
import Derived.Test.YthgefbabajpelaaWApart
import Derived.Test.YthgefbabajpelaaWArr
import Derived.Test.YthgefbabajpelaaWZeros
import Derived.Test.YthgefbabajpelaaWFoot
import Derived.Test.YthgefbabajpelaaWKept
import Derived.Test.YthgefbabajpelaaWShare
import Derived.Test.YthgefbabajpelaaWN
import Derived.Test.YthgefbabajpelaaWFootNe
import Derived.Test.YthgefbabajpelaaWAt
import Derived.Test.YthgefbabajpelaaWEqStruct
import Derived.Test.YthgefbabajpelaaWRepsOne
import Derived.Test.YthgefbabajpelaaWInv
import Derived.Test.YthgefbabajpelaaWInvWords
import Derived.Test.YthgefbabajpelaaWGuard
import Derived.Test.YthgefbabajpelaaWNEv
import Derived.Test.YthgefbabajpelaaWMore
namespace Go.Proofs.Ythgefbabajpelaa.P
open Go.RowKit Go.Proofs.YthgefbabajpelaaW.PrintWords Go.Proofs.YthgefbabajpelaaW.PrintLast Go.Proofs.YthgefbabajpelaaW.PrintMore
attribute [local go_sem] max2_int min2_int max_two min_two max_three min_three max_four min_four   -- for this text's walks alone
set_option linter.unusedVariables false
set_option linter.unusedSimpArgs false



def errW : Option Int → Value
  | none => .nilIface
  | some c => .iface 0 (.int .i64 c)
theorem errW_none : errW none = .nilIface := rfl
theorem errW_some (c : Int) : errW (some c) = .iface 0 (.int .i64 c) := rfl

theorem info3 : (Try.prog.info? 3).map (fun i => (i.zero, i.size, i.bytes)) = some (some (.int .i64 0), 1, 8) := by kernel_rfl
theorem info4 : (Try.prog.info? 4).map (fun i => (i.zero, i.size, i.bytes)) = some (some (.bool false), 1, 1) := by kernel_rfl
theorem info5 : (Try.prog.info? 5).map (fun i => (i.zero, i.size, i.bytes)) = some (some (.int .u8 0), 1, 1) := by kernel_rfl
theorem info9 : (Try.prog.info? 9).map (fun i => (i.zero, i.size, i.bytes)) = some (some (.string ⟨#[]⟩), 1, 16) := by kernel_rfl
-- the values' own types

end Go.Proofs.Ythgefbabajpelaa.P
