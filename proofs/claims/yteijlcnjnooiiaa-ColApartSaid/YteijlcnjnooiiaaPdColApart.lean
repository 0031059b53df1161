-- Printed by a program of this session's own (wip/tools/pprint.sh, over the kit's print, with given contracts): not typed by hand.
import Derived.Test.YteijlcnjnooiiaaPx18
namespace Go.Proofs.Yteijlcnjnooiiaa.P
open Go.RowKit Go.Proofs.YteijlcnjnooiiaaW.PrintWords Go.Proofs.YteijlcnjnooiiaaW.PrintLast
/-- What is left to prove of screelaw15_ColApart: with no program in it. -/
def screelaw15_ColApart.Stated : Prop := ∀ (a0_0 : ByteArray) (a0_1 : Int) (a0_2 : Int) (a0_3 : Int) (a1_0 : ByteArray) (a1_1 : Int) (a1_2 : Int) (a1_3 : Int) (a2_0 : Int) (a2_1 : Int) (a3_0 : Int) (a3_1 : Int), (a0_0.size ≤ 140737488351232 ∧ (Lit.int .u64 a0_1).wf = true ∧ (Lit.int .i64 a0_2).wf = true ∧ (Lit.int .u64 a0_3).wf = true) → (a1_0.size ≤ 140737488351232 ∧ (Lit.int .u64 a1_1).wf = true ∧ (Lit.int .i64 a1_2).wf = true ∧ (Lit.int .u64 a1_3).wf = true) → ((Lit.int .u64 a2_0).wf = true ∧ (Lit.int .i64 a2_1).wf = true) → ((Lit.int .u64 a3_0).wf = true ∧ (Lit.int .i64 a3_1).wf = true) → ∃ k, screelaw15_ColApart.f k a0_0 a0_1 a0_2 a0_3 a1_0 a1_1 a1_2 a1_3 a2_0 a2_1 a3_0 a3_1 = some true
end Go.Proofs.Yteijlcnjnooiiaa.P
