-- Printed by a program of this session's own (wip/tools/pprint.sh, over the kit's print, with given contracts): not typed by hand.
import Derived.Test.YteijlcnjnooiiaaPx13
namespace Go.Proofs.Yteijlcnjnooiiaa.P
open Go.RowKit Go.Proofs.YteijlcnjnooiiaaW.PrintWords Go.Proofs.YteijlcnjnooiiaaW.PrintLast
/-- What is left to prove of screelaw15_ColWrites: with no program in it. -/
def screelaw15_ColWrites.Stated : Prop := ∀ (a0_0 : ByteArray) (a0_1 : Int) (a0_2 : Int) (a0_3 : Int) (a1_0 : Int) (a1_1 : Int) (l2 : List (S51)), (a0_0.size ≤ 140737488351232 ∧ (Lit.int .u64 a0_1).wf = true ∧ (Lit.int .i64 a0_2).wf = true ∧ (Lit.int .u64 a0_3).wf = true) → ((Lit.int .u64 a1_0).wf = true ∧ (Lit.int .i64 a1_1).wf = true) → (((∀ x ∈ l2, ((Lit.int .u64 x.f0).wf = true ∧ (Lit.int .u64 x.f1).wf = true ∧ (Lit.int .u64 x.f2).wf = true)) ∧ l2.length * 24 ≤ 140737488351232)) → ∃ k, screelaw15_ColWrites.f k a0_0 a0_1 a0_2 a0_3 a1_0 a1_1 l2 = some true
end Go.Proofs.Yteijlcnjnooiiaa.P
