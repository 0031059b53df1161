-- Printed by a program of this session's own (wip/tools/pprint.sh, over the kit's print, with given contracts): not typed by hand.
import Derived.Test.YteijlcnjnooiiaaPx19
namespace Go.Proofs.Yteijlcnjnooiiaa.P
open Go.RowKit Go.Proofs.YteijlcnjnooiiaaW.PrintWords Go.Proofs.YteijlcnjnooiiaaW.PrintLast
/-- What is left to prove of screelaw15_ColOrder: with no program in it. -/
def screelaw15_ColOrder.Stated : Prop := ∀ (l0 : List (S51)) (a1 : Int), (((∀ x ∈ l0, ((Lit.int .u64 x.f0).wf = true ∧ (Lit.int .u64 x.f1).wf = true ∧ (Lit.int .u64 x.f2).wf = true)) ∧ l0.length * 24 ≤ 140737488351232)) → ((Lit.int .u8 a1).wf = true) → ∃ k, screelaw15_ColOrder.f k l0 a1 = some true
end Go.Proofs.Yteijlcnjnooiiaa.P
