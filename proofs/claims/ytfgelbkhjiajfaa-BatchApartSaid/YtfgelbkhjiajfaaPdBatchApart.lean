-- Printed by a program of this session's own (wip/tools/pprint.sh, over the kit's print, with given contracts): not typed by hand.
import Derived.Test.YtfgelbkhjiajfaaPx6
namespace Go.Proofs.Ytfgelbkhjiajfaa.P
open Go.RowKit Go.Proofs.YtfgelbkhjiajfaaW.PrintWords Go.Proofs.YtfgelbkhjiajfaaW.PrintLast
/-- What is left to prove of screelaw05_BatchApart: with no program in it. -/
def screelaw05_BatchApart.Stated : Prop := ∀ (a0 : Int) (a1 : Int) (l2 : List (S34)) (l3 : List (S34)), ((Lit.int .u64 a0).wf = true) → ((Lit.int .u64 a1).wf = true) → (((∀ x ∈ l2, (True ∧ x.f1.size ≤ 140737488351232 ∧ x.f2.size ≤ 140737488351232)) ∧ l2.length * 40 ≤ 140737488351232)) → (((∀ x ∈ l3, (True ∧ x.f1.size ≤ 140737488351232 ∧ x.f2.size ≤ 140737488351232)) ∧ l3.length * 40 ≤ 140737488351232)) → ∃ k, screelaw05_BatchApart.f k a0 a1 l2 l3 = some true
end Go.Proofs.Ytfgelbkhjiajfaa.P
