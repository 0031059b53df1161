-- Printed by a program of this session's own (wip/tools/pprint.sh, over the kit's print, with given contracts): not typed by hand.
import Derived.Test.YtfgelbkhjiajfaaPx8
namespace Go.Proofs.Ytfgelbkhjiajfaa.P
open Go.RowKit Go.Proofs.YtfgelbkhjiajfaaW.PrintWords Go.Proofs.YtfgelbkhjiajfaaW.PrintLast
/-- What is left to prove of screelaw05_BatchWrites: with no program in it. -/
def screelaw05_BatchWrites.Stated : Prop := ∀ (a0 : Int) (l1 : List (S34)), ((Lit.int .u64 a0).wf = true) → (((∀ x ∈ l1, (True ∧ x.f1.size ≤ 140737488351232 ∧ x.f2.size ≤ 140737488351232)) ∧ l1.length * 40 ≤ 140737488351232)) → ∃ k, screelaw05_BatchWrites.f k a0 l1 = some true
end Go.Proofs.Ytfgelbkhjiajfaa.P
