-- Printed by a program of this session's own (wip/tools/pprint.sh, over the kit's print, with given contracts): not typed by hand.
import Derived.Test.YtfgelbkhjiajfaaPx7
namespace Go.Proofs.Ytfgelbkhjiajfaa.P
open Go.RowKit Go.Proofs.YtfgelbkhjiajfaaW.PrintWords Go.Proofs.YtfgelbkhjiajfaaW.PrintLast
/-- What is left to prove of screelaw05_BatchMay: with no program in it. -/
def screelaw05_BatchMay.Stated : Prop := ∀ (l0 : List (S34)), (((∀ x ∈ l0, (True ∧ x.f1.size ≤ 140737488351232 ∧ x.f2.size ≤ 140737488351232)) ∧ l0.length * 40 ≤ 140737488351232)) → ∃ k, screelaw05_BatchMay.f k l0 = some true
end Go.Proofs.Ytfgelbkhjiajfaa.P
