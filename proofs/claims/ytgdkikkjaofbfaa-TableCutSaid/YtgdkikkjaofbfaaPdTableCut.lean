-- Printed by a program of this session's own (wip/tools/pprint.sh, over the kit's print, with given contracts): not typed by hand.
import Derived.Test.YtgdkikkjaofbfaaPx16
namespace Go.Proofs.Ytgdkikkjaofbfaa.P
open Go.RowKit Go.Proofs.YtgdkikkjaofbfaaW.PrintWords Go.Proofs.YtgdkikkjaofbfaaW.PrintLast
/-- What is left to prove of screelaw11_TableCut: with no program in it. -/
def screelaw11_TableCut.Stated : Prop := ∀ (l0 : List (S37)) (a1 : Int) (a2 : Int), (((∀ x ∈ l0, (x.f0.size ≤ 140737488351232 ∧ (Lit.int .u64 x.f1).wf = true ∧ True ∧ x.f3.size ≤ 140737488351232)) ∧ l0.length * 48 ≤ 140737488351232)) → ((Lit.int .u8 a1).wf = true) → ((Lit.int .u8 a2).wf = true) → ∃ k, screelaw11_TableCut.f k l0 a1 a2 = some true
end Go.Proofs.Ytgdkikkjaofbfaa.P
