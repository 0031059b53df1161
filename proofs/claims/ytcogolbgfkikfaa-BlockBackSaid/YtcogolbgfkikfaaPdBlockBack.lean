-- Printed by a program of this session's own (wip/tools/pprint.sh, over the kit's print, with given contracts): not typed by hand.
import Derived.Test.YtcogolbgfkikfaaPx13
namespace Go.Proofs.Ytcogolbgfkikfaa.P
open Go.RowKit Go.Proofs.YtcogolbgfkikfaaW.PrintWords Go.Proofs.YtcogolbgfkikfaaW.PrintLast
/-- What is left to prove of screelaw09_BlockBack: with no program in it. -/
def screelaw09_BlockBack.Stated : Prop := ∀ (l0 : List (S35)) (a1 : ByteArray), (((∀ x ∈ l0, (x.f0.size ≤ 140737488351232 ∧ (Lit.int .u64 x.f1).wf = true ∧ True ∧ x.f3.size ≤ 140737488351232)) ∧ l0.length * 48 ≤ 140737488351232)) → (a1.size ≤ 140737488351232) → ∃ k, screelaw09_BlockBack.f k l0 a1 = some true
end Go.Proofs.Ytcogolbgfkikfaa.P
