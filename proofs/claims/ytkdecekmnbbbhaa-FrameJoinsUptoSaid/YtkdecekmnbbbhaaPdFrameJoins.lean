-- Printed by a program of this session's own (wip/tools/pprint.sh, over the kit's print, with given contracts): not typed by hand.
import Derived.Test.YtkdecekmnbbbhaaPx7
namespace Go.Proofs.Ytkdecekmnbbbhaa.P
open Go.RowKit Go.Proofs.YtkdecekmnbbbhaaW.PrintWords Go.Proofs.YtkdecekmnbbbhaaW.PrintLast
/-- What is left to prove of screelaw04_FrameJoins: with no program in it. -/
def screelaw04_FrameJoins.Stated : Prop := ∀ (l0 : List ByteArray) (l1 : List ByteArray), (((∀ x ∈ l0, x.size ≤ 140737488351232) ∧ l0.length * 16 ≤ 140737488351232)) → (l0.length ≤ 1048576) → (((∀ x ∈ l1, x.size ≤ 140737488351232) ∧ l1.length * 16 ≤ 140737488351232)) → (l1.length ≤ 1048576) → ∃ k, screelaw04_FrameJoins.f k l0 l1 = some true
end Go.Proofs.Ytkdecekmnbbbhaa.P
