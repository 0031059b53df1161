-- Printed by a program of this session's own (wip/tools/pprint.sh, over the kit's print, with given contracts): not typed by hand.
import Derived.Test.YtkdecekmnbbbhaaPx5
namespace Go.Proofs.Ytkdecekmnbbbhaa.P
open Go.RowKit Go.Proofs.YtkdecekmnbbbhaaW.PrintWords Go.Proofs.YtkdecekmnbbbhaaW.PrintLast
/-- What is left to prove of screelaw04_FrameReads: with no program in it. -/
def screelaw04_FrameReads.Stated : Prop := ∀ (a0 : ByteArray) (l1 : List ByteArray), (a0.size ≤ 140737488351232) → (((∀ x ∈ l1, x.size ≤ 140737488351232) ∧ l1.length * 16 ≤ 140737488351232)) → ∃ k, screelaw04_FrameReads.f k a0 l1 = some true
end Go.Proofs.Ytkdecekmnbbbhaa.P
