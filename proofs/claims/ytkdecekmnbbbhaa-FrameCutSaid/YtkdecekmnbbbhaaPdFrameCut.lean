-- Printed by a program of this session's own (wip/tools/pprint.sh, over the kit's print, with given contracts): not typed by hand.
import Derived.Test.YtkdecekmnbbbhaaPx6
namespace Go.Proofs.Ytkdecekmnbbbhaa.P
open Go.RowKit Go.Proofs.YtkdecekmnbbbhaaW.PrintWords Go.Proofs.YtkdecekmnbbbhaaW.PrintLast
/-- What is left to prove of screelaw04_FrameCut: with no program in it. -/
def screelaw04_FrameCut.Stated : Prop := ∀ (l0 : List ByteArray) (a1 : Int), (((∀ x ∈ l0, x.size ≤ 140737488351232) ∧ l0.length * 16 ≤ 140737488351232)) → ((Lit.int .u16 a1).wf = true) → ∃ k, screelaw04_FrameCut.f k l0 a1 = some true
end Go.Proofs.Ytkdecekmnbbbhaa.P
