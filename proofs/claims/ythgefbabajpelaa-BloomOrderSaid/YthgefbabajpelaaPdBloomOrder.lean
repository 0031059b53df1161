-- Printed by a program of this session's own (wip/tools/pprint.sh, over the kit's print, with given contracts): not typed by hand.
import Derived.Test.YthgefbabajpelaaPx6
namespace Go.Proofs.Ythgefbabajpelaa.P
open Go.RowKit Go.Proofs.YthgefbabajpelaaW.PrintWords Go.Proofs.YthgefbabajpelaaW.PrintLast
/-- What is left to prove of screelaw10_BloomOrder: with no program in it. -/
def screelaw10_BloomOrder.Stated : Prop := ∀ (l0 : List ByteArray) (a1 : Int), (((∀ x ∈ l0, x.size ≤ 140737488351232) ∧ l0.length * 16 ≤ 140737488351232)) → ((Lit.int .u8 a1).wf = true) → ∃ k, screelaw10_BloomOrder.f k l0 a1 = some true
end Go.Proofs.Ythgefbabajpelaa.P
