-- Printed by a program of this session's own (wip/tools/pprint.sh, over the kit's print, with given contracts): not typed by hand.
import Derived.Test.YthgefbabajpelaaPx5
namespace Go.Proofs.Ythgefbabajpelaa.P
open Go.RowKit Go.Proofs.YthgefbabajpelaaW.PrintWords Go.Proofs.YthgefbabajpelaaW.PrintLast
/-- What is left to prove of screelaw10_BloomFull: with no program in it. -/
def screelaw10_BloomFull.Stated : Prop := ∀ (l0 : List ByteArray), (((∀ x ∈ l0, x.size ≤ 140737488351232) ∧ l0.length * 16 ≤ 140737488351232)) → ∃ k, screelaw10_BloomFull.f k l0 = some true
end Go.Proofs.Ythgefbabajpelaa.P
