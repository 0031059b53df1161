-- Printed by a program of this session's own (wip/tools/pprint.sh, over the kit's print, with given contracts): not typed by hand.
import Derived.Test.YthgefbabajpelaaPx5
namespace Go.Proofs.Ythgefbabajpelaa.P
open Go.RowKit Go.Proofs.YthgefbabajpelaaW.PrintWords Go.Proofs.YthgefbabajpelaaW.PrintLast
/-- What is left to prove of screelaw10_BloomTells: with no program in it. -/
def screelaw10_BloomTells.Stated : Prop := ∀ (l0 : List ByteArray) (a1 : ByteArray) (a2 : ByteArray) (a3 : Int), (((∀ x ∈ l0, x.size ≤ 140737488351232) ∧ l0.length * 16 ≤ 140737488351232)) → (a1.size ≤ 140737488351232) → (a2.size ≤ 140737488351232) → ((Lit.int .i64 a3).wf = true) → ∃ k, screelaw10_BloomTells.f k l0 a1 a2 a3 = some true
end Go.Proofs.Ythgefbabajpelaa.P
