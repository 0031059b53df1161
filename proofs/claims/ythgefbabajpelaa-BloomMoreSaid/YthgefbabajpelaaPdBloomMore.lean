-- Printed by a program of this session's own (wip/tools/pprint.sh, over the kit's print, with given contracts): not typed by hand.
import Derived.Test.YthgefbabajpelaaPx6
namespace Go.Proofs.Ythgefbabajpelaa.P
open Go.RowKit Go.Proofs.YthgefbabajpelaaW.PrintWords Go.Proofs.YthgefbabajpelaaW.PrintLast
/-- What is left to prove of screelaw10_BloomMore: with no program in it. -/
def screelaw10_BloomMore.Stated : Prop := ∀ (a0 : ByteArray) (a1 : ByteArray) (a2 : ByteArray), (a0.size ≤ 140737488351232) → (a1.size ≤ 140737488351232) → (a2.size ≤ 140737488351232) → ∃ k, screelaw10_BloomMore.f k a0 a1 a2 = some true
end Go.Proofs.Ythgefbabajpelaa.P
