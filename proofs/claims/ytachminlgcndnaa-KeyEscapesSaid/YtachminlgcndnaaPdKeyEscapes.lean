-- Printed by a program of this session's own (wip/tools/pprint.sh, over the kit's print, with given contracts): not typed by hand.
import Derived.Test.YtachminlgcndnaaPx12
namespace Go.Proofs.Ytachminlgcndnaa.P
open Go.RowKit Go.Proofs.YtachminlgcndnaaW.PrintWords Go.Proofs.YtachminlgcndnaaW.PrintLast
/-- What is left to prove of screelaw02_KeyEscapes: with no program in it. -/
def screelaw02_KeyEscapes.Stated : Prop := ∀ (a0 : ByteArray) (a1 : ByteArray), (a0.size ≤ 140737488351232) → (a1.size ≤ 140737488351232) → ∃ k, screelaw02_KeyEscapes.f k a0 a1 = some true
end Go.Proofs.Ytachminlgcndnaa.P
