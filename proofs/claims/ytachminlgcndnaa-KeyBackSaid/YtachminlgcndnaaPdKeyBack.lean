-- Printed by a program of this session's own (wip/tools/pprint.sh, over the kit's print, with given contracts): not typed by hand.
import Derived.Test.YtachminlgcndnaaPx10
namespace Go.Proofs.Ytachminlgcndnaa.P
open Go.RowKit Go.Proofs.YtachminlgcndnaaW.PrintWords Go.Proofs.YtachminlgcndnaaW.PrintLast
/-- What is left to prove of screelaw02_KeyBack: with no program in it. -/
def screelaw02_KeyBack.Stated : Prop := ∀ (a0_0 : Int) (a0_1 : ByteArray) (a0_2 : Int) (a1 : ByteArray), ((Lit.int .i64 a0_0).wf = true ∧ a0_1.size ≤ 140737488351232 ∧ (Lit.int .u64 a0_2).wf = true) → (a1.size ≤ 140737488351232) → ∃ k, screelaw02_KeyBack.f k a0_0 a0_1 a0_2 a1 = some true
end Go.Proofs.Ytachminlgcndnaa.P
