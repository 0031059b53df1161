-- Printed by a program of this session's own (wip/tools/pprint.sh, over the kit's print, with given contracts): not typed by hand.
import Derived.Test.YtachminlgcndnaaPx12
namespace Go.Proofs.Ytachminlgcndnaa.P
open Go.RowKit Go.Proofs.YtachminlgcndnaaW.PrintWords Go.Proofs.YtachminlgcndnaaW.PrintLast
/-- What is left to prove of screelaw02_KeyBounds: with no program in it. -/
def screelaw02_KeyBounds.Stated : Prop := ∀ (a0_0 : Int) (a0_1 : ByteArray) (a0_2 : Int) (a1_0 : Int) (a1_1 : ByteArray) (a1_2 : Int), ((Lit.int .i64 a0_0).wf = true ∧ a0_1.size ≤ 140737488351232 ∧ (Lit.int .u64 a0_2).wf = true) → ((Lit.int .i64 a1_0).wf = true ∧ a1_1.size ≤ 140737488351232 ∧ (Lit.int .u64 a1_2).wf = true) → ∃ k, screelaw02_KeyBounds.f k a0_0 a0_1 a0_2 a1_0 a1_1 a1_2 = some true
end Go.Proofs.Ytachminlgcndnaa.P
