-- Printed by a program of this session's own (wip/tools/pprint.sh, over the kit's print, with given contracts): not typed by hand.
import Derived.Test.YtachminlgcndnaaPx13
namespace Go.Proofs.Ytachminlgcndnaa.P
open Go.RowKit Go.Proofs.YtachminlgcndnaaW.PrintWords Go.Proofs.YtachminlgcndnaaW.PrintLast
/-- What is left to prove of screelaw02_KeyBegins: with no program in it. -/
def screelaw02_KeyBegins.Stated : Prop := ∀ (a0_0 : Int) (a0_1 : ByteArray) (a0_2 : Int), ((Lit.int .i64 a0_0).wf = true ∧ a0_1.size ≤ 140737488351232 ∧ (Lit.int .u64 a0_2).wf = true) → ∃ k, screelaw02_KeyBegins.f k a0_0 a0_1 a0_2 = some true
end Go.Proofs.Ytachminlgcndnaa.P
