-- Printed by a program of this session's own (wip/tools/pprint.sh, over the kit's print, with given contracts): not typed by hand.
import Derived.Test.YtcdadhgcjkgnoaaPx19
namespace Go.Proofs.Ytcdadhgcjkgnoaa.P
open Go.RowKit Go.Proofs.YtcdadhgcjkgnoaaW.PrintWords Go.Proofs.YtcdadhgcjkgnoaaW.PrintLast
/-- What is left to prove of screelaw17_GcTells: with no program in it. -/
def screelaw17_GcTells.Stated : Prop := ∀ (l0 : List (S47)) (a1 : Int) (a2 : ByteArray) (a3 : Int), (((∀ x ∈ l0, (x.f0.size ≤ 140737488351232 ∧ (Lit.int .u64 x.f1).wf = true ∧ True ∧ x.f3.size ≤ 140737488351232)) ∧ l0.length * 48 ≤ 140737488351232)) → ((Lit.int .u64 a1).wf = true) → (a2.size ≤ 140737488351232) → ((Lit.int .u64 a3).wf = true) → ∃ k, screelaw17_GcTells.f k l0 a1 a2 a3 = some true
end Go.Proofs.Ytcdadhgcjkgnoaa.P
