-- Printed by a program of this session's own (wip/tools/pprint.sh, over the kit's print, with given contracts): not typed by hand.
import Derived.Test.YtgdkikkjaofbfaaPx24
namespace Go.Proofs.Ytgdkikkjaofbfaa.P
open Go.RowKit Go.Proofs.YtgdkikkjaofbfaaW.PrintWords Go.Proofs.YtgdkikkjaofbfaaW.PrintLast
/-- What is left to prove of qj: with no program in it. -/
def qj.Stated : Prop := ∀ (a0 : ByteArray) (a1 : ByteArray) (a2 : Int) (a3 : Int), (a0.size ≤ 140737488351232) → (a1.size ≤ 140737488351232) → ((Lit.int .u64 a2).wf = true) → ((Lit.int .i64 a3).wf = true) → ∃ k, qj.f k a0 a1 a2 a3 = some true
end Go.Proofs.Ytgdkikkjaofbfaa.P
