-- Printed by a program of this session's own (wip/tools/pprint.sh, over the kit's print, with given contracts): not typed by hand.
import Derived.Test.YtkdecekmnbbbhaaPx7
namespace Go.Proofs.Ytkdecekmnbbbhaa.P
open Go.RowKit Go.Proofs.YtkdecekmnbbbhaaW.PrintWords Go.Proofs.YtkdecekmnbbbhaaW.PrintLast
/-- What is left to prove of screelaw04_FrameTurned: with no program in it. -/
def screelaw04_FrameTurned.Stated : Prop := ∀ (a0 : ByteArray) (a1 : Int) (a2 : Int), (a0.size ≤ 140737488351232) → ((Lit.int .u16 a1).wf = true) → ((Lit.int .u8 a2).wf = true) → ∃ k, screelaw04_FrameTurned.f k a0 a1 a2 = some true
end Go.Proofs.Ytkdecekmnbbbhaa.P
