-- Printed by a program of this session's own (wip/tools/pprint.sh, over the kit's print, with given contracts): not typed by hand.
import Derived.Test.YteijlcnjnooiiaaPx0
namespace Go.Proofs.Yteijlcnjnooiiaa.P
open Go.RowKit Go.Proofs.YteijlcnjnooiiaaW.PrintWords Go.Proofs.YteijlcnjnooiiaaW.PrintLast Go.Proofs.YteijlcnjnooiiaaW.PrintMore
set_option linter.unusedVariables false
set_option linter.unusedSimpArgs false
-- SQUEEZED

theorem eqA24 (d : Nat) (w : World) (x0 y0 : ByteArray) (x1 y1 : Int) (x2 y2 : Int) (x3 y3 : Int) :
  (Op.equalIn (d + 2) 24 (.agg #[.string x0, .int .u64 x1, .int .i64 x2, .int .u64 x3]) (.agg #[.string y0, .int .u64 y1, .int .i64 y2, .int .u64 y3])).run Try.prog w = .ok (x0.toList == y0.toList && (x1 == y1 && (x2 == y2 && (x3 == y3)))) w := by
 refine eqA_of Try.underlying24 (by kernel_rfl) ?_
 refine eqf_cons (by rfl) (by go_simp; rfl) (by go_simp; rfl) (by go_simp) ?_
 refine eqf_cons (by rfl) (by go_simp; rfl) (by go_simp; rfl) (by go_simp) ?_
 refine eqf_cons (by rfl) (by go_simp; rfl) (by go_simp; rfl) (by go_simp) ?_
 exact eqf_last (by rfl) (by go_simp; rfl) (by go_simp; rfl) (by go_simp)
end Go.Proofs.Yteijlcnjnooiiaa.P
