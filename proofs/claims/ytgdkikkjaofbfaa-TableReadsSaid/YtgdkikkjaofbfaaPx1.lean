-- Printed by a program of this session's own (wip/tools/pprint.sh, over the kit's print, with given contracts): not typed by hand.
import Derived.Test.YtgdkikkjaofbfaaPx0
namespace Go.Proofs.Ytgdkikkjaofbfaa.P
open Go.RowKit Go.Proofs.YtgdkikkjaofbfaaW.PrintWords Go.Proofs.YtgdkikkjaofbfaaW.PrintLast Go.Proofs.YtgdkikkjaofbfaaW.PrintMore
attribute [local go_sem] max2_int min2_int max_two min_two max_three min_three max_four min_four   -- for this text's walks alone
set_option linter.unusedVariables false
set_option linter.unusedSimpArgs false
-- SQUEEZED4
-- SQUEEZED3

theorem eqA37 (d : Nat) (w : World) (x0 y0 : ByteArray) (x1 y1 : Int) (x2 y2 : Bool) (x3 y3 : ByteArray) :
  (Op.equalIn (d + 2) 37 (.agg #[.string x0, .int .u64 x1, .bool x2, .string x3]) (.agg #[.string y0, .int .u64 y1, .bool y2, .string y3])).run Try.prog w = .ok (x0.toList == y0.toList && (x1 == y1 && (x2 == y2 && (x3.toList == y3.toList)))) w := by
 refine eqA_of Try.underlying37 r2_ ?_
 refine eqf_cons r37_ (by go_simp; rfl) (by go_simp; rfl) (by go_simp) ?_
 refine eqf_cons r37_ (by go_simp; rfl) (by go_simp; rfl) (by go_simp) ?_
 refine eqf_cons r37_ (by go_simp; rfl) (by go_simp; rfl) (by go_simp) ?_
 exact eqf_last r37_ (by go_simp; rfl) (by go_simp; rfl) (by go_simp)
end Go.Proofs.Ytgdkikkjaofbfaa.P
