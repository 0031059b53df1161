-- Printed by a program of this session's own (wip/tools/pprint.sh, over the kit's print, with given contracts): not typed by hand.
import Derived.Test.YtgdkikkjaofbfaaPx0
import Derived.Test.YtgdkikkjaofbfaaPx22
namespace Go.Proofs.Ytgdkikkjaofbfaa.P
open Go.RowKit Go.Proofs.YtgdkikkjaofbfaaW.PrintWords Go.Proofs.YtgdkikkjaofbfaaW.PrintLast Go.Proofs.YtgdkikkjaofbfaaW.PrintMore
attribute [local go_sem] max2_int min2_int max_two min_two max_three min_three max_four min_four   -- for this text's walks alone
set_option linter.unusedVariables false
set_option linter.unusedSimpArgs false
-- SQUEEZED4
-- SQUEEZED3

/-! ### screeref11_Table_From: function 24 -/
-- needs 53
set_option maxHeartbeats 6400000 in
set_option maxRecDepth 100000 in
theorem screeref11_Table_From.calls (g : Nat) (A : Option Addr) (c : Nat) (l : List (S37)) (F a1 : ByteArray) (a2 : Int) (r : List (S37)) (w : World) (hp : w.heap[g]? = some (.cells #[.slice A l.length c, .string F] 45 (0, 0))) (hC : Kd.C k37 w A l.length l) (hm : l.length < 1000000) (h : qK.f l a1 a2 = r) :
  Calls Try.prog 24 #[.pointer (some ⟨g, 0, none⟩), .string a1, .int .i64 a2] w fun e w' => ∃ v0_ : Value, e = .returned v0_ ∧ Kd.R k37 37 w' w.heap.size (fun _ => True) v0_ r ∧ Below w.heap.size w w' := by
 have hu2_ := Try.underlying90
 have BP := Aside0.mk hp
 have HC := Aside0.mk hC
 have HMX := Lib.hid hm
 have HF := Lib.hid h
 have d0_ : w.cell? ⟨g, 0, none⟩ = some (.slice A l.length c) := (blk_cell hp 0).trans rfl
 clear hp hC hm h
 go_enter Try.func24, Try.ntmps24
 go_upto_region 2 with (fail)
 clear d0_
 have B8 := Aside0.mk (blk_new w (.cells #[.slice A l.length c, .slice none 0 0] 90))
 have HB8 := Aside0.mk (below_alloc (Below.refl w.heap.size w) (.cells #[.slice A l.length c, .slice none 0 0] 90))
 generalize (w.alloc (.cells #[.slice A l.length c, .slice none 0 0] 90)) = w8 at B8 HB8 ⊢
 obtain ⟨g8, hg8⟩ : ∃ g8, w.heap.size = g8 := ⟨_, rfl⟩
 have B9 : Aside0 (w8.heap[g8]? = some (.cells #[.slice A l.length c, .slice none 0 0] 90 (0, 0))) := ⟨by rw [← hg8]; exact B8.out⟩
 clear B8
 rw [hg8]
 clear hg8
 go_wp2_with (fail)
 refine (qK.calls g8 A c l a1 a2 r _ B9.out (Kd.C_below HC.out HB8.out) HMX.out HF.out).mono ?_
 rintro e x ⟨v0_, rfl, hr, hb⟩
 have HB := Aside0.mk (below_step HB8.out hb)
 have HR := Aside0.mk (Kd.R_lower hr HB8.out.size)
 clear hb hr HB8 B9
 go_wp2
 go_ret
 exact ⟨_, rfl, Kd.R_mono HR.out (fun _ _ => trivial), HB.out⟩

end Go.Proofs.Ytgdkikkjaofbfaa.P
