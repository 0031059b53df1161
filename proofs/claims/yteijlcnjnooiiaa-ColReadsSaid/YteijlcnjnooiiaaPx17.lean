-- Printed by a program of this session's own (wip/tools/pprint.sh, over the kit's print, with given contracts): not typed by hand.
import Derived.Test.YteijlcnjnooiiaaPx0
import Derived.Test.YteijlcnjnooiiaaPx1
import Derived.Test.YteijlcnjnooiiaaPx2
import Derived.Test.YteijlcnjnooiiaaPx9
import Derived.Test.YteijlcnjnooiiaaPx10
import Derived.Test.YteijlcnjnooiiaaPx11
import Derived.Test.YteijlcnjnooiiaaPx13
import Derived.Test.YteijlcnjnooiiaaPx14
import Derived.Test.YteijlcnjnooiiaaPx16
namespace Go.Proofs.Yteijlcnjnooiiaa.P
open Go.RowKit Go.Proofs.YteijlcnjnooiiaaW.PrintWords Go.Proofs.YteijlcnjnooiiaaW.PrintLast Go.Proofs.YteijlcnjnooiiaaW.PrintMore
set_option linter.unusedVariables false
set_option linter.unusedSimpArgs false
-- SQUEEZED

attribute [local go_sem high] eqA24 eqA26
/-! ### screelaw15_ColReads: function 4 -/
mutual
def screelaw15_ColReads.j0 : Nat → ByteArray → Bool → Option (Bool)
 | 0, _, _ => none
 | k + 1, x0, x37 => if x37 = true then (none) else ((col_Unwrite.f k x0).bind fun bt249 => ((screeref15_Unwrite.f k x0).bind fun bt253 => (if (!(bt249.1 == bt253.1) || (!(bt249.2.1 == bt253.2.1))) = true then (screelaw15_ColReads.j1 k x0 true) else (screelaw15_ColReads.j1 k x0 (bt249.2.2 != bt253.2.2)))))
def screelaw15_ColReads.j1 : Nat → ByteArray → Bool → Option (Bool)
 | 0, _, _ => none
 | k + 1, x0, x55 => if x55 = true then (none) else ((col_Unlease.f k x0).bind fun bt257 => ((screeref15_Unlease.f k x0).bind fun bt261 => ((screelaw15_own.f k bt257.1).bind fun t265 => ((screeref15_Same.f k t265 bt261.1).bind fun t268 => (if t268 = true then (some (bt257.2 == bt261.2)) else (none))))))
end
def screelaw15_ColReads.f (k : Nat) (a0 : ByteArray) : Option (Bool) := (screelaw15_awake.f k).bind fun t236 => (if t236 = true then (if (a0.size : Int) > 1024 then (some true) else ((col_Unlock.f k a0).bind fun bt237 => ((screeref15_Unlock.f k a0).bind fun bt243 => (if (!(bt237.1.toList == bt243.1.toList) || (!(bt237.2.1 == bt243.2.1) || (!(bt237.2.2.1 == bt243.2.2.1) || (!(bt237.2.2.2.1 == bt243.2.2.2.1))))) = true then (screelaw15_ColReads.j0 k a0 true) else (screelaw15_ColReads.j0 k a0 (bt237.2.2.2.2 != bt243.2.2.2.2)))))) else (none))
theorem screelaw15_ColReads.mono_l : ∀ k, (∀ y0 y1, LeO (screelaw15_ColReads.j0 k y0 y1) (screelaw15_ColReads.j0 (k + 1) y0 y1)) ∧ (∀ y0 y1, LeO (screelaw15_ColReads.j1 k y0 y1) (screelaw15_ColReads.j1 (k + 1) y0 y1))
 | 0 => ⟨fun _ _ r h => by simp [screelaw15_ColReads.j0] at h, fun _ _ r h => by simp [screelaw15_ColReads.j1] at h⟩
 | k + 1 => by
  obtain ⟨ih0, ih1⟩ := screelaw15_ColReads.mono_l k
  refine ⟨?_, ?_⟩
  ·intro y0 y1
   unfold screelaw15_ColReads.j0
   repeat' first
   | (with_reducible exact ih0 _ _)
   | (with_reducible exact ih1 _ _)
   | (with_reducible exact col_Unlease.mono _ _)
   | (with_reducible exact col_Unlock.mono _ _)
   | (with_reducible exact col_Unwrite.mono _ _)
   | (with_reducible exact screelaw15_awake.mono _)
   | (with_reducible exact screelaw15_own.mono _ _)
   | (with_reducible exact screeref15_Same.mono _ _ _)
   | (with_reducible exact screeref15_Unlease.mono _ _)
   | (with_reducible exact screeref15_Unlock.mono _ _)
   | (with_reducible exact screeref15_Unwrite.mono _ _)
   | (with_reducible exact LeO.refl _)
   | (with_reducible exact LeO.none _)
   | (with_reducible refine LeO.ite ?_ ?_)
   | (with_reducible refine LeO.bind ?_ (fun _ => ?_))
   | exact ih0 _ _
   | exact ih1 _ _
   | exact col_Unlease.mono _ _
   | exact col_Unlock.mono _ _
   | exact col_Unwrite.mono _ _
   | exact screelaw15_awake.mono _
   | exact screelaw15_own.mono _ _
   | exact screeref15_Same.mono _ _ _
   | exact screeref15_Unlease.mono _ _
   | exact screeref15_Unlock.mono _ _
   | exact screeref15_Unwrite.mono _ _
   | exact LeO.none _
   | refine LeO.ite ?_ ?_
   | refine LeO.bind ?_ (fun _ => ?_)
  ·intro y0 y1
   unfold screelaw15_ColReads.j1
   repeat' first
   | (with_reducible exact ih0 _ _)
   | (with_reducible exact ih1 _ _)
   | (with_reducible exact col_Unlease.mono _ _)
   | (with_reducible exact col_Unlock.mono _ _)
   | (with_reducible exact col_Unwrite.mono _ _)
   | (with_reducible exact screelaw15_awake.mono _)
   | (with_reducible exact screelaw15_own.mono _ _)
   | (with_reducible exact screeref15_Same.mono _ _ _)
   | (with_reducible exact screeref15_Unlease.mono _ _)
   | (with_reducible exact screeref15_Unlock.mono _ _)
   | (with_reducible exact screeref15_Unwrite.mono _ _)
   | (with_reducible exact LeO.refl _)
   | (with_reducible exact LeO.none _)
   | (with_reducible refine LeO.ite ?_ ?_)
   | (with_reducible refine LeO.bind ?_ (fun _ => ?_))
   | exact ih0 _ _
   | exact ih1 _ _
   | exact col_Unlease.mono _ _
   | exact col_Unlock.mono _ _
   | exact col_Unwrite.mono _ _
   | exact screelaw15_awake.mono _
   | exact screelaw15_own.mono _ _
   | exact screeref15_Same.mono _ _ _
   | exact screeref15_Unlease.mono _ _
   | exact screeref15_Unlock.mono _ _
   | exact screeref15_Unwrite.mono _ _
   | exact LeO.none _
   | refine LeO.ite ?_ ?_
   | refine LeO.bind ?_ (fun _ => ?_)
theorem screelaw15_ColReads.mono : ∀ a0 k, LeO (screelaw15_ColReads.f k a0) (screelaw15_ColReads.f (k + 1) a0) := by
 intro a0 k
 obtain ⟨ih0, ih1⟩ := screelaw15_ColReads.mono_l k
 unfold screelaw15_ColReads.f
 repeat' first
   | (with_reducible exact ih0 _ _)
   | (with_reducible exact ih1 _ _)
   | (with_reducible exact col_Unlease.mono _ _)
   | (with_reducible exact col_Unlock.mono _ _)
   | (with_reducible exact col_Unwrite.mono _ _)
   | (with_reducible exact screelaw15_awake.mono _)
   | (with_reducible exact screelaw15_own.mono _ _)
   | (with_reducible exact screeref15_Same.mono _ _ _)
   | (with_reducible exact screeref15_Unlease.mono _ _)
   | (with_reducible exact screeref15_Unlock.mono _ _)
   | (with_reducible exact screeref15_Unwrite.mono _ _)
   | (with_reducible exact LeO.refl _)
   | (with_reducible exact LeO.none _)
   | (with_reducible refine LeO.ite ?_ ?_)
   | (with_reducible refine LeO.bind ?_ (fun _ => ?_))
   | exact ih0 _ _
   | exact ih1 _ _
   | exact col_Unlease.mono _ _
   | exact col_Unlock.mono _ _
   | exact col_Unwrite.mono _ _
   | exact screelaw15_awake.mono _
   | exact screelaw15_own.mono _ _
   | exact screeref15_Same.mono _ _ _
   | exact screeref15_Unlease.mono _ _
   | exact screeref15_Unlock.mono _ _
   | exact screeref15_Unwrite.mono _ _
   | exact LeO.none _
   | refine LeO.ite ?_ ?_
   | refine LeO.bind ?_ (fun _ => ?_)
set_option maxHeartbeats 8000000 in
set_option maxRecDepth 100000 in
theorem screelaw15_ColReads.calls (k : Nat) (a0 : ByteArray) (r : Bool) (w : World) (h : screelaw15_ColReads.f k a0 = some r) :
  Calls Try.prog 4 #[.string a0] w fun e w' => e = .returned (.bool r) ∧ Below w.heap.size w w' := by
 have hu24 := Try.underlying24
 have hu26 := Try.underlying26
 have HB := Aside0.mk (Below.refl w.heap.size w)
 have H : ((screelaw15_awake.f k).bind fun t236 => (if t236 = true then (if (a0.size : Int) > 1024 then (some true) else ((col_Unlock.f k a0).bind fun bt237 => ((screeref15_Unlock.f k a0).bind fun bt243 => (if (!(bt237.1.toList == bt243.1.toList) || (!(bt237.2.1 == bt243.2.1) || (!(bt237.2.2.1 == bt243.2.2.1) || (!(bt237.2.2.2.1 == bt243.2.2.2.1))))) = true then (screelaw15_ColReads.j0 k a0 true) else (screelaw15_ColReads.j0 k a0 (bt237.2.2.2.2 != bt243.2.2.2.2)))))) else (none))) = some r := h
 clear h
 replace H := Option.bind_eq_some_iff.mp H
 obtain ⟨t236, A20, H⟩ := H
 try dsimp only at H
 have A2 := Aside0.mk A20
 clear A20
 by_cases c3 : t236 = true
 ·subst c3
  have H1 : (if (a0.size : Int) > 1024 then (some true) else ((col_Unlock.f k a0).bind fun bt237 => ((screeref15_Unlock.f k a0).bind fun bt243 => (if (!(bt237.1.toList == bt243.1.toList) || (!(bt237.2.1 == bt243.2.1) || (!(bt237.2.2.1 == bt243.2.2.1) || (!(bt237.2.2.2.1 == bt243.2.2.2.1))))) = true then (screelaw15_ColReads.j0 k a0 true) else (screelaw15_ColReads.j0 k a0 (bt237.2.2.2.2 != bt243.2.2.2.2)))))) = some r := by rw [if_pos rfl] at H; exact H
  clear H
  have H := H1
  clear H1
  by_cases c4 : (a0.size : Int) > 1024
  ·rw [if_pos c4] at H
   have c4b0 : decide (1024 < (a0.size : Int)) = true := decide_eq_true c4
   have c4b1 : decide (1024 < a0.size) = true := decide_eq_true (by omega)
   clear c4
   obtain rfl := Option.some.inj H
   go_enter Try.func4, Try.ntmps4
   go_wp2_with (first | ((with_reducible refine gate_callee (f := 10) rfl ?_); refine goesL_ (some 15) rfl rfl Try.func10 (by kernel_rfl) rfl #[] rfl hA_ ?_; (with_reducible refine (screelaw15_awake.calls k  true _ A2.out).mono ?_); rintro e w5 ⟨rfl, hb⟩; refine ⟨_, rfl, ?_⟩; have n0_ := Aside0.mk (below_step hB_ hb); clear HB; have HB := n0_; clear n0_; (try clear hb); (try clear hb2); (try clear hk); (try clear hi); (try clear A2)))
   go_ret
   exact ⟨rf_, hB_⟩
  ·rw [if_neg c4] at H
   have c4b0 : decide (1024 < (a0.size : Int)) = false := decide_eq_false c4
   have c4b1 : decide (1024 < a0.size) = false := decide_eq_false (by omega)
   clear c4
   replace H := Option.bind_eq_some_iff.mp H
   obtain ⟨⟨t237, t238, t239, t240, t241⟩, A60, H⟩ := H
   try dsimp only at H
   have A6 := Aside0.mk A60
   clear A60
   replace H := Option.bind_eq_some_iff.mp H
   obtain ⟨⟨t243, t244, t245, t246, t247⟩, A70, H⟩ := H
   try dsimp only at H
   have A7 := Aside0.mk A70
   clear A70
   have HC8 := Aside0.mk H
   clear H
   go_enter Try.func4, Try.ntmps4
   go_upto_region 7 with (first | ((with_reducible refine gate_callee (f := 10) rfl ?_); refine goesL_ (some 15) rfl rfl Try.func10 (by kernel_rfl) rfl #[] rfl hA_ ?_; (with_reducible refine (screelaw15_awake.calls k  true _ A2.out).mono ?_); rintro e w9 ⟨rfl, hb⟩; refine ⟨_, rfl, ?_⟩; have n0_ := Aside0.mk (below_step hB_ hb); clear HB; have HB := n0_; clear n0_; (try clear hb); (try clear hb2); (try clear hk); (try clear hi); (try clear A2)) | ((with_reducible refine gate_callee (f := 18) rfl ?_); refine goesL_ (some 22) rfl rfl Try.func18 (by kernel_rfl) rfl #[.string a0] rfl hA_ ?_; (with_reducible refine (col_Unlock.calls k a0 t237 t238 t239 t240 t241 _ A6.out).mono ?_); rintro e w10 ⟨rfl, hb⟩; refine ⟨_, rfl, ?_⟩; have n0_ := Aside0.mk (below_step hB_ hb); clear HB; have HB := n0_; clear n0_; (try clear hb); (try clear hb2); (try clear hk); (try clear hi); (try clear A6)) | ((with_reducible refine gate_dst (N := 3) rfl ?_); refine box_event ?hg (N := 3) ?hd (cs := #[.string (⟨#[]⟩ : ByteArray), .int .u64 0, .int .i64 0, .int .u64 0]) (t := 24) ?hr ?_; (case hd => rfl); (case hg => rfl); (case hr => first | (go_simp; done) | (go_simp; rfl)); intro gb242 hg w11 hbox hb; have n0_ := Aside0.mk (below_step hB_ hb); have n1_ := Aside0.mk (hbox); have n2_ := Aside0.mk ((by rw [hg]; exact (below_size hB_) : w.heap.size ≤ gb242)); have n3_ := Aside0.mk ((by rw [hg]; exact (below_size hB_) : w.heap.size ≤ gb242)); clear HB; have HB := n0_; have BK242 := n1_; have GW242 := n2_; have GE242 := n3_; clear n0_ n1_ n2_ n3_; clear hb hbox hg; have hcz12_0 : w11.cell? ⟨gb242, 0, none⟩ = some (.string (⟨#[]⟩ : ByteArray)) := (blk_cell BK242.out 0).trans rfl; have hcz12_1 : w11.cell? ⟨gb242, 1, none⟩ = some (.int .u64 0) := (blk_cell BK242.out 1).trans rfl; have hcz12_2 : w11.cell? ⟨gb242, 2, none⟩ = some (.int .i64 0) := (blk_cell BK242.out 2).trans rfl; have hcz12_3 : w11.cell? ⟨gb242, 3, none⟩ = some (.int .u64 0) := (blk_cell BK242.out 3).trans rfl; have hfz12_0 := blk_frozen BK242.out 0; have hfz12_1 := blk_frozen BK242.out 1; have hfz12_2 := blk_frozen BK242.out 2; have hfz12_3 := blk_frozen BK242.out 3) | ((with_reducible refine gate_callee (f := 19) rfl ?_); refine goesL_ (some 27) rfl rfl Try.func19 (by kernel_rfl) rfl #[.string a0] rfl hA_ ?_; (with_reducible refine (screeref15_Unlock.calls k a0 t243 t244 t245 t246 t247 _ A7.out).mono ?_); rintro e w13 ⟨rfl, hb⟩; refine ⟨_, rfl, ?_⟩; have n0_ := Aside0.mk (blk_below (g := gb242) (o := .cells #[.string t237, .int .u64 t238, .int .i64 t239, .int .u64 t240] 24 (0, 0)) (by (with_reducible repeat (first | refine blk_drewN ?_ _ | refine blk_drew ?_ | refine blk_alloc ?_ _)); refine blk_put (cs := #[.string t237, .int .u64 t238, .int .i64 t239, .int .u64 0]) ?_ 3 _ rfl; (with_reducible repeat (first | refine blk_drewN ?_ _ | refine blk_drew ?_ | refine blk_alloc ?_ _)); refine blk_put (cs := #[.string t237, .int .u64 t238, .int .i64 0, .int .u64 0]) ?_ 2 _ rfl; (with_reducible repeat (first | refine blk_drewN ?_ _ | refine blk_drew ?_ | refine blk_alloc ?_ _)); refine blk_put (cs := #[.string t237, .int .u64 0, .int .i64 0, .int .u64 0]) ?_ 1 _ rfl; (with_reducible repeat (first | refine blk_drewN ?_ _ | refine blk_drew ?_ | refine blk_alloc ?_ _)); refine blk_put (cs := #[.string (⟨#[]⟩ : ByteArray), .int .u64 0, .int .i64 0, .int .u64 0]) ?_ 0 _ rfl; (with_reducible repeat (first | refine blk_drewN ?_ _ | refine blk_drew ?_ | refine blk_alloc ?_ _)); exact BK242.out) hb); have n1_ := Aside0.mk (below_step (by repeat (first | (with_reducible first | exact HB.out | apply below_alloc | apply pw_below_drewN | apply below_drew1 | refine below_set ?_ GE242.out) | exact HB.out)) hb); clear BK242; clear HB; have BK242 := n0_; have HB := n1_; clear n0_ n1_; (try clear hb); (try clear hb2); (try clear hk); (try clear hi); (try clear A7)) | ((with_reducible refine gate_dst (N := 5) rfl ?_); refine box_event ?hg (N := 5) ?hd (cs := #[.string (⟨#[]⟩ : ByteArray), .int .u64 0, .int .i64 0, .int .u64 0]) (t := 24) ?hr ?_; (case hd => rfl); (case hg => rfl); (case hr => first | (go_simp; done) | (go_simp; rfl)); intro gb248 hg w14 hbox hb; have n0_ := Aside0.mk (blk_below (g := gb242) (o := .cells #[.string t237, .int .u64 t238, .int .i64 t239, .int .u64 t240] 24 (0, 0)) (by (with_reducible repeat (first | refine blk_drewN ?_ _ | refine blk_drew ?_ | refine blk_alloc ?_ _)); exact BK242.out) hb); have n1_ := Aside0.mk (below_step (by repeat (first | (with_reducible first | exact HB.out | apply below_alloc | apply pw_below_drewN | apply below_drew1 | refine below_set ?_ GE242.out) | exact HB.out)) hb); have n2_ := Aside0.mk (hbox); have n3_ := Aside0.mk ((by rw [hg]; exact (below_size (by repeat (first | (with_reducible first | exact HB.out | apply below_alloc | apply pw_below_drewN | apply below_drew1 | refine below_set ?_ GE242.out) | exact HB.out))) : w.heap.size ≤ gb248)); have n4_ := Aside0.mk ((by rw [hg]; exact (below_size (by repeat (first | (with_reducible first | exact HB.out | apply below_alloc | apply pw_below_drewN | apply below_drew1 | refine below_set ?_ GE242.out) | exact HB.out))) : w.heap.size ≤ gb248)); have n5_ := Aside0.mk ((by rw [hg]; exact Nat.ne_of_lt (blk_lt (g := gb242) (o := .cells #[.string t237, .int .u64 t238, .int .i64 t239, .int .u64 t240] 24 (0, 0)) (by (with_reducible repeat (first | refine blk_drewN ?_ _ | refine blk_drew ?_ | refine blk_alloc ?_ _)); exact BK242.out)) : gb242 ≠ gb248)); have n6_ := Aside0.mk ((by rw [hg]; exact Nat.ne_of_gt (blk_lt (g := gb242) (o := .cells #[.string t237, .int .u64 t238, .int .i64 t239, .int .u64 t240] 24 (0, 0)) (by (with_reducible repeat (first | refine blk_drewN ?_ _ | refine blk_drew ?_ | refine blk_alloc ?_ _)); exact BK242.out)) : gb248 ≠ gb242)); clear BK242; clear HB; have BK242 := n0_; have HB := n1_; have BK248 := n2_; have GW248 := n3_; have GE248 := n4_; have NB242_248 := n5_; have NB248_242 := n6_; clear n0_ n1_ n2_ n3_ n4_ n5_ n6_; clear hb hbox hg; have hnb15 := NB248_242.out; have hnc15 := NB242_248.out; have hcz16_0 : w14.cell? ⟨gb248, 0, none⟩ = some (.string (⟨#[]⟩ : ByteArray)) := (blk_cell BK248.out 0).trans rfl; have hcz16_1 : w14.cell? ⟨gb248, 1, none⟩ = some (.int .u64 0) := (blk_cell BK248.out 1).trans rfl; have hcz16_2 : w14.cell? ⟨gb248, 2, none⟩ = some (.int .i64 0) := (blk_cell BK248.out 2).trans rfl; have hcz16_3 : w14.cell? ⟨gb248, 3, none⟩ = some (.int .u64 0) := (blk_cell BK248.out 3).trans rfl; have hfz16_0 := blk_frozen BK248.out 0; have hfz16_1 := blk_frozen BK248.out 1; have hfz16_2 := blk_frozen BK248.out 2; have hfz16_3 := blk_frozen BK248.out 3))
   (try simp only [Act.put, List.setIfInBounds_toArray, List.set_cons_zero, List.set_cons_succ])
   go_cut [37] (fun v37 wc => ∃ (kq : Nat) (x37_7 : Bool), v37 = .bool x37_7 ∧ Aside0 (screelaw15_ColReads.j0 kq a0 x37_7 = some r) ∧ Aside0 (kq ≤ k) ∧ Aside0 (wc.heap[gb242]? = some (.cells #[.string t237, .int .u64 t238, .int .i64 t239, .int .u64 t240] 24 (0, 0))) ∧ Aside0 (wc.heap[gb248]? = some (.cells #[.string t243, .int .u64 t244, .int .i64 t245, .int .u64 t246] 24 (0, 0))) ∧ Aside0 (Below w.heap.size w wc))
   case first =>
    have H := HC8.out
    clear HC8
    by_cases c17 : (!(t237.toList == t243.toList) || (!(t238 == t244) || (!(t239 == t245) || (!(t240 == t246))))) = true
    ·rw [if_pos c17] at H
     have c17b0 : (!(t237.toList == t243.toList) || (!(t238 == t244) || (!(t239 == t245) || (!(t240 == t246))))) = true := c17
     clear c17
     (first | rw [c17b0] | (simp only [i64_w, i32_w]; rw [c17b0]) | skip)
     have H' := Aside0.mk H
     clear H
     have hnb18 := NB242_248.out
     have hnc18 := NB248_242.out
     have hcz19_0 : w14.cell? ⟨gb242, 0, none⟩ = some (.string t237) := (blk_cell BK242.out 0).trans rfl
     have hcz19_1 : w14.cell? ⟨gb242, 1, none⟩ = some (.int .u64 t238) := (blk_cell BK242.out 1).trans rfl
     have hcz19_2 : w14.cell? ⟨gb242, 2, none⟩ = some (.int .i64 t239) := (blk_cell BK242.out 2).trans rfl
     have hcz19_3 : w14.cell? ⟨gb242, 3, none⟩ = some (.int .u64 t240) := (blk_cell BK242.out 3).trans rfl
     have hfz19_0 := blk_frozen BK242.out 0
     have hfz19_1 := blk_frozen BK242.out 1
     have hfz19_2 := blk_frozen BK242.out 2
     have hfz19_3 := blk_frozen BK242.out 3
     have hcz20_0 : w14.cell? ⟨gb248, 0, none⟩ = some (.string (⟨#[]⟩ : ByteArray)) := (blk_cell BK248.out 0).trans rfl
     have hcz20_1 : w14.cell? ⟨gb248, 1, none⟩ = some (.int .u64 0) := (blk_cell BK248.out 1).trans rfl
     have hcz20_2 : w14.cell? ⟨gb248, 2, none⟩ = some (.int .i64 0) := (blk_cell BK248.out 2).trans rfl
     have hcz20_3 : w14.cell? ⟨gb248, 3, none⟩ = some (.int .u64 0) := (blk_cell BK248.out 3).trans rfl
     have hfz20_0 := blk_frozen BK248.out 0
     have hfz20_1 := blk_frozen BK248.out 1
     have hfz20_2 := blk_frozen BK248.out 2
     have hfz20_3 := blk_frozen BK248.out 3
     go_wp2
     go_meet
     case rel => exact ⟨_, (true), rs_, hH_, ⟨by first | omega | exact Nat.le_refl _⟩, ⟨by (with_reducible repeat (first | refine blk_drewN ?_ _ | refine blk_drew ?_ | refine blk_alloc ?_ _)); refine blk_far ?_ NB242_248.out _; (with_reducible repeat (first | refine blk_drewN ?_ _ | refine blk_drew ?_ | refine blk_alloc ?_ _)); refine blk_far ?_ NB242_248.out _; (with_reducible repeat (first | refine blk_drewN ?_ _ | refine blk_drew ?_ | refine blk_alloc ?_ _)); refine blk_far ?_ NB242_248.out _; (with_reducible repeat (first | refine blk_drewN ?_ _ | refine blk_drew ?_ | refine blk_alloc ?_ _)); refine blk_far ?_ NB242_248.out _; (with_reducible repeat (first | refine blk_drewN ?_ _ | refine blk_drew ?_ | refine blk_alloc ?_ _)); exact BK242.out⟩, ⟨by (with_reducible repeat (first | refine blk_drewN ?_ _ | refine blk_drew ?_ | refine blk_alloc ?_ _)); refine blk_put (cs := #[.string t243, .int .u64 t244, .int .i64 t245, .int .u64 0]) ?_ 3 _ rfl; (with_reducible repeat (first | refine blk_drewN ?_ _ | refine blk_drew ?_ | refine blk_alloc ?_ _)); refine blk_put (cs := #[.string t243, .int .u64 t244, .int .i64 0, .int .u64 0]) ?_ 2 _ rfl; (with_reducible repeat (first | refine blk_drewN ?_ _ | refine blk_drew ?_ | refine blk_alloc ?_ _)); refine blk_put (cs := #[.string t243, .int .u64 0, .int .i64 0, .int .u64 0]) ?_ 1 _ rfl; (with_reducible repeat (first | refine blk_drewN ?_ _ | refine blk_drew ?_ | refine blk_alloc ?_ _)); refine blk_put (cs := #[.string (⟨#[]⟩ : ByteArray), .int .u64 0, .int .i64 0, .int .u64 0]) ?_ 0 _ rfl; (with_reducible repeat (first | refine blk_drewN ?_ _ | refine blk_drew ?_ | refine blk_alloc ?_ _)); exact BK248.out⟩, ⟨by repeat (first | (with_reducible first | exact HB.out | apply below_alloc | apply pw_below_drewN | apply below_drew1 | refine below_set ?_ GE242.out | refine below_set ?_ GE248.out) | exact HB.out)⟩⟩
    ·rw [if_neg c17] at H
     have c17b0 : (!(t237.toList == t243.toList) || (!(t238 == t244) || (!(t239 == t245) || (!(t240 == t246))))) = false := by simpa using c17
     clear c17
     (first | rw [c17b0] | (simp only [i64_w, i32_w]; rw [c17b0]) | skip)
     have H' := Aside0.mk H
     clear H
     have hnb21 := NB242_248.out
     have hnc21 := NB248_242.out
     have hcz22_0 : w14.cell? ⟨gb242, 0, none⟩ = some (.string t237) := (blk_cell BK242.out 0).trans rfl
     have hcz22_1 : w14.cell? ⟨gb242, 1, none⟩ = some (.int .u64 t238) := (blk_cell BK242.out 1).trans rfl
     have hcz22_2 : w14.cell? ⟨gb242, 2, none⟩ = some (.int .i64 t239) := (blk_cell BK242.out 2).trans rfl
     have hcz22_3 : w14.cell? ⟨gb242, 3, none⟩ = some (.int .u64 t240) := (blk_cell BK242.out 3).trans rfl
     have hfz22_0 := blk_frozen BK242.out 0
     have hfz22_1 := blk_frozen BK242.out 1
     have hfz22_2 := blk_frozen BK242.out 2
     have hfz22_3 := blk_frozen BK242.out 3
     have hcz23_0 : w14.cell? ⟨gb248, 0, none⟩ = some (.string (⟨#[]⟩ : ByteArray)) := (blk_cell BK248.out 0).trans rfl
     have hcz23_1 : w14.cell? ⟨gb248, 1, none⟩ = some (.int .u64 0) := (blk_cell BK248.out 1).trans rfl
     have hcz23_2 : w14.cell? ⟨gb248, 2, none⟩ = some (.int .i64 0) := (blk_cell BK248.out 2).trans rfl
     have hcz23_3 : w14.cell? ⟨gb248, 3, none⟩ = some (.int .u64 0) := (blk_cell BK248.out 3).trans rfl
     have hfz23_0 := blk_frozen BK248.out 0
     have hfz23_1 := blk_frozen BK248.out 1
     have hfz23_2 := blk_frozen BK248.out 2
     have hfz23_3 := blk_frozen BK248.out 3
     go_wp2
     go_meet
     case rel => exact ⟨_, ((t241 != t247)), rs_, hH_, ⟨by first | omega | exact Nat.le_refl _⟩, ⟨by (with_reducible repeat (first | refine blk_drewN ?_ _ | refine blk_drew ?_ | refine blk_alloc ?_ _)); refine blk_far ?_ NB242_248.out _; (with_reducible repeat (first | refine blk_drewN ?_ _ | refine blk_drew ?_ | refine blk_alloc ?_ _)); refine blk_far ?_ NB242_248.out _; (with_reducible repeat (first | refine blk_drewN ?_ _ | refine blk_drew ?_ | refine blk_alloc ?_ _)); refine blk_far ?_ NB242_248.out _; (with_reducible repeat (first | refine blk_drewN ?_ _ | refine blk_drew ?_ | refine blk_alloc ?_ _)); refine blk_far ?_ NB242_248.out _; (with_reducible repeat (first | refine blk_drewN ?_ _ | refine blk_drew ?_ | refine blk_alloc ?_ _)); exact BK242.out⟩, ⟨by (with_reducible repeat (first | refine blk_drewN ?_ _ | refine blk_drew ?_ | refine blk_alloc ?_ _)); refine blk_put (cs := #[.string t243, .int .u64 t244, .int .i64 t245, .int .u64 0]) ?_ 3 _ rfl; (with_reducible repeat (first | refine blk_drewN ?_ _ | refine blk_drew ?_ | refine blk_alloc ?_ _)); refine blk_put (cs := #[.string t243, .int .u64 t244, .int .i64 0, .int .u64 0]) ?_ 2 _ rfl; (with_reducible repeat (first | refine blk_drewN ?_ _ | refine blk_drew ?_ | refine blk_alloc ?_ _)); refine blk_put (cs := #[.string t243, .int .u64 0, .int .i64 0, .int .u64 0]) ?_ 1 _ rfl; (with_reducible repeat (first | refine blk_drewN ?_ _ | refine blk_drew ?_ | refine blk_alloc ?_ _)); refine blk_put (cs := #[.string (⟨#[]⟩ : ByteArray), .int .u64 0, .int .i64 0, .int .u64 0]) ?_ 0 _ rfl; (with_reducible repeat (first | refine blk_drewN ?_ _ | refine blk_drew ?_ | refine blk_alloc ?_ _)); exact BK248.out⟩, ⟨by repeat (first | (with_reducible first | exact HB.out | apply below_alloc | apply pw_below_drewN | apply below_drew1 | refine below_set ?_ GE242.out | refine below_set ?_ GE248.out) | exact HB.out)⟩⟩
   case rest =>
    clear HC8
    try clear c1
    try clear c2
    try clear p2
    try clear c3
    try clear c4
    try clear c4b0
    try clear c4b1
    try clear c10
    try clear c15
    try clear c17
    try clear c17b0
    try clear c18
    try clear c19
    try clear c21
    try clear hcz12_0
    try clear hcz12_1
    try clear hcz12_2
    try clear hcz12_3
    try clear hcz16_0
    try clear hcz16_1
    try clear hcz16_2
    try clear hcz16_3
    try clear hcz19_0
    try clear hcz19_1
    try clear hcz19_2
    try clear hcz19_3
    try clear hcz20_0
    try clear hcz20_1
    try clear hcz20_2
    try clear hcz20_3
    try clear hcz22_0
    try clear hcz22_1
    try clear hcz22_2
    try clear hcz22_3
    try clear hcz23_0
    try clear hcz23_1
    try clear hcz23_2
    try clear hcz23_3
    try clear hfz12_0
    try clear hfz12_1
    try clear hfz12_2
    try clear hfz12_3
    try clear hfz16_0
    try clear hfz16_1
    try clear hfz16_2
    try clear hfz16_3
    try clear hfz19_0
    try clear hfz19_1
    try clear hfz19_2
    try clear hfz19_3
    try clear hfz20_0
    try clear hfz20_1
    try clear hfz20_2
    try clear hfz20_3
    try clear hfz22_0
    try clear hfz22_1
    try clear hfz22_2
    try clear hfz22_3
    try clear hfz23_0
    try clear hfz23_1
    try clear hfz23_2
    try clear hfz23_3
    obtain ⟨kq, x37_7, rfl, HA, HJ7, BK242, BK248, HB⟩ := hcut
    cases kq with
    | zero => exact absurd HA.out (by simp [screelaw15_ColReads.j0])
    | succ kj7 =>
     have H := HA.out
     clear HA
     simp only [screelaw15_ColReads.j0] at H
     by_cases c24 : x37_7 = true
     ·subst c24
      have H1 : (none) = some r := by rw [if_pos rfl] at H; exact H
      clear H
      have H := H1
      clear H1
      exact absurd H (by simp)
     ·replace c24 := Bool.eq_false_iff.mpr c24
      subst c24
      have H1 : ((col_Unwrite.f kj7 a0).bind fun bt249 => ((screeref15_Unwrite.f kj7 a0).bind fun bt253 => (if (!(bt249.1 == bt253.1) || (!(bt249.2.1 == bt253.2.1))) = true then (screelaw15_ColReads.j1 kj7 a0 true) else (screelaw15_ColReads.j1 kj7 a0 (bt249.2.2 != bt253.2.2))))) = some r := by rw [if_neg (show ¬ (false = true) by decide)] at H; exact H
      clear H
      have H := H1
      clear H1
      replace H := Option.bind_eq_some_iff.mp H
      obtain ⟨⟨t249, t250, t251⟩, A250, H⟩ := H
      try dsimp only at H
      have A25 := Aside0.mk A250
      clear A250
      replace H := Option.bind_eq_some_iff.mp H
      obtain ⟨⟨t253, t254, t255⟩, A260, H⟩ := H
      try dsimp only at H
      have A26 := Aside0.mk A260
      clear A260
      have HC27 := Aside0.mk H
      clear H
      go_upto_region 11 with (first | ((with_reducible refine gate_callee (f := 20) rfl ?_); refine goesL_ (some 40) rfl rfl Try.func20 (by kernel_rfl) rfl #[.string a0] rfl hA_ ?_; (with_reducible refine (col_Unwrite.calls kj7 a0 t249 t250 t251 _ A25.out).mono ?_); rintro e w28 ⟨rfl, hb⟩; refine ⟨_, rfl, ?_⟩; have n0_ := Aside0.mk (blk_below (g := gb242) (o := .cells #[.string t237, .int .u64 t238, .int .i64 t239, .int .u64 t240] 24 (0, 0)) (by (with_reducible repeat (first | refine blk_drewN ?_ _ | refine blk_drew ?_ | refine blk_alloc ?_ _)); exact BK242.out) hb); have n1_ := Aside0.mk (blk_below (g := gb248) (o := .cells #[.string t243, .int .u64 t244, .int .i64 t245, .int .u64 t246] 24 (0, 0)) (by (with_reducible repeat (first | refine blk_drewN ?_ _ | refine blk_drew ?_ | refine blk_alloc ?_ _)); exact BK248.out) hb); have n2_ := Aside0.mk (below_step (by repeat (first | (with_reducible first | exact HB.out | apply below_alloc | apply pw_below_drewN | apply below_drew1 | refine below_set ?_ GE242.out | refine below_set ?_ GE248.out) | exact HB.out)) hb); clear BK242; clear BK248; clear HB; have BK242 := n0_; have BK248 := n1_; have HB := n2_; clear n0_ n1_ n2_; (try clear hb); (try clear hb2); (try clear hk); (try clear hi); (try clear A25)) | ((with_reducible refine gate_dst (N := 7) rfl ?_); refine box_event ?hg (N := 7) ?hd (cs := #[.int .u64 0, .int .i64 0]) (t := 26) ?hr ?_; (case hd => rfl); (case hg => rfl); (case hr => first | (go_simp; done) | (go_simp; rfl)); intro gb252 hg w29 hbox hb; have n0_ := Aside0.mk (blk_below (g := gb242) (o := .cells #[.string t237, .int .u64 t238, .int .i64 t239, .int .u64 t240] 24 (0, 0)) (by (with_reducible repeat (first | refine blk_drewN ?_ _ | refine blk_drew ?_ | refine blk_alloc ?_ _)); exact BK242.out) hb); have n1_ := Aside0.mk (blk_below (g := gb248) (o := .cells #[.string t243, .int .u64 t244, .int .i64 t245, .int .u64 t246] 24 (0, 0)) (by (with_reducible repeat (first | refine blk_drewN ?_ _ | refine blk_drew ?_ | refine blk_alloc ?_ _)); exact BK248.out) hb); have n2_ := Aside0.mk (below_step (by repeat (first | (with_reducible first | exact HB.out | apply below_alloc | apply pw_below_drewN | apply below_drew1 | refine below_set ?_ GE242.out | refine below_set ?_ GE248.out) | exact HB.out)) hb); have n3_ := Aside0.mk (hbox); have n4_ := Aside0.mk ((by rw [hg]; exact (below_size (by repeat (first | (with_reducible first | exact HB.out | apply below_alloc | apply pw_below_drewN | apply below_drew1 | refine below_set ?_ GE242.out | refine below_set ?_ GE248.out) | exact HB.out))) : w.heap.size ≤ gb252)); have n5_ := Aside0.mk ((by rw [hg]; exact (below_size (by repeat (first | (with_reducible first | exact HB.out | apply below_alloc | apply pw_below_drewN | apply below_drew1 | refine below_set ?_ GE242.out | refine below_set ?_ GE248.out) | exact HB.out))) : w.heap.size ≤ gb252)); have n6_ := Aside0.mk ((by rw [hg]; exact Nat.ne_of_lt (blk_lt (g := gb242) (o := .cells #[.string t237, .int .u64 t238, .int .i64 t239, .int .u64 t240] 24 (0, 0)) (by (with_reducible repeat (first | refine blk_drewN ?_ _ | refine blk_drew ?_ | refine blk_alloc ?_ _)); exact BK242.out)) : gb242 ≠ gb252)); have n7_ := Aside0.mk ((by rw [hg]; exact Nat.ne_of_gt (blk_lt (g := gb242) (o := .cells #[.string t237, .int .u64 t238, .int .i64 t239, .int .u64 t240] 24 (0, 0)) (by (with_reducible repeat (first | refine blk_drewN ?_ _ | refine blk_drew ?_ | refine blk_alloc ?_ _)); exact BK242.out)) : gb252 ≠ gb242)); have n8_ := Aside0.mk ((by rw [hg]; exact Nat.ne_of_lt (blk_lt (g := gb248) (o := .cells #[.string t243, .int .u64 t244, .int .i64 t245, .int .u64 t246] 24 (0, 0)) (by (with_reducible repeat (first | refine blk_drewN ?_ _ | refine blk_drew ?_ | refine blk_alloc ?_ _)); exact BK248.out)) : gb248 ≠ gb252)); have n9_ := Aside0.mk ((by rw [hg]; exact Nat.ne_of_gt (blk_lt (g := gb248) (o := .cells #[.string t243, .int .u64 t244, .int .i64 t245, .int .u64 t246] 24 (0, 0)) (by (with_reducible repeat (first | refine blk_drewN ?_ _ | refine blk_drew ?_ | refine blk_alloc ?_ _)); exact BK248.out)) : gb252 ≠ gb248)); clear BK242; clear BK248; clear HB; have BK242 := n0_; have BK248 := n1_; have HB := n2_; have BK252 := n3_; have GW252 := n4_; have GE252 := n5_; have NB242_252 := n6_; have NB252_242 := n7_; have NB248_252 := n8_; have NB252_248 := n9_; clear n0_ n1_ n2_ n3_ n4_ n5_ n6_ n7_ n8_ n9_; clear hb hbox hg; have hnb30 := NB252_242.out; have hnc30 := NB242_252.out; have hnb31 := NB252_248.out; have hnc31 := NB248_252.out; have hcz32_0 : w29.cell? ⟨gb252, 0, none⟩ = some (.int .u64 0) := (blk_cell BK252.out 0).trans rfl; have hcz32_1 : w29.cell? ⟨gb252, 1, none⟩ = some (.int .i64 0) := (blk_cell BK252.out 1).trans rfl; have hfz32_0 := blk_frozen BK252.out 0; have hfz32_1 := blk_frozen BK252.out 1) | ((with_reducible refine gate_callee (f := 21) rfl ?_); refine goesL_ (some 45) rfl rfl Try.func21 (by kernel_rfl) rfl #[.string a0] rfl hA_ ?_; (with_reducible refine (screeref15_Unwrite.calls kj7 a0 t253 t254 t255 _ A26.out).mono ?_); rintro e w33 ⟨rfl, hb⟩; refine ⟨_, rfl, ?_⟩; have n0_ := Aside0.mk (blk_below (g := gb242) (o := .cells #[.string t237, .int .u64 t238, .int .i64 t239, .int .u64 t240] 24 (0, 0)) (by (with_reducible repeat (first | refine blk_drewN ?_ _ | refine blk_drew ?_ | refine blk_alloc ?_ _)); refine blk_far ?_ NB242_252.out _; (with_reducible repeat (first | refine blk_drewN ?_ _ | refine blk_drew ?_ | refine blk_alloc ?_ _)); refine blk_far ?_ NB242_252.out _; (with_reducible repeat (first | refine blk_drewN ?_ _ | refine blk_drew ?_ | refine blk_alloc ?_ _)); exact BK242.out) hb); have n1_ := Aside0.mk (blk_below (g := gb248) (o := .cells #[.string t243, .int .u64 t244, .int .i64 t245, .int .u64 t246] 24 (0, 0)) (by (with_reducible repeat (first | refine blk_drewN ?_ _ | refine blk_drew ?_ | refine blk_alloc ?_ _)); refine blk_far ?_ NB248_252.out _; (with_reducible repeat (first | refine blk_drewN ?_ _ | refine blk_drew ?_ | refine blk_alloc ?_ _)); refine blk_far ?_ NB248_252.out _; (with_reducible repeat (first | refine blk_drewN ?_ _ | refine blk_drew ?_ | refine blk_alloc ?_ _)); exact BK248.out) hb); have n2_ := Aside0.mk (blk_below (g := gb252) (o := .cells #[.int .u64 t249, .int .i64 t250] 26 (0, 0)) (by (with_reducible repeat (first | refine blk_drewN ?_ _ | refine blk_drew ?_ | refine blk_alloc ?_ _)); refine blk_put (cs := #[.int .u64 t249, .int .i64 0]) ?_ 1 _ rfl; (with_reducible repeat (first | refine blk_drewN ?_ _ | refine blk_drew ?_ | refine blk_alloc ?_ _)); refine blk_put (cs := #[.int .u64 0, .int .i64 0]) ?_ 0 _ rfl; (with_reducible repeat (first | refine blk_drewN ?_ _ | refine blk_drew ?_ | refine blk_alloc ?_ _)); exact BK252.out) hb); have n3_ := Aside0.mk (below_step (by repeat (first | (with_reducible first | exact HB.out | apply below_alloc | apply pw_below_drewN | apply below_drew1 | refine below_set ?_ GE242.out | refine below_set ?_ GE248.out | refine below_set ?_ GE252.out) | exact HB.out)) hb); clear BK242; clear BK248; clear BK252; clear HB; have BK242 := n0_; have BK248 := n1_; have BK252 := n2_; have HB := n3_; clear n0_ n1_ n2_ n3_; (try clear hb); (try clear hb2); (try clear hk); (try clear hi); (try clear A26)) | ((with_reducible refine gate_dst (N := 9) rfl ?_); refine box_event ?hg (N := 9) ?hd (cs := #[.int .u64 0, .int .i64 0]) (t := 26) ?hr ?_; (case hd => rfl); (case hg => rfl); (case hr => first | (go_simp; done) | (go_simp; rfl)); intro gb256 hg w34 hbox hb; have n0_ := Aside0.mk (blk_below (g := gb242) (o := .cells #[.string t237, .int .u64 t238, .int .i64 t239, .int .u64 t240] 24 (0, 0)) (by (with_reducible repeat (first | refine blk_drewN ?_ _ | refine blk_drew ?_ | refine blk_alloc ?_ _)); exact BK242.out) hb); have n1_ := Aside0.mk (blk_below (g := gb248) (o := .cells #[.string t243, .int .u64 t244, .int .i64 t245, .int .u64 t246] 24 (0, 0)) (by (with_reducible repeat (first | refine blk_drewN ?_ _ | refine blk_drew ?_ | refine blk_alloc ?_ _)); exact BK248.out) hb); have n2_ := Aside0.mk (blk_below (g := gb252) (o := .cells #[.int .u64 t249, .int .i64 t250] 26 (0, 0)) (by (with_reducible repeat (first | refine blk_drewN ?_ _ | refine blk_drew ?_ | refine blk_alloc ?_ _)); exact BK252.out) hb); have n3_ := Aside0.mk (below_step (by repeat (first | (with_reducible first | exact HB.out | apply below_alloc | apply pw_below_drewN | apply below_drew1 | refine below_set ?_ GE242.out | refine below_set ?_ GE248.out | refine below_set ?_ GE252.out) | exact HB.out)) hb); have n4_ := Aside0.mk (hbox); have n5_ := Aside0.mk ((by rw [hg]; exact (below_size (by repeat (first | (with_reducible first | exact HB.out | apply below_alloc | apply pw_below_drewN | apply below_drew1 | refine below_set ?_ GE242.out | refine below_set ?_ GE248.out | refine below_set ?_ GE252.out) | exact HB.out))) : w.heap.size ≤ gb256)); have n6_ := Aside0.mk ((by rw [hg]; exact (below_size (by repeat (first | (with_reducible first | exact HB.out | apply below_alloc | apply pw_below_drewN | apply below_drew1 | refine below_set ?_ GE242.out | refine below_set ?_ GE248.out | refine below_set ?_ GE252.out) | exact HB.out))) : w.heap.size ≤ gb256)); have n7_ := Aside0.mk ((by rw [hg]; exact Nat.ne_of_lt (blk_lt (g := gb242) (o := .cells #[.string t237, .int .u64 t238, .int .i64 t239, .int .u64 t240] 24 (0, 0)) (by (with_reducible repeat (first | refine blk_drewN ?_ _ | refine blk_drew ?_ | refine blk_alloc ?_ _)); exact BK242.out)) : gb242 ≠ gb256)); have n8_ := Aside0.mk ((by rw [hg]; exact Nat.ne_of_gt (blk_lt (g := gb242) (o := .cells #[.string t237, .int .u64 t238, .int .i64 t239, .int .u64 t240] 24 (0, 0)) (by (with_reducible repeat (first | refine blk_drewN ?_ _ | refine blk_drew ?_ | refine blk_alloc ?_ _)); exact BK242.out)) : gb256 ≠ gb242)); have n9_ := Aside0.mk ((by rw [hg]; exact Nat.ne_of_lt (blk_lt (g := gb248) (o := .cells #[.string t243, .int .u64 t244, .int .i64 t245, .int .u64 t246] 24 (0, 0)) (by (with_reducible repeat (first | refine blk_drewN ?_ _ | refine blk_drew ?_ | refine blk_alloc ?_ _)); exact BK248.out)) : gb248 ≠ gb256)); have n10_ := Aside0.mk ((by rw [hg]; exact Nat.ne_of_gt (blk_lt (g := gb248) (o := .cells #[.string t243, .int .u64 t244, .int .i64 t245, .int .u64 t246] 24 (0, 0)) (by (with_reducible repeat (first | refine blk_drewN ?_ _ | refine blk_drew ?_ | refine blk_alloc ?_ _)); exact BK248.out)) : gb256 ≠ gb248)); have n11_ := Aside0.mk ((by rw [hg]; exact Nat.ne_of_lt (blk_lt (g := gb252) (o := .cells #[.int .u64 t249, .int .i64 t250] 26 (0, 0)) (by (with_reducible repeat (first | refine blk_drewN ?_ _ | refine blk_drew ?_ | refine blk_alloc ?_ _)); exact BK252.out)) : gb252 ≠ gb256)); have n12_ := Aside0.mk ((by rw [hg]; exact Nat.ne_of_gt (blk_lt (g := gb252) (o := .cells #[.int .u64 t249, .int .i64 t250] 26 (0, 0)) (by (with_reducible repeat (first | refine blk_drewN ?_ _ | refine blk_drew ?_ | refine blk_alloc ?_ _)); exact BK252.out)) : gb256 ≠ gb252)); clear BK242; clear BK248; clear BK252; clear HB; have BK242 := n0_; have BK248 := n1_; have BK252 := n2_; have HB := n3_; have BK256 := n4_; have GW256 := n5_; have GE256 := n6_; have NB242_256 := n7_; have NB256_242 := n8_; have NB248_256 := n9_; have NB256_248 := n10_; have NB252_256 := n11_; have NB256_252 := n12_; clear n0_ n1_ n2_ n3_ n4_ n5_ n6_ n7_ n8_ n9_ n10_ n11_ n12_; clear hb hbox hg; have hnb35 := NB256_242.out; have hnc35 := NB242_256.out; have hnb36 := NB256_248.out; have hnc36 := NB248_256.out; have hnb37 := NB256_252.out; have hnc37 := NB252_256.out; have hcz38_0 : w34.cell? ⟨gb256, 0, none⟩ = some (.int .u64 0) := (blk_cell BK256.out 0).trans rfl; have hcz38_1 : w34.cell? ⟨gb256, 1, none⟩ = some (.int .i64 0) := (blk_cell BK256.out 1).trans rfl; have hfz38_0 := blk_frozen BK256.out 0; have hfz38_1 := blk_frozen BK256.out 1))
      (try simp only [Act.put, List.setIfInBounds_toArray, List.set_cons_zero, List.set_cons_succ])
      go_cut [55] (fun v55 wc => ∃ (kq : Nat) (x55_26 : Bool), v55 = .bool x55_26 ∧ Aside0 (screelaw15_ColReads.j1 kq a0 x55_26 = some r) ∧ Aside0 (kq ≤ kj7) ∧ Aside0 (wc.heap[gb242]? = some (.cells #[.string t237, .int .u64 t238, .int .i64 t239, .int .u64 t240] 24 (0, 0))) ∧ Aside0 (wc.heap[gb248]? = some (.cells #[.string t243, .int .u64 t244, .int .i64 t245, .int .u64 t246] 24 (0, 0))) ∧ Aside0 (wc.heap[gb252]? = some (.cells #[.int .u64 t249, .int .i64 t250] 26 (0, 0))) ∧ Aside0 (wc.heap[gb256]? = some (.cells #[.int .u64 t253, .int .i64 t254] 26 (0, 0))) ∧ Aside0 (Below w.heap.size w wc))
      case first =>
       have H := HC27.out
       clear HC27
       by_cases c39 : (!(t249 == t253) || (!(t250 == t254))) = true
       ·rw [if_pos c39] at H
        have c39b0 : (!(t249 == t253) || (!(t250 == t254))) = true := c39
        clear c39
        (first | rw [c39b0] | (simp only [i64_w, i32_w]; rw [c39b0]) | skip)
        have H' := Aside0.mk H
        clear H
        have hnb40 := NB252_242.out
        have hnc40 := NB242_252.out
        have hnb41 := NB252_248.out
        have hnc41 := NB248_252.out
        have hnb42 := NB252_256.out
        have hnc42 := NB256_252.out
        have hcz43_0 : w34.cell? ⟨gb252, 0, none⟩ = some (.int .u64 t249) := (blk_cell BK252.out 0).trans rfl
        have hcz43_1 : w34.cell? ⟨gb252, 1, none⟩ = some (.int .i64 t250) := (blk_cell BK252.out 1).trans rfl
        have hfz43_0 := blk_frozen BK252.out 0
        have hfz43_1 := blk_frozen BK252.out 1
        have hnb44 := NB256_242.out
        have hnc44 := NB242_256.out
        have hnb45 := NB256_248.out
        have hnc45 := NB248_256.out
        have hcz46_0 : w34.cell? ⟨gb256, 0, none⟩ = some (.int .u64 0) := (blk_cell BK256.out 0).trans rfl
        have hcz46_1 : w34.cell? ⟨gb256, 1, none⟩ = some (.int .i64 0) := (blk_cell BK256.out 1).trans rfl
        have hfz46_0 := blk_frozen BK256.out 0
        have hfz46_1 := blk_frozen BK256.out 1
        go_wp2
        go_meet
        case rel => exact ⟨_, (true), rs_, hH_, ⟨by have := HJ7.out; first | omega | exact Nat.le_refl _⟩, ⟨by (with_reducible repeat (first | refine blk_drewN ?_ _ | refine blk_drew ?_ | refine blk_alloc ?_ _)); refine blk_far ?_ NB242_256.out _; (with_reducible repeat (first | refine blk_drewN ?_ _ | refine blk_drew ?_ | refine blk_alloc ?_ _)); refine blk_far ?_ NB242_256.out _; (with_reducible repeat (first | refine blk_drewN ?_ _ | refine blk_drew ?_ | refine blk_alloc ?_ _)); exact BK242.out⟩, ⟨by (with_reducible repeat (first | refine blk_drewN ?_ _ | refine blk_drew ?_ | refine blk_alloc ?_ _)); refine blk_far ?_ NB248_256.out _; (with_reducible repeat (first | refine blk_drewN ?_ _ | refine blk_drew ?_ | refine blk_alloc ?_ _)); refine blk_far ?_ NB248_256.out _; (with_reducible repeat (first | refine blk_drewN ?_ _ | refine blk_drew ?_ | refine blk_alloc ?_ _)); exact BK248.out⟩, ⟨by (with_reducible repeat (first | refine blk_drewN ?_ _ | refine blk_drew ?_ | refine blk_alloc ?_ _)); refine blk_far ?_ NB252_256.out _; (with_reducible repeat (first | refine blk_drewN ?_ _ | refine blk_drew ?_ | refine blk_alloc ?_ _)); refine blk_far ?_ NB252_256.out _; (with_reducible repeat (first | refine blk_drewN ?_ _ | refine blk_drew ?_ | refine blk_alloc ?_ _)); exact BK252.out⟩, ⟨by (with_reducible repeat (first | refine blk_drewN ?_ _ | refine blk_drew ?_ | refine blk_alloc ?_ _)); refine blk_put (cs := #[.int .u64 t253, .int .i64 0]) ?_ 1 _ rfl; (with_reducible repeat (first | refine blk_drewN ?_ _ | refine blk_drew ?_ | refine blk_alloc ?_ _)); refine blk_put (cs := #[.int .u64 0, .int .i64 0]) ?_ 0 _ rfl; (with_reducible repeat (first | refine blk_drewN ?_ _ | refine blk_drew ?_ | refine blk_alloc ?_ _)); exact BK256.out⟩, ⟨by repeat (first | (with_reducible first | exact HB.out | apply below_alloc | apply pw_below_drewN | apply below_drew1 | refine below_set ?_ GE242.out | refine below_set ?_ GE248.out | refine below_set ?_ GE252.out | refine below_set ?_ GE256.out) | exact HB.out)⟩⟩
       ·rw [if_neg c39] at H
        have c39b0 : (!(t249 == t253) || (!(t250 == t254))) = false := by simpa using c39
        clear c39
        (first | rw [c39b0] | (simp only [i64_w, i32_w]; rw [c39b0]) | skip)
        have H' := Aside0.mk H
        clear H
        have hnb47 := NB252_242.out
        have hnc47 := NB242_252.out
        have hnb48 := NB252_248.out
        have hnc48 := NB248_252.out
        have hnb49 := NB252_256.out
        have hnc49 := NB256_252.out
        have hcz50_0 : w34.cell? ⟨gb252, 0, none⟩ = some (.int .u64 t249) := (blk_cell BK252.out 0).trans rfl
        have hcz50_1 : w34.cell? ⟨gb252, 1, none⟩ = some (.int .i64 t250) := (blk_cell BK252.out 1).trans rfl
        have hfz50_0 := blk_frozen BK252.out 0
        have hfz50_1 := blk_frozen BK252.out 1
        have hnb51 := NB256_242.out
        have hnc51 := NB242_256.out
        have hnb52 := NB256_248.out
        have hnc52 := NB248_256.out
        have hcz53_0 : w34.cell? ⟨gb256, 0, none⟩ = some (.int .u64 0) := (blk_cell BK256.out 0).trans rfl
        have hcz53_1 : w34.cell? ⟨gb256, 1, none⟩ = some (.int .i64 0) := (blk_cell BK256.out 1).trans rfl
        have hfz53_0 := blk_frozen BK256.out 0
        have hfz53_1 := blk_frozen BK256.out 1
        go_wp2
        go_meet
        case rel => exact ⟨_, ((t251 != t255)), rs_, hH_, ⟨by have := HJ7.out; first | omega | exact Nat.le_refl _⟩, ⟨by (with_reducible repeat (first | refine blk_drewN ?_ _ | refine blk_drew ?_ | refine blk_alloc ?_ _)); refine blk_far ?_ NB242_256.out _; (with_reducible repeat (first | refine blk_drewN ?_ _ | refine blk_drew ?_ | refine blk_alloc ?_ _)); refine blk_far ?_ NB242_256.out _; (with_reducible repeat (first | refine blk_drewN ?_ _ | refine blk_drew ?_ | refine blk_alloc ?_ _)); exact BK242.out⟩, ⟨by (with_reducible repeat (first | refine blk_drewN ?_ _ | refine blk_drew ?_ | refine blk_alloc ?_ _)); refine blk_far ?_ NB248_256.out _; (with_reducible repeat (first | refine blk_drewN ?_ _ | refine blk_drew ?_ | refine blk_alloc ?_ _)); refine blk_far ?_ NB248_256.out _; (with_reducible repeat (first | refine blk_drewN ?_ _ | refine blk_drew ?_ | refine blk_alloc ?_ _)); exact BK248.out⟩, ⟨by (with_reducible repeat (first | refine blk_drewN ?_ _ | refine blk_drew ?_ | refine blk_alloc ?_ _)); refine blk_far ?_ NB252_256.out _; (with_reducible repeat (first | refine blk_drewN ?_ _ | refine blk_drew ?_ | refine blk_alloc ?_ _)); refine blk_far ?_ NB252_256.out _; (with_reducible repeat (first | refine blk_drewN ?_ _ | refine blk_drew ?_ | refine blk_alloc ?_ _)); exact BK252.out⟩, ⟨by (with_reducible repeat (first | refine blk_drewN ?_ _ | refine blk_drew ?_ | refine blk_alloc ?_ _)); refine blk_put (cs := #[.int .u64 t253, .int .i64 0]) ?_ 1 _ rfl; (with_reducible repeat (first | refine blk_drewN ?_ _ | refine blk_drew ?_ | refine blk_alloc ?_ _)); refine blk_put (cs := #[.int .u64 0, .int .i64 0]) ?_ 0 _ rfl; (with_reducible repeat (first | refine blk_drewN ?_ _ | refine blk_drew ?_ | refine blk_alloc ?_ _)); exact BK256.out⟩, ⟨by repeat (first | (with_reducible first | exact HB.out | apply below_alloc | apply pw_below_drewN | apply below_drew1 | refine below_set ?_ GE242.out | refine below_set ?_ GE248.out | refine below_set ?_ GE252.out | refine below_set ?_ GE256.out) | exact HB.out)⟩⟩
      case rest =>
       clear HC27
       try clear c1
       try clear c2
       try clear p2
       try clear c3
       try clear c4
       try clear c4b0
       try clear c4b1
       try clear c5
       try clear c10
       try clear c15
       try clear c17
       try clear c17b0
       try clear c18
       try clear c19
       try clear c20
       try clear c21
       try clear c24
       try clear c30
       try clear c31
       try clear c35
       try clear c36
       try clear c37
       try clear c39
       try clear c39b0
       try clear c40
       try clear c41
       try clear c42
       try clear c44
       try clear c45
       try clear c47
       try clear c48
       try clear c49
       try clear c51
       try clear c52
       try clear hcz12_0
       try clear hcz12_1
       try clear hcz12_2
       try clear hcz12_3
       try clear hcz16_0
       try clear hcz16_1
       try clear hcz16_2
       try clear hcz16_3
       try clear hcz19_0
       try clear hcz19_1
       try clear hcz19_2
       try clear hcz19_3
       try clear hcz20_0
       try clear hcz20_1
       try clear hcz20_2
       try clear hcz20_3
       try clear hcz22_0
       try clear hcz22_1
       try clear hcz22_2
       try clear hcz22_3
       try clear hcz23_0
       try clear hcz23_1
       try clear hcz23_2
       try clear hcz23_3
       try clear hcz32_0
       try clear hcz32_1
       try clear hcz38_0
       try clear hcz38_1
       try clear hcz43_0
       try clear hcz43_1
       try clear hcz46_0
       try clear hcz46_1
       try clear hcz50_0
       try clear hcz50_1
       try clear hcz53_0
       try clear hcz53_1
       try clear hfz12_0
       try clear hfz12_1
       try clear hfz12_2
       try clear hfz12_3
       try clear hfz16_0
       try clear hfz16_1
       try clear hfz16_2
       try clear hfz16_3
       try clear hfz19_0
       try clear hfz19_1
       try clear hfz19_2
       try clear hfz19_3
       try clear hfz20_0
       try clear hfz20_1
       try clear hfz20_2
       try clear hfz20_3
       try clear hfz22_0
       try clear hfz22_1
       try clear hfz22_2
       try clear hfz22_3
       try clear hfz23_0
       try clear hfz23_1
       try clear hfz23_2
       try clear hfz23_3
       try clear hfz32_0
       try clear hfz32_1
       try clear hfz38_0
       try clear hfz38_1
       try clear hfz43_0
       try clear hfz43_1
       try clear hfz46_0
       try clear hfz46_1
       try clear hfz50_0
       try clear hfz50_1
       try clear hfz53_0
       try clear hfz53_1
       try clear p2
       obtain ⟨kq, x55_26, rfl, HA, HJ26, BK242, BK248, BK252, BK256, HB⟩ := hcut
       cases kq with
       | zero => exact absurd HA.out (by simp [screelaw15_ColReads.j1])
       | succ kj26 =>
        have H := HA.out
        clear HA
        simp only [screelaw15_ColReads.j1] at H
        by_cases c54 : x55_26 = true
        ·subst c54
         have H1 : (none) = some r := by rw [if_pos rfl] at H; exact H
         clear H
         have H := H1
         clear H1
         exact absurd H (by simp)
        ·replace c54 := Bool.eq_false_iff.mpr c54
         subst c54
         have H1 : ((col_Unlease.f kj26 a0).bind fun bt257 => ((screeref15_Unlease.f kj26 a0).bind fun bt261 => ((screelaw15_own.f kj26 bt257.1).bind fun t265 => ((screeref15_Same.f kj26 t265 bt261.1).bind fun t268 => (if t268 = true then (some (bt257.2 == bt261.2)) else (none)))))) = some r := by rw [if_neg (show ¬ (false = true) by decide)] at H; exact H
         clear H
         have H := H1
         clear H1
         replace H := Option.bind_eq_some_iff.mp H
         obtain ⟨⟨t257, t258⟩, A550, H⟩ := H
         try dsimp only at H
         have A55 := Aside0.mk A550
         clear A550
         replace H := Option.bind_eq_some_iff.mp H
         obtain ⟨⟨t261, t262⟩, A560, H⟩ := H
         try dsimp only at H
         have A56 := Aside0.mk A560
         clear A560
         replace H := Option.bind_eq_some_iff.mp H
         obtain ⟨t265, A570, H⟩ := H
         try dsimp only at H
         have A57 := Aside0.mk A570
         clear A570
         replace H := Option.bind_eq_some_iff.mp H
         obtain ⟨t268, A580, H⟩ := H
         try dsimp only at H
         have A58 := Aside0.mk A580
         clear A580
         by_cases c59 : t268 = true
         ·subst c59
          have H1 : (some (t258 == t262)) = some r := by rw [if_pos rfl] at H; exact H
          clear H
          have H := H1
          clear H1
          obtain rfl := Option.some.inj H
          go_wp2_with (first | ((with_reducible refine gate_callee (f := 22) rfl ?_); refine goesL_ (some 58) rfl rfl Try.func22 (by kernel_rfl) rfl #[.string a0] rfl hA_ ?_; (with_reducible refine (col_Unlease.calls kj26 a0 t257 t258 _ A55.out).mono ?_); rintro e w60 ⟨v259, rfl, ho0, hb⟩; refine ⟨_, rfl, ?_⟩; have n0_ := Aside0.mk (Kd.R_lower ho0 (below_size (by repeat (first | (with_reducible first | exact HB.out | apply below_alloc | apply pw_below_drewN | apply below_drew1 | refine below_set ?_ GE242.out | refine below_set ?_ GE248.out | refine below_set ?_ GE252.out | refine below_set ?_ GE256.out) | exact HB.out)))); have n1_ := Aside0.mk (blk_below (g := gb242) (o := .cells #[.string t237, .int .u64 t238, .int .i64 t239, .int .u64 t240] 24 (0, 0)) (by (with_reducible repeat (first | refine blk_drewN ?_ _ | refine blk_drew ?_ | refine blk_alloc ?_ _)); exact BK242.out) hb); have n2_ := Aside0.mk (blk_below (g := gb248) (o := .cells #[.string t243, .int .u64 t244, .int .i64 t245, .int .u64 t246] 24 (0, 0)) (by (with_reducible repeat (first | refine blk_drewN ?_ _ | refine blk_drew ?_ | refine blk_alloc ?_ _)); exact BK248.out) hb); have n3_ := Aside0.mk (blk_below (g := gb252) (o := .cells #[.int .u64 t249, .int .i64 t250] 26 (0, 0)) (by (with_reducible repeat (first | refine blk_drewN ?_ _ | refine blk_drew ?_ | refine blk_alloc ?_ _)); exact BK252.out) hb); have n4_ := Aside0.mk (blk_below (g := gb256) (o := .cells #[.int .u64 t253, .int .i64 t254] 26 (0, 0)) (by (with_reducible repeat (first | refine blk_drewN ?_ _ | refine blk_drew ?_ | refine blk_alloc ?_ _)); exact BK256.out) hb); have n5_ := Aside0.mk (below_step (by repeat (first | (with_reducible first | exact HB.out | apply below_alloc | apply pw_below_drewN | apply below_drew1 | refine below_set ?_ GE242.out | refine below_set ?_ GE248.out | refine below_set ?_ GE252.out | refine below_set ?_ GE256.out) | exact HB.out)) hb); clear BK242; clear BK248; clear BK252; clear BK256; clear HB; have HO260 := n0_; have BK242 := n1_; have BK248 := n2_; have BK252 := n3_; have BK256 := n4_; have HB := n5_; clear n0_ n1_ n2_ n3_ n4_ n5_; (try clear hb); (try clear hb2); (try clear hk); (try clear hi); (try clear ho0); (try clear A55)) | ((with_reducible refine gate_callee (f := 23) rfl ?_); refine goesL_ (some 63) rfl rfl Try.func23 (by kernel_rfl) rfl #[.string a0] rfl hA_ ?_; (with_reducible refine (screeref15_Unlease.calls kj26 a0 t261 t262 _ A56.out).mono ?_); rintro e w61 ⟨v263, rfl, ho0, hb⟩; refine ⟨_, rfl, ?_⟩; have n0_ := Aside0.mk (Kd.R_below (by (with_reducible repeat (first | apply Kd.R_alloc | apply Kd.R_drewN | apply Kd.R_drew)); exact HO260.out) hb); have n1_ := Aside0.mk (Kd.R_lower ho0 (below_size (by repeat (first | (with_reducible first | exact HB.out | apply below_alloc | apply pw_below_drewN | apply below_drew1 | refine below_set ?_ GE242.out | refine below_set ?_ GE248.out | refine below_set ?_ GE252.out | refine below_set ?_ GE256.out) | exact HB.out)))); have n2_ := Aside0.mk (blk_below (g := gb242) (o := .cells #[.string t237, .int .u64 t238, .int .i64 t239, .int .u64 t240] 24 (0, 0)) (by (with_reducible repeat (first | refine blk_drewN ?_ _ | refine blk_drew ?_ | refine blk_alloc ?_ _)); exact BK242.out) hb); have n3_ := Aside0.mk (blk_below (g := gb248) (o := .cells #[.string t243, .int .u64 t244, .int .i64 t245, .int .u64 t246] 24 (0, 0)) (by (with_reducible repeat (first | refine blk_drewN ?_ _ | refine blk_drew ?_ | refine blk_alloc ?_ _)); exact BK248.out) hb); have n4_ := Aside0.mk (blk_below (g := gb252) (o := .cells #[.int .u64 t249, .int .i64 t250] 26 (0, 0)) (by (with_reducible repeat (first | refine blk_drewN ?_ _ | refine blk_drew ?_ | refine blk_alloc ?_ _)); exact BK252.out) hb); have n5_ := Aside0.mk (blk_below (g := gb256) (o := .cells #[.int .u64 t253, .int .i64 t254] 26 (0, 0)) (by (with_reducible repeat (first | refine blk_drewN ?_ _ | refine blk_drew ?_ | refine blk_alloc ?_ _)); exact BK256.out) hb); have n6_ := Aside0.mk (below_step (by repeat (first | (with_reducible first | exact HB.out | apply below_alloc | apply pw_below_drewN | apply below_drew1 | refine below_set ?_ GE242.out | refine below_set ?_ GE248.out | refine below_set ?_ GE252.out | refine below_set ?_ GE256.out) | exact HB.out)) hb); clear HO260; clear BK242; clear BK248; clear BK252; clear BK256; clear HB; have HO260 := n0_; have HO264 := n1_; have BK242 := n2_; have BK248 := n3_; have BK252 := n4_; have BK256 := n5_; have HB := n6_; clear n0_ n1_ n2_ n3_ n4_ n5_ n6_; (try clear hb); (try clear hb2); (try clear hk); (try clear hi); (try clear ho0); (try clear A56); obtain ⟨Ao62, co62, eo62⟩ := Kd.R_slice HO260.out; subst eo62) | ((with_reducible refine gate_callee (f := 17) rfl ?_); refine goesL_ (some 67) rfl rfl Try.func17 (by kernel_rfl) rfl #[.slice Ao62 t257.length co62] rfl hA_ ?_; (with_reducible refine (screelaw15_own.calls kj26 _ _ t257 t265 _ ?side1 ?side2 A57.out).mono ?_); (case side1 => repeat (first | exact (Kd.R_reads' HO260.out).2.2 | (with_reducible refine Kd.C_alloc ?_ _) | (with_reducible refine Kd.C_drewN ?_ _) | (with_reducible refine Kd.C_drew ?_))); (case side2 => exact (Kd.R_reads' HO260.out).2.1); rintro e w63 ⟨v266, rfl, ho0, hb⟩; refine ⟨_, rfl, ?_⟩; have n0_ := Aside0.mk (Kd.R_below (by (with_reducible repeat (first | apply Kd.R_alloc | apply Kd.R_drewN | apply Kd.R_drew)); exact HO260.out) hb); have n1_ := Aside0.mk (Kd.R_elder' (by (with_reducible repeat (first | apply Kd.R_alloc | apply Kd.R_drewN | apply Kd.R_drew)); exact HO264.out) (Kd.R_base ho0) hb); have n2_ := Aside0.mk (Kd.R_lower (Kd.R_new' ho0 (Kd.R_lt (by (with_reducible repeat (first | apply Kd.R_alloc | apply Kd.R_drewN | apply Kd.R_drew)); exact HO264.out))) (below_size (by repeat (first | (with_reducible first | exact HB.out | apply below_alloc | apply pw_below_drewN | apply below_drew1 | refine below_set ?_ GE242.out | refine below_set ?_ GE248.out | refine below_set ?_ GE252.out | refine below_set ?_ GE256.out) | exact HB.out)))); have n3_ := Aside0.mk (blk_below (g := gb242) (o := .cells #[.string t237, .int .u64 t238, .int .i64 t239, .int .u64 t240] 24 (0, 0)) (by (with_reducible repeat (first | refine blk_drewN ?_ _ | refine blk_drew ?_ | refine blk_alloc ?_ _)); exact BK242.out) hb); have n4_ := Aside0.mk (blk_below (g := gb248) (o := .cells #[.string t243, .int .u64 t244, .int .i64 t245, .int .u64 t246] 24 (0, 0)) (by (with_reducible repeat (first | refine blk_drewN ?_ _ | refine blk_drew ?_ | refine blk_alloc ?_ _)); exact BK248.out) hb); have n5_ := Aside0.mk (blk_below (g := gb252) (o := .cells #[.int .u64 t249, .int .i64 t250] 26 (0, 0)) (by (with_reducible repeat (first | refine blk_drewN ?_ _ | refine blk_drew ?_ | refine blk_alloc ?_ _)); exact BK252.out) hb); have n6_ := Aside0.mk (blk_below (g := gb256) (o := .cells #[.int .u64 t253, .int .i64 t254] 26 (0, 0)) (by (with_reducible repeat (first | refine blk_drewN ?_ _ | refine blk_drew ?_ | refine blk_alloc ?_ _)); exact BK256.out) hb); have n7_ := Aside0.mk (below_step (by repeat (first | (with_reducible first | exact HB.out | apply below_alloc | apply pw_below_drewN | apply below_drew1 | refine below_set ?_ GE242.out | refine below_set ?_ GE248.out | refine below_set ?_ GE252.out | refine below_set ?_ GE256.out) | exact HB.out)) hb); clear HO260; clear HO264; clear BK242; clear BK248; clear BK252; clear BK256; clear HB; have HO260 := n0_; have HO264 := n1_; have HO267 := n2_; have BK242 := n3_; have BK248 := n4_; have BK252 := n5_; have BK256 := n6_; have HB := n7_; clear n0_ n1_ n2_ n3_ n4_ n5_ n6_ n7_; (try clear hb); (try clear hb2); (try clear hk); (try clear hi); (try clear ho0); (try clear A57); obtain ⟨Ao64, co64, eo64⟩ := Kd.R_slice HO267.out; subst eo64; obtain ⟨Ao65, co65, eo65⟩ := Kd.R_slice HO264.out; subst eo65) | ((with_reducible refine gate_callee (f := 24) rfl ?_); refine goesL_ (some 69) rfl rfl Try.func24 (by kernel_rfl) rfl #[.slice Ao64 t265.length co64, .slice Ao65 t261.length co65] rfl hA_ ?_; (with_reducible refine (screeref15_Same.calls kj26 _ _ t265 _ _ t261 true _ ?side1 ?side2 ?side3 ?side4 A58.out).mono ?_); (case side1 => repeat (first | exact (Kd.R_reads' HO267.out).2.2 | (with_reducible refine Kd.C_alloc ?_ _) | (with_reducible refine Kd.C_drewN ?_ _) | (with_reducible refine Kd.C_drew ?_))); (case side2 => exact (Kd.R_reads' HO267.out).2.1); (case side3 => repeat (first | exact (Kd.R_reads' HO264.out).2.2 | (with_reducible refine Kd.C_alloc ?_ _) | (with_reducible refine Kd.C_drewN ?_ _) | (with_reducible refine Kd.C_drew ?_))); (case side4 => exact (Kd.R_reads' HO264.out).2.1); rintro e w' ⟨rfl, ⟨nd, rfl⟩⟩; refine ⟨_, rfl, ?_⟩))
          go_ret
          exact ⟨rf_, by repeat (first | (with_reducible first | exact HB.out | apply below_alloc | apply pw_below_drewN | apply below_drew1 | refine below_set ?_ GE242.out | refine below_set ?_ GE248.out | refine below_set ?_ GE252.out | refine below_set ?_ GE256.out) | exact HB.out)⟩
         ·replace c59 := Bool.eq_false_iff.mpr c59
          subst c59
          have H1 : (none) = some r := by rw [if_neg (show ¬ (false = true) by decide)] at H; exact H
          clear H
          have H := H1
          clear H1
          exact absurd H (by simp)
 ·replace c3 := Bool.eq_false_iff.mpr c3
  subst c3
  have H1 : (none) = some r := by rw [if_neg (show ¬ (false = true) by decide)] at H; exact H
  clear H
  have H := H1
  clear H1
  exact absurd H (by simp)

/-- THE ONE PURE STATEMENT of screelaw15_ColReads: yours. -/
def screelaw15_ColReads.Pure : Prop := ∀ (a0 : ByteArray), a0.size ≤ 140737488351232 → ∃ k, screelaw15_ColReads.f k a0 = some true
theorem screelaw15_ColReads.walk (P : screelaw15_ColReads.Pure) (a0 : ByteArray) (w : World) (w0 : a0.size ≤ 140737488351232) :
  Calls Try.prog 4 #[.string a0] w fun e w' => e = .returned (.bool true) ∧ Below w.heap.size w w' := by
 obtain ⟨k, h⟩ := P a0 w0
 refine (screelaw15_ColReads.calls k a0 true w h).mono ?_
 rintro e w' ⟨rfl, hd⟩
 exact ⟨rfl, hd⟩

end Go.Proofs.Yteijlcnjnooiiaa.P
