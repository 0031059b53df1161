-- Printed by a program of this session's own (wip/tools/pprint.sh, over the kit's print, with given contracts): not typed by hand.
import Derived.Test.YtachminlgcndnaaPx0
import Derived.Test.YtachminlgcndnaaPx1
import Derived.Test.YtachminlgcndnaaPx3
import Derived.Test.YtachminlgcndnaaPx5
namespace Go.Proofs.Ytachminlgcndnaa.P
open Go.RowKit Go.Proofs.YtachminlgcndnaaW.PrintWords Go.Proofs.YtachminlgcndnaaW.PrintLast Go.Proofs.YtachminlgcndnaaW.PrintMore
attribute [local go_sem] max2_int min2_int max_two min_two max_three min_three max_four min_four   -- for this text's walks alone
set_option linter.unusedVariables false
set_option linter.unusedSimpArgs false

attribute [local go_sem high] eqA24
/-! ### screelaw02_KeyOrder: function 6 -/
mutual
def screelaw02_KeyOrder.j0 : Nat → Bool → Int → ByteArray → Int → Int → ByteArray → Int → Option (Bool)
  | 0, _, _, _, _, _, _, _ => none
  | k + 1, x22, x265000, x265001, x265002, x266000, x266001, x266002 => if x22 = true then (some true) else ((key_Make.f k x265000 x265001 x265002).bind fun bt267 => ((key_Make.f k x266000 x266001 x266002).bind fun bt269 => (if bt267.2 = 0 then (screelaw02_KeyOrder.j1 k bt267.1 bt269.1 (bt269.2 != 0) x265000 x265001 x265002 x266000 x266001 x266002) else (screelaw02_KeyOrder.j1 k bt267.1 bt269.1 true x265000 x265001 x265002 x266000 x266001 x266002))))
def screelaw02_KeyOrder.j1 : Nat → ByteArray → ByteArray → Bool → Int → ByteArray → Int → Int → ByteArray → Int → Option (Bool)
  | 0, _, _, _, _, _, _, _, _, _ => none
  | k + 1, x5, x7, x38, x265000, x265001, x265002, x266000, x266001, x266002 => if x38 = true then (some true) else (if x265000 < x266000 then (if ((Op.bytesLess x5.toList x7.toList) != true) = true then (none) else (if ((x5.toList == x7.toList) != (x265000 == x266000 && (x265001.toList == x266001.toList && (x265002 == x266002)))) = true then (none) else (if (x265000 == x266000 && (x265001.toList == x266001.toList && (x265002 == x266002))) = true then (some true) else (if 0 ≤ (mn (x5.size : Int) (x7.size : Int)) then (if (mn (x5.size : Int) (x7.size : Int)) ≤ (x5.size : Int) then (if (mn (x5.size : Int) (x7.size : Int)) ≤ (x7.size : Int) then (some ((x5.extract 0 ((mn (x5.size : Int) (x7.size : Int)) : Int).toNat).toList != (x7.extract 0 ((mn (x5.size : Int) (x7.size : Int)) : Int).toNat).toList)) else (none)) else (none)) else (none))))) else (if x265000 = x266000 then (if (Op.bytesLess x265001.toList x266001.toList) = true then (if ((Op.bytesLess x5.toList x7.toList) != true) = true then (none) else (if ((x5.toList == x7.toList) != (x265000 == x266000 && (x265001.toList == x266001.toList && (x265002 == x266002)))) = true then (none) else (if (x265000 == x266000 && (x265001.toList == x266001.toList && (x265002 == x266002))) = true then (some true) else (if 0 ≤ (mn (x5.size : Int) (x7.size : Int)) then (if (mn (x5.size : Int) (x7.size : Int)) ≤ (x5.size : Int) then (if (mn (x5.size : Int) (x7.size : Int)) ≤ (x7.size : Int) then (some ((x5.extract 0 ((mn (x5.size : Int) (x7.size : Int)) : Int).toNat).toList != (x7.extract 0 ((mn (x5.size : Int) (x7.size : Int)) : Int).toNat).toList)) else (none)) else (none)) else (none))))) else (if x265001.toList = x266001.toList then (if ((Op.bytesLess x5.toList x7.toList) != (decide (x265002 > x266002))) = true then (none) else (if ((x5.toList == x7.toList) != (x265000 == x266000 && (x265001.toList == x266001.toList && (x265002 == x266002)))) = true then (none) else (if (x265000 == x266000 && (x265001.toList == x266001.toList && (x265002 == x266002))) = true then (some true) else (if 0 ≤ (mn (x5.size : Int) (x7.size : Int)) then (if (mn (x5.size : Int) (x7.size : Int)) ≤ (x5.size : Int) then (if (mn (x5.size : Int) (x7.size : Int)) ≤ (x7.size : Int) then (some ((x5.extract 0 ((mn (x5.size : Int) (x7.size : Int)) : Int).toNat).toList != (x7.extract 0 ((mn (x5.size : Int) (x7.size : Int)) : Int).toNat).toList)) else (none)) else (none)) else (none))))) else (if ((Op.bytesLess x5.toList x7.toList) != false) = true then (none) else (if ((x5.toList == x7.toList) != (x265000 == x266000 && (x265001.toList == x266001.toList && (x265002 == x266002)))) = true then (none) else (if (x265000 == x266000 && (x265001.toList == x266001.toList && (x265002 == x266002))) = true then (some true) else (if 0 ≤ (mn (x5.size : Int) (x7.size : Int)) then (if (mn (x5.size : Int) (x7.size : Int)) ≤ (x5.size : Int) then (if (mn (x5.size : Int) (x7.size : Int)) ≤ (x7.size : Int) then (some ((x5.extract 0 ((mn (x5.size : Int) (x7.size : Int)) : Int).toNat).toList != (x7.extract 0 ((mn (x5.size : Int) (x7.size : Int)) : Int).toNat).toList)) else (none)) else (none)) else (none))))))) else (if ((Op.bytesLess x5.toList x7.toList) != false) = true then (none) else (if ((x5.toList == x7.toList) != (x265000 == x266000 && (x265001.toList == x266001.toList && (x265002 == x266002)))) = true then (none) else (if (x265000 == x266000 && (x265001.toList == x266001.toList && (x265002 == x266002))) = true then (some true) else (if 0 ≤ (mn (x5.size : Int) (x7.size : Int)) then (if (mn (x5.size : Int) (x7.size : Int)) ≤ (x5.size : Int) then (if (mn (x5.size : Int) (x7.size : Int)) ≤ (x7.size : Int) then (some ((x5.extract 0 ((mn (x5.size : Int) (x7.size : Int)) : Int).toNat).toList != (x7.extract 0 ((mn (x5.size : Int) (x7.size : Int)) : Int).toNat).toList)) else (none)) else (none)) else (none)))))))
end
def screelaw02_KeyOrder.f (k : Nat) (a0_0 : Int) (a0_1 : ByteArray) (a0_2 : Int) (a1_0 : Int) (a1_1 : ByteArray) (a1_2 : Int) : Option (Bool) := (screelaw02_awake.f k).bind fun t266 => (if t266 = true then (if (a0_1.size : Int) > 1024 then (screelaw02_KeyOrder.j0 k true a0_0 a0_1 a0_2 a1_0 a1_1 a1_2) else (screelaw02_KeyOrder.j0 k (decide ((a1_1.size : Int) > 1024)) a0_0 a0_1 a0_2 a1_0 a1_1 a1_2)) else (none))
theorem screelaw02_KeyOrder.mono_l : ∀ k, (∀ y0 y1 y2 y3 y4 y5 y6, LeO (screelaw02_KeyOrder.j0 k y0 y1 y2 y3 y4 y5 y6) (screelaw02_KeyOrder.j0 (k + 1) y0 y1 y2 y3 y4 y5 y6)) ∧ (∀ y0 y1 y2 y3 y4 y5 y6 y7 y8, LeO (screelaw02_KeyOrder.j1 k y0 y1 y2 y3 y4 y5 y6 y7 y8) (screelaw02_KeyOrder.j1 (k + 1) y0 y1 y2 y3 y4 y5 y6 y7 y8))
  | 0 => ⟨fun _ _ _ _ _ _ _ r h => by simp [screelaw02_KeyOrder.j0] at h, fun _ _ _ _ _ _ _ _ _ r h => by simp [screelaw02_KeyOrder.j1] at h⟩
  | k + 1 => by
    obtain ⟨ih0, ih1⟩ := screelaw02_KeyOrder.mono_l k
    refine ⟨?_, ?_⟩
    · intro y0 y1 y2 y3 y4 y5 y6
      unfold screelaw02_KeyOrder.j0
      repeat' first
      | (with_reducible exact ih0 _ _ _ _ _ _ _)
      | (with_reducible exact ih1 _ _ _ _ _ _ _ _ _)
      | (with_reducible exact key_Make.mono _ _ _ _)
      | (with_reducible exact screelaw02_awake.mono _)
      | (with_reducible exact LeO.refl _)
      | (with_reducible exact LeO.none _)
      | (with_reducible refine LeO.ite ?_ ?_)
      | (with_reducible refine LeO.bind ?_ (fun _ => ?_))
      | exact ih0 _ _ _ _ _ _ _
      | exact ih1 _ _ _ _ _ _ _ _ _
      | exact key_Make.mono _ _ _ _
      | exact screelaw02_awake.mono _
      | exact LeO.none _
      | refine LeO.ite ?_ ?_
      | refine LeO.bind ?_ (fun _ => ?_)
    · intro y0 y1 y2 y3 y4 y5 y6 y7 y8
      unfold screelaw02_KeyOrder.j1
      repeat' first
      | (with_reducible exact ih0 _ _ _ _ _ _ _)
      | (with_reducible exact ih1 _ _ _ _ _ _ _ _ _)
      | (with_reducible exact key_Make.mono _ _ _ _)
      | (with_reducible exact screelaw02_awake.mono _)
      | (with_reducible exact LeO.refl _)
      | (with_reducible exact LeO.none _)
      | (with_reducible refine LeO.ite ?_ ?_)
      | (with_reducible refine LeO.bind ?_ (fun _ => ?_))
      | exact ih0 _ _ _ _ _ _ _
      | exact ih1 _ _ _ _ _ _ _ _ _
      | exact key_Make.mono _ _ _ _
      | exact screelaw02_awake.mono _
      | exact LeO.none _
      | refine LeO.ite ?_ ?_
      | refine LeO.bind ?_ (fun _ => ?_)
theorem screelaw02_KeyOrder.mono : ∀ a0 a1 a2 a3 a4 a5 k, LeO (screelaw02_KeyOrder.f k a0 a1 a2 a3 a4 a5) (screelaw02_KeyOrder.f (k + 1) a0 a1 a2 a3 a4 a5) := by
  intro a0 a1 a2 a3 a4 a5 k
  obtain ⟨ih0, ih1⟩ := screelaw02_KeyOrder.mono_l k
  unfold screelaw02_KeyOrder.f
  repeat' first
      | (with_reducible exact ih0 _ _ _ _ _ _ _)
      | (with_reducible exact ih1 _ _ _ _ _ _ _ _ _)
      | (with_reducible exact key_Make.mono _ _ _ _)
      | (with_reducible exact screelaw02_awake.mono _)
      | (with_reducible exact LeO.refl _)
      | (with_reducible exact LeO.none _)
      | (with_reducible refine LeO.ite ?_ ?_)
      | (with_reducible refine LeO.bind ?_ (fun _ => ?_))
      | exact ih0 _ _ _ _ _ _ _
      | exact ih1 _ _ _ _ _ _ _ _ _
      | exact key_Make.mono _ _ _ _
      | exact screelaw02_awake.mono _
      | exact LeO.none _
      | refine LeO.ite ?_ ?_
      | refine LeO.bind ?_ (fun _ => ?_)
set_option maxHeartbeats 8000000 in
set_option maxRecDepth 100000 in
theorem screelaw02_KeyOrder.calls (k : Nat) (a0_0 : Int) (a0_1 : ByteArray) (a0_2 : Int) (a1_0 : Int) (a1_1 : ByteArray) (a1_2 : Int) (r : Bool) (w : World) (h : screelaw02_KeyOrder.f k a0_0 a0_1 a0_2 a1_0 a1_1 a1_2 = some r) :
    Calls Try.prog 6 #[.agg #[.int .i64 a0_0, .string a0_1, .int .u64 a0_2], .agg #[.int .i64 a1_0, .string a1_1, .int .u64 a1_2]] w fun e w' => e = .returned (.bool r) ∧ Below w.heap.size w w' := by
  have hu24 := Try.underlying24
  have HB := Aside0.mk (Below.refl w.heap.size w)
  have H : ((screelaw02_awake.f k).bind fun t266 => (if t266 = true then (if (a0_1.size : Int) > 1024 then (screelaw02_KeyOrder.j0 k true a0_0 a0_1 a0_2 a1_0 a1_1 a1_2) else (screelaw02_KeyOrder.j0 k (decide ((a1_1.size : Int) > 1024)) a0_0 a0_1 a0_2 a1_0 a1_1 a1_2)) else (none))) = some r := h
  clear h
  replace H := Option.bind_eq_some_iff.mp H
  obtain ⟨t266, A30, H⟩ := H
  replace H : (if t266 = true then (if (a0_1.size : Int) > 1024 then (screelaw02_KeyOrder.j0 k true a0_0 a0_1 a0_2 a1_0 a1_1 a1_2) else (screelaw02_KeyOrder.j0 k (decide ((a1_1.size : Int) > 1024)) a0_0 a0_1 a0_2 a1_0 a1_1 a1_2)) else (none)) = some r := H
  have A3 := Aside0.mk A30
  clear A30
  by_cases c4 : t266 = true
  · subst c4
    have H1 : (if (a0_1.size : Int) > 1024 then (screelaw02_KeyOrder.j0 k true a0_0 a0_1 a0_2 a1_0 a1_1 a1_2) else (screelaw02_KeyOrder.j0 k (decide ((a1_1.size : Int) > 1024)) a0_0 a0_1 a0_2 a1_0 a1_1 a1_2)) = some r := by rw [if_pos rfl] at H; exact H
    clear H
    have H := H1
    clear H1
    have HC5 := Aside0.mk H
    clear H
    go_enter Try.func6, Try.ntmps6
    go_upto_region 3 with (first | ((with_reducible refine gate_dst (N := 2) rfl ?_); (try (refine gate_guard (by rfl) ?_; dsimp only)); refine box_event ?hg (N := 2) ?hd (cs := #[.int .i64 a0_0, .string a0_1, .int .u64 a0_2]) (t := 24) ?hr ?_; (case hd => rfl); (case hg => rfl); (case hr => first | (go_simp; done) | (go_simp; rfl)); intro gb264 hg w6 hbox hb; have n0_ := Aside0.mk (below_step (by repeat (first | (with_reducible first | exact HB.out | apply below_alloc | apply pw_below_drewN | apply below_drew1) | exact HB.out)) hb); have n1_ := Aside0.mk (hbox); have n2_ := Aside0.mk ((by rw [hg]; exact (below_size (by repeat (first | (with_reducible first | exact HB.out | apply below_alloc | apply pw_below_drewN | apply below_drew1) | exact HB.out))) : w.heap.size ≤ gb264)); have n3_ := Aside0.mk ((by rw [hg]; exact (below_size (by repeat (first | (with_reducible first | exact HB.out | apply below_alloc | apply pw_below_drewN | apply below_drew1) | exact HB.out))) : w.heap.size ≤ gb264)); clear HB; have HB := n0_; have BK264 := n1_; have GW264 := n2_; have GE264 := n3_; clear n0_ n1_ n2_ n3_; clear hb hbox hg) | ((with_reducible refine gate_dst (N := 3) rfl ?_); (try (refine gate_guard (by rfl) ?_; dsimp only)); refine box_event ?hg (N := 3) ?hd (cs := #[.int .i64 a1_0, .string a1_1, .int .u64 a1_2]) (t := 24) ?hr ?_; (case hd => rfl); (case hg => rfl); (case hr => first | (go_simp; done) | (go_simp; rfl)); intro gb265 hg w7 hbox hb; have n0_ := Aside0.mk (blk_below (g := gb264) (o := .cells #[.int .i64 a0_0, .string a0_1, .int .u64 a0_2] 24 (0, 0)) (by (with_reducible repeat (first | refine blk_drewN ?_ _ | refine blk_drew ?_ | refine blk_alloc ?_ _)); exact BK264.out) hb); have n1_ := Aside0.mk (below_step (by repeat (first | (with_reducible first | exact HB.out | apply below_alloc | apply pw_below_drewN | apply below_drew1 | refine below_set ?_ GE264.out) | exact HB.out)) hb); have n2_ := Aside0.mk (hbox); have n3_ := Aside0.mk ((by rw [hg]; exact (below_size (by repeat (first | (with_reducible first | exact HB.out | apply below_alloc | apply pw_below_drewN | apply below_drew1 | refine below_set ?_ GE264.out) | exact HB.out))) : w.heap.size ≤ gb265)); have n4_ := Aside0.mk ((by rw [hg]; exact (below_size (by repeat (first | (with_reducible first | exact HB.out | apply below_alloc | apply pw_below_drewN | apply below_drew1 | refine below_set ?_ GE264.out) | exact HB.out))) : w.heap.size ≤ gb265)); have n5_ := Aside0.mk ((by rw [hg]; exact Nat.ne_of_lt (blk_lt (g := gb264) (o := .cells #[.int .i64 a0_0, .string a0_1, .int .u64 a0_2] 24 (0, 0)) (by (with_reducible repeat (first | refine blk_drewN ?_ _ | refine blk_drew ?_ | refine blk_alloc ?_ _)); exact BK264.out)) : gb264 ≠ gb265)); have n6_ := Aside0.mk ((by rw [hg]; exact Nat.ne_of_gt (blk_lt (g := gb264) (o := .cells #[.int .i64 a0_0, .string a0_1, .int .u64 a0_2] 24 (0, 0)) (by (with_reducible repeat (first | refine blk_drewN ?_ _ | refine blk_drew ?_ | refine blk_alloc ?_ _)); exact BK264.out)) : gb265 ≠ gb264)); clear BK264; clear HB; have BK264 := n0_; have HB := n1_; have BK265 := n2_; have GW265 := n3_; have GE265 := n4_; have NB264_265 := n5_; have NB265_264 := n6_; clear n0_ n1_ n2_ n3_ n4_ n5_ n6_; clear hb hbox hg) | (go_at_call 10; (with_reducible refine (screelaw02_awake.calls k  true _ A3.out).mono ?_); rintro e w8 ⟨rfl, hb⟩; have n0_ := Aside0.mk (blk_below (g := gb264) (o := .cells #[.int .i64 a0_0, .string a0_1, .int .u64 a0_2] 24 (0, 0)) (by (with_reducible repeat (first | refine blk_drewN ?_ _ | refine blk_drew ?_ | refine blk_alloc ?_ _)); exact BK264.out) hb); have n1_ := Aside0.mk (blk_below (g := gb265) (o := .cells #[.int .i64 a1_0, .string a1_1, .int .u64 a1_2] 24 (0, 0)) (by (with_reducible repeat (first | refine blk_drewN ?_ _ | refine blk_drew ?_ | refine blk_alloc ?_ _)); exact BK265.out) hb); have n2_ := Aside0.mk (below_step (by repeat (first | (with_reducible first | exact HB.out | apply below_alloc | apply pw_below_drewN | apply below_drew1 | refine below_set ?_ GE264.out | refine below_set ?_ GE265.out) | exact HB.out)) hb); clear BK264; clear BK265; clear HB; have BK264 := n0_; have BK265 := n1_; have HB := n2_; clear n0_ n1_ n2_; (try clear hb); (try clear hb2); (try clear hk); (try clear hi); (try clear A3)))
    repeat (go_quiet (first | ((with_reducible refine gate_dst (N := 2) rfl ?_); (try (refine gate_guard (by rfl) ?_; dsimp only)); refine box_event ?hg (N := 2) ?hd (cs := #[.int .i64 a0_0, .string a0_1, .int .u64 a0_2]) (t := 24) ?hr ?_; (case hd => rfl); (case hg => rfl); (case hr => first | (go_simp; done) | (go_simp; rfl)); intro gb264 hg w6 hbox hb; have n0_ := Aside0.mk (below_step (by repeat (first | (with_reducible first | exact HB.out | apply below_alloc | apply pw_below_drewN | apply below_drew1) | exact HB.out)) hb); have n1_ := Aside0.mk (hbox); have n2_ := Aside0.mk ((by rw [hg]; exact (below_size (by repeat (first | (with_reducible first | exact HB.out | apply below_alloc | apply pw_below_drewN | apply below_drew1) | exact HB.out))) : w.heap.size ≤ gb264)); have n3_ := Aside0.mk ((by rw [hg]; exact (below_size (by repeat (first | (with_reducible first | exact HB.out | apply below_alloc | apply pw_below_drewN | apply below_drew1) | exact HB.out))) : w.heap.size ≤ gb264)); clear HB; have HB := n0_; have BK264 := n1_; have GW264 := n2_; have GE264 := n3_; clear n0_ n1_ n2_ n3_; clear hb hbox hg) | ((with_reducible refine gate_dst (N := 3) rfl ?_); (try (refine gate_guard (by rfl) ?_; dsimp only)); refine box_event ?hg (N := 3) ?hd (cs := #[.int .i64 a1_0, .string a1_1, .int .u64 a1_2]) (t := 24) ?hr ?_; (case hd => rfl); (case hg => rfl); (case hr => first | (go_simp; done) | (go_simp; rfl)); intro gb265 hg w7 hbox hb; have n0_ := Aside0.mk (blk_below (g := gb264) (o := .cells #[.int .i64 a0_0, .string a0_1, .int .u64 a0_2] 24 (0, 0)) (by (with_reducible repeat (first | refine blk_drewN ?_ _ | refine blk_drew ?_ | refine blk_alloc ?_ _)); exact BK264.out) hb); have n1_ := Aside0.mk (below_step (by repeat (first | (with_reducible first | exact HB.out | apply below_alloc | apply pw_below_drewN | apply below_drew1 | refine below_set ?_ GE264.out) | exact HB.out)) hb); have n2_ := Aside0.mk (hbox); have n3_ := Aside0.mk ((by rw [hg]; exact (below_size (by repeat (first | (with_reducible first | exact HB.out | apply below_alloc | apply pw_below_drewN | apply below_drew1 | refine below_set ?_ GE264.out) | exact HB.out))) : w.heap.size ≤ gb265)); have n4_ := Aside0.mk ((by rw [hg]; exact (below_size (by repeat (first | (with_reducible first | exact HB.out | apply below_alloc | apply pw_below_drewN | apply below_drew1 | refine below_set ?_ GE264.out) | exact HB.out))) : w.heap.size ≤ gb265)); have n5_ := Aside0.mk ((by rw [hg]; exact Nat.ne_of_lt (blk_lt (g := gb264) (o := .cells #[.int .i64 a0_0, .string a0_1, .int .u64 a0_2] 24 (0, 0)) (by (with_reducible repeat (first | refine blk_drewN ?_ _ | refine blk_drew ?_ | refine blk_alloc ?_ _)); exact BK264.out)) : gb264 ≠ gb265)); have n6_ := Aside0.mk ((by rw [hg]; exact Nat.ne_of_gt (blk_lt (g := gb264) (o := .cells #[.int .i64 a0_0, .string a0_1, .int .u64 a0_2] 24 (0, 0)) (by (with_reducible repeat (first | refine blk_drewN ?_ _ | refine blk_drew ?_ | refine blk_alloc ?_ _)); exact BK264.out)) : gb265 ≠ gb264)); clear BK264; clear HB; have BK264 := n0_; have HB := n1_; have BK265 := n2_; have GW265 := n3_; have GE265 := n4_; have NB264_265 := n5_; have NB265_264 := n6_; clear n0_ n1_ n2_ n3_ n4_ n5_ n6_; clear hb hbox hg) | (go_at_call 10; (with_reducible refine (screelaw02_awake.calls k  true _ A3.out).mono ?_); rintro e w8 ⟨rfl, hb⟩; have n0_ := Aside0.mk (blk_below (g := gb264) (o := .cells #[.int .i64 a0_0, .string a0_1, .int .u64 a0_2] 24 (0, 0)) (by (with_reducible repeat (first | refine blk_drewN ?_ _ | refine blk_drew ?_ | refine blk_alloc ?_ _)); exact BK264.out) hb); have n1_ := Aside0.mk (blk_below (g := gb265) (o := .cells #[.int .i64 a1_0, .string a1_1, .int .u64 a1_2] 24 (0, 0)) (by (with_reducible repeat (first | refine blk_drewN ?_ _ | refine blk_drew ?_ | refine blk_alloc ?_ _)); exact BK265.out) hb); have n2_ := Aside0.mk (below_step (by repeat (first | (with_reducible first | exact HB.out | apply below_alloc | apply pw_below_drewN | apply below_drew1 | refine below_set ?_ GE264.out | refine below_set ?_ GE265.out) | exact HB.out)) hb); clear BK264; clear BK265; clear HB; have BK264 := n0_; have BK265 := n1_; have HB := n2_; clear n0_ n1_ n2_; (try clear hb); (try clear hb2); (try clear hk); (try clear hi); (try clear A3))); go_upto_region 3 with (first | ((with_reducible refine gate_dst (N := 2) rfl ?_); (try (refine gate_guard (by rfl) ?_; dsimp only)); refine box_event ?hg (N := 2) ?hd (cs := #[.int .i64 a0_0, .string a0_1, .int .u64 a0_2]) (t := 24) ?hr ?_; (case hd => rfl); (case hg => rfl); (case hr => first | (go_simp; done) | (go_simp; rfl)); intro gb264 hg w6 hbox hb; have n0_ := Aside0.mk (below_step (by repeat (first | (with_reducible first | exact HB.out | apply below_alloc | apply pw_below_drewN | apply below_drew1) | exact HB.out)) hb); have n1_ := Aside0.mk (hbox); have n2_ := Aside0.mk ((by rw [hg]; exact (below_size (by repeat (first | (with_reducible first | exact HB.out | apply below_alloc | apply pw_below_drewN | apply below_drew1) | exact HB.out))) : w.heap.size ≤ gb264)); have n3_ := Aside0.mk ((by rw [hg]; exact (below_size (by repeat (first | (with_reducible first | exact HB.out | apply below_alloc | apply pw_below_drewN | apply below_drew1) | exact HB.out))) : w.heap.size ≤ gb264)); clear HB; have HB := n0_; have BK264 := n1_; have GW264 := n2_; have GE264 := n3_; clear n0_ n1_ n2_ n3_; clear hb hbox hg) | ((with_reducible refine gate_dst (N := 3) rfl ?_); (try (refine gate_guard (by rfl) ?_; dsimp only)); refine box_event ?hg (N := 3) ?hd (cs := #[.int .i64 a1_0, .string a1_1, .int .u64 a1_2]) (t := 24) ?hr ?_; (case hd => rfl); (case hg => rfl); (case hr => first | (go_simp; done) | (go_simp; rfl)); intro gb265 hg w7 hbox hb; have n0_ := Aside0.mk (blk_below (g := gb264) (o := .cells #[.int .i64 a0_0, .string a0_1, .int .u64 a0_2] 24 (0, 0)) (by (with_reducible repeat (first | refine blk_drewN ?_ _ | refine blk_drew ?_ | refine blk_alloc ?_ _)); exact BK264.out) hb); have n1_ := Aside0.mk (below_step (by repeat (first | (with_reducible first | exact HB.out | apply below_alloc | apply pw_below_drewN | apply below_drew1 | refine below_set ?_ GE264.out) | exact HB.out)) hb); have n2_ := Aside0.mk (hbox); have n3_ := Aside0.mk ((by rw [hg]; exact (below_size (by repeat (first | (with_reducible first | exact HB.out | apply below_alloc | apply pw_below_drewN | apply below_drew1 | refine below_set ?_ GE264.out) | exact HB.out))) : w.heap.size ≤ gb265)); have n4_ := Aside0.mk ((by rw [hg]; exact (below_size (by repeat (first | (with_reducible first | exact HB.out | apply below_alloc | apply pw_below_drewN | apply below_drew1 | refine below_set ?_ GE264.out) | exact HB.out))) : w.heap.size ≤ gb265)); have n5_ := Aside0.mk ((by rw [hg]; exact Nat.ne_of_lt (blk_lt (g := gb264) (o := .cells #[.int .i64 a0_0, .string a0_1, .int .u64 a0_2] 24 (0, 0)) (by (with_reducible repeat (first | refine blk_drewN ?_ _ | refine blk_drew ?_ | refine blk_alloc ?_ _)); exact BK264.out)) : gb264 ≠ gb265)); have n6_ := Aside0.mk ((by rw [hg]; exact Nat.ne_of_gt (blk_lt (g := gb264) (o := .cells #[.int .i64 a0_0, .string a0_1, .int .u64 a0_2] 24 (0, 0)) (by (with_reducible repeat (first | refine blk_drewN ?_ _ | refine blk_drew ?_ | refine blk_alloc ?_ _)); exact BK264.out)) : gb265 ≠ gb264)); clear BK264; clear HB; have BK264 := n0_; have HB := n1_; have BK265 := n2_; have GW265 := n3_; have GE265 := n4_; have NB264_265 := n5_; have NB265_264 := n6_; clear n0_ n1_ n2_ n3_ n4_ n5_ n6_; clear hb hbox hg) | (go_at_call 10; (with_reducible refine (screelaw02_awake.calls k  true _ A3.out).mono ?_); rintro e w8 ⟨rfl, hb⟩; have n0_ := Aside0.mk (blk_below (g := gb264) (o := .cells #[.int .i64 a0_0, .string a0_1, .int .u64 a0_2] 24 (0, 0)) (by (with_reducible repeat (first | refine blk_drewN ?_ _ | refine blk_drew ?_ | refine blk_alloc ?_ _)); exact BK264.out) hb); have n1_ := Aside0.mk (blk_below (g := gb265) (o := .cells #[.int .i64 a1_0, .string a1_1, .int .u64 a1_2] 24 (0, 0)) (by (with_reducible repeat (first | refine blk_drewN ?_ _ | refine blk_drew ?_ | refine blk_alloc ?_ _)); exact BK265.out) hb); have n2_ := Aside0.mk (below_step (by repeat (first | (with_reducible first | exact HB.out | apply below_alloc | apply pw_below_drewN | apply below_drew1 | refine below_set ?_ GE264.out | refine below_set ?_ GE265.out) | exact HB.out)) hb); clear BK264; clear BK265; clear HB; have BK264 := n0_; have BK265 := n1_; have HB := n2_; clear n0_ n1_ n2_; (try clear hb); (try clear hb2); (try clear hk); (try clear hi); (try clear A3))))
    (try simp only [Act.put, List.setIfInBounds_toArray, List.set_cons_zero, List.set_cons_succ])
    go_cut [22] (fun v22 wc => ∃ (kq : Nat) (x22_4 : Bool), v22 = .bool x22_4 ∧ Aside0 (screelaw02_KeyOrder.j0 kq x22_4 a0_0 a0_1 a0_2 a1_0 a1_1 a1_2 = some r) ∧ Aside0 (kq ≤ k) ∧ Aside0 (wc.heap[gb264]? = some (.cells #[.int .i64 a0_0, .string a0_1, .int .u64 a0_2] 24 (0, 0))) ∧ Aside0 (wc.heap[gb265]? = some (.cells #[.int .i64 a1_0, .string a1_1, .int .u64 a1_2] 24 (0, 0))) ∧ Aside0 (Below w.heap.size w wc))
    case first =>
      have H := HC5.out
      clear HC5
      by_cases c9 : (a0_1.size : Int) > 1024
      · rw [if_pos c9] at H
        have c9b0 : decide (1024 < (a0_1.size : Int)) = true := decide_eq_true c9
        have c9b1 : decide (1024 < a0_1.size) = true := decide_eq_true (by omega)
        clear c9
        (first | rw [c9b0] | (simp only [i64_w, i32_w]; rw [c9b0]) | skip)
        have H' := Aside0.mk H
        clear H
        have hnb10 := NB264_265.out
        have hnc10 := NB265_264.out
        have hcz11_0 : w8.cell? ⟨gb264, 0, none⟩ = some (.int .i64 a0_0) := (blk_cell BK264.out 0).trans rfl
        have hcz11_1 : w8.cell? ⟨gb264, 1, none⟩ = some (.string a0_1) := (blk_cell BK264.out 1).trans rfl
        have hcz11_2 : w8.cell? ⟨gb264, 2, none⟩ = some (.int .u64 a0_2) := (blk_cell BK264.out 2).trans rfl
        have hfz11_0 := blk_frozen BK264.out 0
        have hfz11_1 := blk_frozen BK264.out 1
        have hfz11_2 := blk_frozen BK264.out 2
        go_wp2
        repeat (go_quiet (fail); try go_wp2)
        go_meet
        case rel => exact ⟨_, (true), (by first | rfl | (simp; done) | (simp [*]; done)), (by first | (with_reducible exact H') | exact H' | (subst_vars; exact H')), ⟨by first | omega | exact Nat.le_refl _⟩, ⟨by (with_reducible repeat (first | refine blk_drewN ?_ _ | refine blk_drew ?_ | refine blk_alloc ?_ _)); exact BK264.out⟩, ⟨by (with_reducible repeat (first | refine blk_drewN ?_ _ | refine blk_drew ?_ | refine blk_alloc ?_ _)); exact BK265.out⟩, ⟨by repeat (first | (with_reducible first | exact HB.out | apply below_alloc | apply pw_below_drewN | apply below_drew1 | refine below_set ?_ GE264.out | refine below_set ?_ GE265.out) | exact HB.out)⟩⟩
      · rw [if_neg c9] at H
        have c9b0 : decide (1024 < (a0_1.size : Int)) = false := decide_eq_false c9
        have c9b1 : decide (1024 < a0_1.size) = false := decide_eq_false (by omega)
        clear c9
        (first | rw [c9b0] | (simp only [i64_w, i32_w]; rw [c9b0]) | skip)
        have H' := Aside0.mk H
        clear H
        have hnb12 := NB264_265.out
        have hnc12 := NB265_264.out
        have hcz13_0 : w8.cell? ⟨gb264, 0, none⟩ = some (.int .i64 a0_0) := (blk_cell BK264.out 0).trans rfl
        have hcz13_1 : w8.cell? ⟨gb264, 1, none⟩ = some (.string a0_1) := (blk_cell BK264.out 1).trans rfl
        have hcz13_2 : w8.cell? ⟨gb264, 2, none⟩ = some (.int .u64 a0_2) := (blk_cell BK264.out 2).trans rfl
        have hfz13_0 := blk_frozen BK264.out 0
        have hfz13_1 := blk_frozen BK264.out 1
        have hfz13_2 := blk_frozen BK264.out 2
        have hcz14_0 : w8.cell? ⟨gb265, 0, none⟩ = some (.int .i64 a1_0) := (blk_cell BK265.out 0).trans rfl
        have hcz14_1 : w8.cell? ⟨gb265, 1, none⟩ = some (.string a1_1) := (blk_cell BK265.out 1).trans rfl
        have hcz14_2 : w8.cell? ⟨gb265, 2, none⟩ = some (.int .u64 a1_2) := (blk_cell BK265.out 2).trans rfl
        have hfz14_0 := blk_frozen BK265.out 0
        have hfz14_1 := blk_frozen BK265.out 1
        have hfz14_2 := blk_frozen BK265.out 2
        go_wp2
        repeat (go_quiet (fail); try go_wp2)
        go_meet
        case rel => exact ⟨_, (decide ((a1_1.size : Int) > 1024)), (by first | rfl | (simp; done) | (simp [*]; done)), (by first | (with_reducible exact H') | exact H' | (subst_vars; exact H')), ⟨by first | omega | exact Nat.le_refl _⟩, ⟨by (with_reducible repeat (first | refine blk_drewN ?_ _ | refine blk_drew ?_ | refine blk_alloc ?_ _)); exact BK264.out⟩, ⟨by (with_reducible repeat (first | refine blk_drewN ?_ _ | refine blk_drew ?_ | refine blk_alloc ?_ _)); exact BK265.out⟩, ⟨by repeat (first | (with_reducible first | exact HB.out | apply below_alloc | apply pw_below_drewN | apply below_drew1 | refine below_set ?_ GE264.out | refine below_set ?_ GE265.out) | exact HB.out)⟩⟩
    case rest =>
      clear HC5
      try clear c1
      try clear p2
      try clear c4
      try clear c6
      try clear c9
      try clear c9b0
      try clear c9b1
      try clear c10
      try clear c12
      try clear hcz11_0
      try clear hcz11_1
      try clear hcz11_2
      try clear hcz13_0
      try clear hcz13_1
      try clear hcz13_2
      try clear hcz14_0
      try clear hcz14_1
      try clear hcz14_2
      try clear hfz11_0
      try clear hfz11_1
      try clear hfz11_2
      try clear hfz13_0
      try clear hfz13_1
      try clear hfz13_2
      try clear hfz14_0
      try clear hfz14_1
      try clear hfz14_2
      obtain ⟨kq, x22_4, rfl, HA, HJ4, BK264, BK265, HB⟩ := hcut
      cases kq with
      | zero => exact absurd HA.out (by simp [screelaw02_KeyOrder.j0])
      | succ kj4 =>
        have H := HA.out
        clear HA
        simp only [screelaw02_KeyOrder.j0] at H
        by_cases c15 : x22_4 = true
        · subst c15
          have H1 : (some true) = some r := by rw [if_pos rfl] at H; exact H
          clear H
          have H := H1
          clear H1
          obtain rfl := Option.some.inj H
          go_wp2
          repeat (go_quiet (fail); try go_wp2)
          go_ret
          exact ⟨by first | rfl | (simp [errW_none, errW_some] <;> rfl) | (simp (disch := omega) only [← i64_w, IntWalk.i64_in]; rfl) | (simp [*, errW_none, errW_some] <;> rfl), by repeat (first | (with_reducible first | exact HB.out | apply below_alloc | apply pw_below_drewN | apply below_drew1 | refine below_set ?_ GE264.out | refine below_set ?_ GE265.out) | exact HB.out)⟩
        · replace c15 := Bool.eq_false_iff.mpr c15
          subst c15
          have H1 : ((key_Make.f kj4 a0_0 a0_1 a0_2).bind fun bt267 => ((key_Make.f kj4 a1_0 a1_1 a1_2).bind fun bt269 => (if bt267.2 = 0 then (screelaw02_KeyOrder.j1 kj4 bt267.1 bt269.1 (bt269.2 != 0) a0_0 a0_1 a0_2 a1_0 a1_1 a1_2) else (screelaw02_KeyOrder.j1 kj4 bt267.1 bt269.1 true a0_0 a0_1 a0_2 a1_0 a1_1 a1_2)))) = some r := by rw [if_neg (show ¬ (false = true) by decide)] at H; exact H
          clear H
          have H := H1
          clear H1
          replace H := Option.bind_eq_some_iff.mp H
          obtain ⟨⟨t267, t268⟩, A160, H⟩ := H
          replace H : ((key_Make.f kj4 a1_0 a1_1 a1_2).bind fun bt269 => (if t268 = 0 then (screelaw02_KeyOrder.j1 kj4 t267 bt269.1 (bt269.2 != 0) a0_0 a0_1 a0_2 a1_0 a1_1 a1_2) else (screelaw02_KeyOrder.j1 kj4 t267 bt269.1 true a0_0 a0_1 a0_2 a1_0 a1_1 a1_2))) = some r := H
          have A16 := Aside0.mk A160
          clear A160
          replace H := Option.bind_eq_some_iff.mp H
          obtain ⟨⟨t269, t270⟩, A170, H⟩ := H
          replace H : (if t268 = 0 then (screelaw02_KeyOrder.j1 kj4 t267 t269 (t270 != 0) a0_0 a0_1 a0_2 a1_0 a1_1 a1_2) else (screelaw02_KeyOrder.j1 kj4 t267 t269 true a0_0 a0_1 a0_2 a1_0 a1_1 a1_2)) = some r := H
          have A17 := Aside0.mk A170
          clear A170
          have HC18 := Aside0.mk H
          clear H
          have hnb19 := NB264_265.out
          have hnc19 := NB265_264.out
          have hcz20_0 : wc.cell? ⟨gb264, 0, none⟩ = some (.int .i64 a0_0) := (blk_cell BK264.out 0).trans rfl
          have hcz20_1 : wc.cell? ⟨gb264, 1, none⟩ = some (.string a0_1) := (blk_cell BK264.out 1).trans rfl
          have hcz20_2 : wc.cell? ⟨gb264, 2, none⟩ = some (.int .u64 a0_2) := (blk_cell BK264.out 2).trans rfl
          have hfz20_0 := blk_frozen BK264.out 0
          have hfz20_1 := blk_frozen BK264.out 1
          have hfz20_2 := blk_frozen BK264.out 2
          go_upto_region 7 with (first | (go_at_call 11; (with_reducible refine (key_Make.calls kj4 a0_0 a0_1 a0_2 t267 t268 _ A16.out).mono ?_); rintro e w21 ⟨rfl, hb⟩; have n0_ := Aside0.mk (blk_below (g := gb264) (o := .cells #[.int .i64 a0_0, .string a0_1, .int .u64 a0_2] 24 (0, 0)) (by (with_reducible repeat (first | refine blk_drewN ?_ _ | refine blk_drew ?_ | refine blk_alloc ?_ _)); exact BK264.out) hb); have n1_ := Aside0.mk (blk_below (g := gb265) (o := .cells #[.int .i64 a1_0, .string a1_1, .int .u64 a1_2] 24 (0, 0)) (by (with_reducible repeat (first | refine blk_drewN ?_ _ | refine blk_drew ?_ | refine blk_alloc ?_ _)); exact BK265.out) hb); have n2_ := Aside0.mk (below_step (by repeat (first | (with_reducible first | exact HB.out | apply below_alloc | apply pw_below_drewN | apply below_drew1 | refine below_set ?_ GE264.out | refine below_set ?_ GE265.out) | exact HB.out)) hb); clear BK264; clear BK265; clear HB; have BK264 := n0_; have BK265 := n1_; have HB := n2_; clear n0_ n1_ n2_; (try clear hb); (try clear hb2); (try clear hk); (try clear hi); (try clear A16); have hcz22_0 : w21.cell? ⟨gb265, 0, none⟩ = some (.int .i64 a1_0) := (blk_cell BK265.out 0).trans rfl; have hcz22_1 : w21.cell? ⟨gb265, 1, none⟩ = some (.string a1_1) := (blk_cell BK265.out 1).trans rfl; have hcz22_2 : w21.cell? ⟨gb265, 2, none⟩ = some (.int .u64 a1_2) := (blk_cell BK265.out 2).trans rfl; have hfz22_0 := blk_frozen BK265.out 0; have hfz22_1 := blk_frozen BK265.out 1; have hfz22_2 := blk_frozen BK265.out 2) | (go_at_call 11; (with_reducible refine (key_Make.calls kj4 a1_0 a1_1 a1_2 t269 t270 _ A17.out).mono ?_); rintro e w23 ⟨rfl, hb⟩; have n0_ := Aside0.mk (blk_below (g := gb264) (o := .cells #[.int .i64 a0_0, .string a0_1, .int .u64 a0_2] 24 (0, 0)) (by (with_reducible repeat (first | refine blk_drewN ?_ _ | refine blk_drew ?_ | refine blk_alloc ?_ _)); exact BK264.out) hb); have n1_ := Aside0.mk (blk_below (g := gb265) (o := .cells #[.int .i64 a1_0, .string a1_1, .int .u64 a1_2] 24 (0, 0)) (by (with_reducible repeat (first | refine blk_drewN ?_ _ | refine blk_drew ?_ | refine blk_alloc ?_ _)); exact BK265.out) hb); have n2_ := Aside0.mk (below_step (by repeat (first | (with_reducible first | exact HB.out | apply below_alloc | apply pw_below_drewN | apply below_drew1 | refine below_set ?_ GE264.out | refine below_set ?_ GE265.out) | exact HB.out)) hb); clear BK264; clear BK265; clear HB; have BK264 := n0_; have BK265 := n1_; have HB := n2_; clear n0_ n1_ n2_; (try clear hb); (try clear hb2); (try clear hk); (try clear hi); (try clear A17)))
          repeat (go_quiet (first | (go_at_call 11; (with_reducible refine (key_Make.calls kj4 a0_0 a0_1 a0_2 t267 t268 _ A16.out).mono ?_); rintro e w21 ⟨rfl, hb⟩; have n0_ := Aside0.mk (blk_below (g := gb264) (o := .cells #[.int .i64 a0_0, .string a0_1, .int .u64 a0_2] 24 (0, 0)) (by (with_reducible repeat (first | refine blk_drewN ?_ _ | refine blk_drew ?_ | refine blk_alloc ?_ _)); exact BK264.out) hb); have n1_ := Aside0.mk (blk_below (g := gb265) (o := .cells #[.int .i64 a1_0, .string a1_1, .int .u64 a1_2] 24 (0, 0)) (by (with_reducible repeat (first | refine blk_drewN ?_ _ | refine blk_drew ?_ | refine blk_alloc ?_ _)); exact BK265.out) hb); have n2_ := Aside0.mk (below_step (by repeat (first | (with_reducible first | exact HB.out | apply below_alloc | apply pw_below_drewN | apply below_drew1 | refine below_set ?_ GE264.out | refine below_set ?_ GE265.out) | exact HB.out)) hb); clear BK264; clear BK265; clear HB; have BK264 := n0_; have BK265 := n1_; have HB := n2_; clear n0_ n1_ n2_; (try clear hb); (try clear hb2); (try clear hk); (try clear hi); (try clear A16); have hcz22_0 : w21.cell? ⟨gb265, 0, none⟩ = some (.int .i64 a1_0) := (blk_cell BK265.out 0).trans rfl; have hcz22_1 : w21.cell? ⟨gb265, 1, none⟩ = some (.string a1_1) := (blk_cell BK265.out 1).trans rfl; have hcz22_2 : w21.cell? ⟨gb265, 2, none⟩ = some (.int .u64 a1_2) := (blk_cell BK265.out 2).trans rfl; have hfz22_0 := blk_frozen BK265.out 0; have hfz22_1 := blk_frozen BK265.out 1; have hfz22_2 := blk_frozen BK265.out 2) | (go_at_call 11; (with_reducible refine (key_Make.calls kj4 a1_0 a1_1 a1_2 t269 t270 _ A17.out).mono ?_); rintro e w23 ⟨rfl, hb⟩; have n0_ := Aside0.mk (blk_below (g := gb264) (o := .cells #[.int .i64 a0_0, .string a0_1, .int .u64 a0_2] 24 (0, 0)) (by (with_reducible repeat (first | refine blk_drewN ?_ _ | refine blk_drew ?_ | refine blk_alloc ?_ _)); exact BK264.out) hb); have n1_ := Aside0.mk (blk_below (g := gb265) (o := .cells #[.int .i64 a1_0, .string a1_1, .int .u64 a1_2] 24 (0, 0)) (by (with_reducible repeat (first | refine blk_drewN ?_ _ | refine blk_drew ?_ | refine blk_alloc ?_ _)); exact BK265.out) hb); have n2_ := Aside0.mk (below_step (by repeat (first | (with_reducible first | exact HB.out | apply below_alloc | apply pw_below_drewN | apply below_drew1 | refine below_set ?_ GE264.out | refine below_set ?_ GE265.out) | exact HB.out)) hb); clear BK264; clear BK265; clear HB; have BK264 := n0_; have BK265 := n1_; have HB := n2_; clear n0_ n1_ n2_; (try clear hb); (try clear hb2); (try clear hk); (try clear hi); (try clear A17))); go_upto_region 7 with (first | (go_at_call 11; (with_reducible refine (key_Make.calls kj4 a0_0 a0_1 a0_2 t267 t268 _ A16.out).mono ?_); rintro e w21 ⟨rfl, hb⟩; have n0_ := Aside0.mk (blk_below (g := gb264) (o := .cells #[.int .i64 a0_0, .string a0_1, .int .u64 a0_2] 24 (0, 0)) (by (with_reducible repeat (first | refine blk_drewN ?_ _ | refine blk_drew ?_ | refine blk_alloc ?_ _)); exact BK264.out) hb); have n1_ := Aside0.mk (blk_below (g := gb265) (o := .cells #[.int .i64 a1_0, .string a1_1, .int .u64 a1_2] 24 (0, 0)) (by (with_reducible repeat (first | refine blk_drewN ?_ _ | refine blk_drew ?_ | refine blk_alloc ?_ _)); exact BK265.out) hb); have n2_ := Aside0.mk (below_step (by repeat (first | (with_reducible first | exact HB.out | apply below_alloc | apply pw_below_drewN | apply below_drew1 | refine below_set ?_ GE264.out | refine below_set ?_ GE265.out) | exact HB.out)) hb); clear BK264; clear BK265; clear HB; have BK264 := n0_; have BK265 := n1_; have HB := n2_; clear n0_ n1_ n2_; (try clear hb); (try clear hb2); (try clear hk); (try clear hi); (try clear A16); have hcz22_0 : w21.cell? ⟨gb265, 0, none⟩ = some (.int .i64 a1_0) := (blk_cell BK265.out 0).trans rfl; have hcz22_1 : w21.cell? ⟨gb265, 1, none⟩ = some (.string a1_1) := (blk_cell BK265.out 1).trans rfl; have hcz22_2 : w21.cell? ⟨gb265, 2, none⟩ = some (.int .u64 a1_2) := (blk_cell BK265.out 2).trans rfl; have hfz22_0 := blk_frozen BK265.out 0; have hfz22_1 := blk_frozen BK265.out 1; have hfz22_2 := blk_frozen BK265.out 2) | (go_at_call 11; (with_reducible refine (key_Make.calls kj4 a1_0 a1_1 a1_2 t269 t270 _ A17.out).mono ?_); rintro e w23 ⟨rfl, hb⟩; have n0_ := Aside0.mk (blk_below (g := gb264) (o := .cells #[.int .i64 a0_0, .string a0_1, .int .u64 a0_2] 24 (0, 0)) (by (with_reducible repeat (first | refine blk_drewN ?_ _ | refine blk_drew ?_ | refine blk_alloc ?_ _)); exact BK264.out) hb); have n1_ := Aside0.mk (blk_below (g := gb265) (o := .cells #[.int .i64 a1_0, .string a1_1, .int .u64 a1_2] 24 (0, 0)) (by (with_reducible repeat (first | refine blk_drewN ?_ _ | refine blk_drew ?_ | refine blk_alloc ?_ _)); exact BK265.out) hb); have n2_ := Aside0.mk (below_step (by repeat (first | (with_reducible first | exact HB.out | apply below_alloc | apply pw_below_drewN | apply below_drew1 | refine below_set ?_ GE264.out | refine below_set ?_ GE265.out) | exact HB.out)) hb); clear BK264; clear BK265; clear HB; have BK264 := n0_; have BK265 := n1_; have HB := n2_; clear n0_ n1_ n2_; (try clear hb); (try clear hb2); (try clear hk); (try clear hi); (try clear A17))))
          (try simp only [Act.put, List.setIfInBounds_toArray, List.set_cons_zero, List.set_cons_succ])
          go_cut [38] (fun v38 wc => ∃ (kq : Nat) (x38_17 : Bool), v38 = .bool x38_17 ∧ Aside0 (screelaw02_KeyOrder.j1 kq t267 t269 x38_17 a0_0 a0_1 a0_2 a1_0 a1_1 a1_2 = some r) ∧ Aside0 (kq ≤ kj4) ∧ Aside0 (wc.heap[gb264]? = some (.cells #[.int .i64 a0_0, .string a0_1, .int .u64 a0_2] 24 (0, 0))) ∧ Aside0 (wc.heap[gb265]? = some (.cells #[.int .i64 a1_0, .string a1_1, .int .u64 a1_2] 24 (0, 0))) ∧ Aside0 (Below w.heap.size w wc))
          case first =>
            have H := HC18.out
            clear HC18
            by_cases c24 : t268 = 0
            · rw [if_pos c24] at H
              have c24b0 : (t268 == 0) = true := beq_iff_eq.mpr c24
              have c24b1 : (t268 != 0) = false := bne_eq_false_iff_eq.mpr c24
              clear c24
              (first | rw [c24b0] | (simp only [i64_w, i32_w]; rw [c24b0]) | skip)
              have H' := Aside0.mk H
              clear H
              go_wp2
              repeat (go_quiet (fail); try go_wp2)
              go_meet
              case rel => exact ⟨_, ((t270 != 0)), (by first | rfl | (simp; done) | (simp [*]; done)), (by first | (with_reducible exact H') | exact H' | (subst_vars; exact H')), ⟨by have := HJ4.out; first | omega | exact Nat.le_refl _⟩, ⟨by (with_reducible repeat (first | refine blk_drewN ?_ _ | refine blk_drew ?_ | refine blk_alloc ?_ _)); exact BK264.out⟩, ⟨by (with_reducible repeat (first | refine blk_drewN ?_ _ | refine blk_drew ?_ | refine blk_alloc ?_ _)); exact BK265.out⟩, ⟨by repeat (first | (with_reducible first | exact HB.out | apply below_alloc | apply pw_below_drewN | apply below_drew1 | refine below_set ?_ GE264.out | refine below_set ?_ GE265.out) | exact HB.out)⟩⟩
            · rw [if_neg c24] at H
              have c24b0 : (t268 == 0) = false := beq_eq_false_iff_ne.mpr c24
              have c24b1 : (t268 != 0) = true := bne_iff_ne.mpr c24
              (first | rw [c24b0] | (simp only [i64_w, i32_w]; rw [c24b0]) | skip)
              have H' := Aside0.mk H
              clear H
              go_wp2
              repeat (go_quiet (fail); try go_wp2)
              go_meet
              case rel => exact ⟨_, (true), (by first | rfl | (simp; done) | (simp [*]; done)), (by first | (with_reducible exact H') | exact H' | (subst_vars; exact H')), ⟨by have := HJ4.out; first | omega | exact Nat.le_refl _⟩, ⟨by (with_reducible repeat (first | refine blk_drewN ?_ _ | refine blk_drew ?_ | refine blk_alloc ?_ _)); exact BK264.out⟩, ⟨by (with_reducible repeat (first | refine blk_drewN ?_ _ | refine blk_drew ?_ | refine blk_alloc ?_ _)); exact BK265.out⟩, ⟨by repeat (first | (with_reducible first | exact HB.out | apply below_alloc | apply pw_below_drewN | apply below_drew1 | refine below_set ?_ GE264.out | refine below_set ?_ GE265.out) | exact HB.out)⟩⟩
          case rest =>
            clear HC18
            try clear c1
            try clear c2
            try clear p2
            try clear c4
            try clear c6
            try clear c9
            try clear c9b0
            try clear c9b1
            try clear c10
            try clear c12
            try clear c15
            try clear c19
            try clear c24
            try clear c24b0
            try clear c24b1
            try clear hcz11_0
            try clear hcz11_1
            try clear hcz11_2
            try clear hcz13_0
            try clear hcz13_1
            try clear hcz13_2
            try clear hcz14_0
            try clear hcz14_1
            try clear hcz14_2
            try clear hcz20_0
            try clear hcz20_1
            try clear hcz20_2
            try clear hcz22_0
            try clear hcz22_1
            try clear hcz22_2
            try clear hfz11_0
            try clear hfz11_1
            try clear hfz11_2
            try clear hfz13_0
            try clear hfz13_1
            try clear hfz13_2
            try clear hfz14_0
            try clear hfz14_1
            try clear hfz14_2
            try clear hfz20_0
            try clear hfz20_1
            try clear hfz20_2
            try clear hfz22_0
            try clear hfz22_1
            try clear hfz22_2
            try clear p2
            obtain ⟨kq, x38_17, rfl, HA, HJ17, BK264, BK265, HB⟩ := hcut
            cases kq with
            | zero => exact absurd HA.out (by simp [screelaw02_KeyOrder.j1])
            | succ kj17 =>
              have H := HA.out
              clear HA
              simp only [screelaw02_KeyOrder.j1] at H
              by_cases c25 : x38_17 = true
              · subst c25
                have H1 : (some true) = some r := by rw [if_pos rfl] at H; exact H
                clear H
                have H := H1
                clear H1
                obtain rfl := Option.some.inj H
                go_wp2
                repeat (go_quiet (fail); try go_wp2)
                go_ret
                exact ⟨by first | rfl | (simp [errW_none, errW_some] <;> rfl) | (simp (disch := omega) only [← i64_w, IntWalk.i64_in]; rfl) | (simp [*, errW_none, errW_some] <;> rfl), by repeat (first | (with_reducible first | exact HB.out | apply below_alloc | apply pw_below_drewN | apply below_drew1 | refine below_set ?_ GE264.out | refine below_set ?_ GE265.out) | exact HB.out)⟩
              · replace c25 := Bool.eq_false_iff.mpr c25
                subst c25
                have H1 : (if a0_0 < a1_0 then (if ((Op.bytesLess t267.toList t269.toList) != true) = true then (none) else (if ((t267.toList == t269.toList) != (a0_0 == a1_0 && (a0_1.toList == a1_1.toList && (a0_2 == a1_2)))) = true then (none) else (if (a0_0 == a1_0 && (a0_1.toList == a1_1.toList && (a0_2 == a1_2))) = true then (some true) else (if 0 ≤ (mn (t267.size : Int) (t269.size : Int)) then (if (mn (t267.size : Int) (t269.size : Int)) ≤ (t267.size : Int) then (if (mn (t267.size : Int) (t269.size : Int)) ≤ (t269.size : Int) then (some ((t267.extract 0 ((mn (t267.size : Int) (t269.size : Int)) : Int).toNat).toList != (t269.extract 0 ((mn (t267.size : Int) (t269.size : Int)) : Int).toNat).toList)) else (none)) else (none)) else (none))))) else (if a0_0 = a1_0 then (if (Op.bytesLess a0_1.toList a1_1.toList) = true then (if ((Op.bytesLess t267.toList t269.toList) != true) = true then (none) else (if ((t267.toList == t269.toList) != (a0_0 == a1_0 && (a0_1.toList == a1_1.toList && (a0_2 == a1_2)))) = true then (none) else (if (a0_0 == a1_0 && (a0_1.toList == a1_1.toList && (a0_2 == a1_2))) = true then (some true) else (if 0 ≤ (mn (t267.size : Int) (t269.size : Int)) then (if (mn (t267.size : Int) (t269.size : Int)) ≤ (t267.size : Int) then (if (mn (t267.size : Int) (t269.size : Int)) ≤ (t269.size : Int) then (some ((t267.extract 0 ((mn (t267.size : Int) (t269.size : Int)) : Int).toNat).toList != (t269.extract 0 ((mn (t267.size : Int) (t269.size : Int)) : Int).toNat).toList)) else (none)) else (none)) else (none))))) else (if a0_1.toList = a1_1.toList then (if ((Op.bytesLess t267.toList t269.toList) != (decide (a0_2 > a1_2))) = true then (none) else (if ((t267.toList == t269.toList) != (a0_0 == a1_0 && (a0_1.toList == a1_1.toList && (a0_2 == a1_2)))) = true then (none) else (if (a0_0 == a1_0 && (a0_1.toList == a1_1.toList && (a0_2 == a1_2))) = true then (some true) else (if 0 ≤ (mn (t267.size : Int) (t269.size : Int)) then (if (mn (t267.size : Int) (t269.size : Int)) ≤ (t267.size : Int) then (if (mn (t267.size : Int) (t269.size : Int)) ≤ (t269.size : Int) then (some ((t267.extract 0 ((mn (t267.size : Int) (t269.size : Int)) : Int).toNat).toList != (t269.extract 0 ((mn (t267.size : Int) (t269.size : Int)) : Int).toNat).toList)) else (none)) else (none)) else (none))))) else (if ((Op.bytesLess t267.toList t269.toList) != false) = true then (none) else (if ((t267.toList == t269.toList) != (a0_0 == a1_0 && (a0_1.toList == a1_1.toList && (a0_2 == a1_2)))) = true then (none) else (if (a0_0 == a1_0 && (a0_1.toList == a1_1.toList && (a0_2 == a1_2))) = true then (some true) else (if 0 ≤ (mn (t267.size : Int) (t269.size : Int)) then (if (mn (t267.size : Int) (t269.size : Int)) ≤ (t267.size : Int) then (if (mn (t267.size : Int) (t269.size : Int)) ≤ (t269.size : Int) then (some ((t267.extract 0 ((mn (t267.size : Int) (t269.size : Int)) : Int).toNat).toList != (t269.extract 0 ((mn (t267.size : Int) (t269.size : Int)) : Int).toNat).toList)) else (none)) else (none)) else (none))))))) else (if ((Op.bytesLess t267.toList t269.toList) != false) = true then (none) else (if ((t267.toList == t269.toList) != (a0_0 == a1_0 && (a0_1.toList == a1_1.toList && (a0_2 == a1_2)))) = true then (none) else (if (a0_0 == a1_0 && (a0_1.toList == a1_1.toList && (a0_2 == a1_2))) = true then (some true) else (if 0 ≤ (mn (t267.size : Int) (t269.size : Int)) then (if (mn (t267.size : Int) (t269.size : Int)) ≤ (t267.size : Int) then (if (mn (t267.size : Int) (t269.size : Int)) ≤ (t269.size : Int) then (some ((t267.extract 0 ((mn (t267.size : Int) (t269.size : Int)) : Int).toNat).toList != (t269.extract 0 ((mn (t267.size : Int) (t269.size : Int)) : Int).toNat).toList)) else (none)) else (none)) else (none))))))) = some r := by rw [if_neg (show ¬ (false = true) by decide)] at H; exact H
                clear H
                have H := H1
                clear H1
                by_cases c26 : a0_0 < a1_0
                · rw [if_pos c26] at H
                  have c26b0 : decide (a0_0 < a1_0) = true := decide_eq_true c26
                  clear c26
                  by_cases c27 : ((Op.bytesLess t267.toList t269.toList) != true) = true
                  · rw [if_pos c27] at H
                    exact absurd H (by simp)
                  · rw [if_neg c27] at H
                    have c27b0 : ((Op.bytesLess t267.toList t269.toList) != true) = false := by simpa using c27
                    (try (have c27b1 : decide ((Op.bytesLess t267.toList t269.toList) = true) = true := by simpa using c27))
                    (try (have c27b2 : ((Op.bytesLess t267.toList t269.toList) == true) = true := by simpa using c27))
                    clear c27
                    by_cases c28 : ((t267.toList == t269.toList) != (a0_0 == a1_0 && (a0_1.toList == a1_1.toList && (a0_2 == a1_2)))) = true
                    · rw [if_pos c28] at H
                      exact absurd H (by simp)
                    · rw [if_neg c28] at H
                      have c28b0 : ((t267.toList == t269.toList) != (a0_0 == a1_0 && (a0_1.toList == a1_1.toList && (a0_2 == a1_2)))) = false := by simpa using c28
                      (try (have c28b1 : decide ((t267.toList == t269.toList) = (a0_0 == a1_0 && (a0_1.toList == a1_1.toList && (a0_2 == a1_2)))) = true := by simpa using c28))
                      (try (have c28b2 : ((t267.toList == t269.toList) == (a0_0 == a1_0 && (a0_1.toList == a1_1.toList && (a0_2 == a1_2)))) = true := by simpa using c28))
                      clear c28
                      obtain ⟨ji29, hji29⟩ : ∃ j_ : Int, (mn (t267.size : Int) (t269.size : Int)) = j_ := ⟨_, rfl⟩
                      replace H : (if (a0_0 == a1_0 && (a0_1.toList == a1_1.toList && (a0_2 == a1_2))) = true then (some true) else (if 0 ≤ (ji29) then (if (ji29) ≤ (t267.size : Int) then (if (ji29) ≤ (t269.size : Int) then (some ((t267.extract 0 ((ji29) : Int).toNat).toList != (t269.extract 0 ((ji29) : Int).toNat).toList)) else (none)) else (none)) else (none))) = some r := by first | (rw [hji29] at H; exact H) | (simp only [hji29] at H ⊢; exact H)
                      (try rw [hji29])
                      have hji29_n : (if t269.size < t267.size then (t269.size : Int) else (t267.size : Int)) = ji29 := by first | (have z_ := hji29; unfold mn at z_; simp only [Int.ofNat_lt] at z_; exact z_)
                      have hji29_ : (if (t269.size : Int) < (t267.size : Int) then (t269.size : Int) else (t267.size : Int)) = ji29 := hji29
                      by_cases c30 : (a0_0 == a1_0 && (a0_1.toList == a1_1.toList && (a0_2 == a1_2))) = true
                      · rw [if_pos c30] at H
                        have c30b0 : (a0_0 == a1_0 && (a0_1.toList == a1_1.toList && (a0_2 == a1_2))) = true := c30
                        have c30b50 : (a0_0 == a1_0) = true := by have z_ := c30b0; simp only [Bool.and_eq_true] at z_; exact z_.1
                        have c30b51 : (a0_1.toList == a1_1.toList) = true := by have z_ := c30b0; simp only [Bool.and_eq_true] at z_; exact z_.2.1
                        have c30b52 : (a0_2 == a1_2) = true := by have z_ := c30b0; simp only [Bool.and_eq_true] at z_; exact z_.2.2
                        have c30b9 : (t267.toList == t269.toList) = true := by have z_ := c28b0; rw [c30b0] at z_; simpa using z_
                        (try (have c30b1 : decide (a0_0 = a1_0 && (a0_1.toList == a1_1.toList && (a0_2 == a1_2))) = true := by simpa using c30))
                        (try (have c30b2 : (a0_0 == a1_0 && (a0_1.toList == a1_1.toList && (a0_2 == a1_2))) = true := by simpa using c30))
                        clear c30
                        obtain rfl := Option.some.inj H
                        have hnb31 := NB264_265.out
                        have hnc31 := NB265_264.out
                        have hcz32_0 : wc.cell? ⟨gb264, 0, none⟩ = some (.int .i64 a0_0) := (blk_cell BK264.out 0).trans rfl
                        have hcz32_1 : wc.cell? ⟨gb264, 1, none⟩ = some (.string a0_1) := (blk_cell BK264.out 1).trans rfl
                        have hcz32_2 : wc.cell? ⟨gb264, 2, none⟩ = some (.int .u64 a0_2) := (blk_cell BK264.out 2).trans rfl
                        have hfz32_0 := blk_frozen BK264.out 0
                        have hfz32_1 := blk_frozen BK264.out 1
                        have hfz32_2 := blk_frozen BK264.out 2
                        have hcz33_0 : wc.cell? ⟨gb265, 0, none⟩ = some (.int .i64 a1_0) := (blk_cell BK265.out 0).trans rfl
                        have hcz33_1 : wc.cell? ⟨gb265, 1, none⟩ = some (.string a1_1) := (blk_cell BK265.out 1).trans rfl
                        have hcz33_2 : wc.cell? ⟨gb265, 2, none⟩ = some (.int .u64 a1_2) := (blk_cell BK265.out 2).trans rfl
                        have hfz33_0 := blk_frozen BK265.out 0
                        have hfz33_1 := blk_frozen BK265.out 1
                        have hfz33_2 := blk_frozen BK265.out 2
                        go_wp2
                        repeat (go_quiet (fail); try go_wp2)
                        go_ret
                        exact ⟨by first | rfl | (simp [errW_none, errW_some] <;> rfl) | (simp (disch := omega) only [← i64_w, IntWalk.i64_in]; rfl) | (simp only [← hji29]; first | rfl | (simp [errW_none, errW_some] <;> rfl)) | (simp [*, errW_none, errW_some] <;> rfl), by repeat (first | (with_reducible first | exact HB.out | apply below_alloc | apply pw_below_drewN | apply below_drew1 | refine below_set ?_ GE264.out | refine below_set ?_ GE265.out) | exact HB.out)⟩
                      · rw [if_neg c30] at H
                        have c30b0 : (a0_0 == a1_0 && (a0_1.toList == a1_1.toList && (a0_2 == a1_2))) = false := by simpa using c30
                        have c30b9 : (t267.toList == t269.toList) = false := by have z_ := c28b0; rw [c30b0] at z_; simpa using z_
                        (try (have c30b1 : decide (a0_0 = a1_0 && (a0_1.toList == a1_1.toList && (a0_2 == a1_2))) = false := by simpa using c30))
                        (try (have c30b2 : (a0_0 == a1_0 && (a0_1.toList == a1_1.toList && (a0_2 == a1_2))) = false := by simpa using c30))
                        (try (have c30b3 : ¬ (a0_0 = a1_0 && (a0_1.toList == a1_1.toList && (a0_2 == a1_2))) := by simpa using c30))
                        clear c30
                        by_cases c34 : 0 ≤ (ji29)
                        · rw [if_pos c34] at H
                          have c34b0 := eq_true c34
                          have c34b1 : decide (0 ≤ (ji29)) = true := decide_eq_true c34
                          clear c34
                          by_cases c35 : (ji29) ≤ (t267.size : Int)
                          · rw [if_pos c35] at H
                            have c35b0 := eq_true c35
                            have c35b1 : decide ((ji29) ≤ (t267.size : Int)) = true := decide_eq_true c35
                            clear c35
                            have c36b0 := eq_true (of_decide_eq_true (by first | (with_reducible assumption) | assumption) : 0 ≤ (ji29))
                            by_cases c37 : (ji29) ≤ (t269.size : Int)
                            · rw [if_pos c37] at H
                              have c37b0 := eq_true c37
                              have c37b1 : decide ((ji29) ≤ (t269.size : Int)) = true := decide_eq_true c37
                              clear c37
                              obtain rfl := Option.some.inj H
                              have hnb38 := NB264_265.out
                              have hnc38 := NB265_264.out
                              have hcz39_0 : wc.cell? ⟨gb264, 0, none⟩ = some (.int .i64 a0_0) := (blk_cell BK264.out 0).trans rfl
                              have hcz39_1 : wc.cell? ⟨gb264, 1, none⟩ = some (.string a0_1) := (blk_cell BK264.out 1).trans rfl
                              have hcz39_2 : wc.cell? ⟨gb264, 2, none⟩ = some (.int .u64 a0_2) := (blk_cell BK264.out 2).trans rfl
                              have hfz39_0 := blk_frozen BK264.out 0
                              have hfz39_1 := blk_frozen BK264.out 1
                              have hfz39_2 := blk_frozen BK264.out 2
                              have hcz40_0 : wc.cell? ⟨gb265, 0, none⟩ = some (.int .i64 a1_0) := (blk_cell BK265.out 0).trans rfl
                              have hcz40_1 : wc.cell? ⟨gb265, 1, none⟩ = some (.string a1_1) := (blk_cell BK265.out 1).trans rfl
                              have hcz40_2 : wc.cell? ⟨gb265, 2, none⟩ = some (.int .u64 a1_2) := (blk_cell BK265.out 2).trans rfl
                              have hfz40_0 := blk_frozen BK265.out 0
                              have hfz40_1 := blk_frozen BK265.out 1
                              have hfz40_2 := blk_frozen BK265.out 2
                              go_wp2
                              repeat (go_quiet (fail); try go_wp2)
                              go_ret
                              exact ⟨by first | rfl | (simp [errW_none, errW_some] <;> rfl) | (simp (disch := omega) only [← i64_w, IntWalk.i64_in]; rfl) | (simp only [← hji29]; first | rfl | (simp [errW_none, errW_some] <;> rfl)) | (simp [*, errW_none, errW_some] <;> rfl), by repeat (first | (with_reducible first | exact HB.out | apply below_alloc | apply pw_below_drewN | apply below_drew1 | refine below_set ?_ GE264.out | refine below_set ?_ GE265.out) | exact HB.out)⟩
                            · rw [if_neg c37] at H
                              exact absurd H (by simp)
                          · rw [if_neg c35] at H
                            exact absurd H (by simp)
                        · rw [if_neg c34] at H
                          exact absurd H (by simp)
                · rw [if_neg c26] at H
                  have c26b0 : decide (a0_0 < a1_0) = false := decide_eq_false c26
                  clear c26
                  by_cases c41 : a0_0 = a1_0
                  · rw [if_pos c41] at H
                    have c41b0 : (a0_0 == a1_0) = true := beq_iff_eq.mpr c41
                    have c41b1 : (a0_0 != a1_0) = false := bne_eq_false_iff_eq.mpr c41
                    clear c41
                    by_cases c42 : (Op.bytesLess a0_1.toList a1_1.toList) = true
                    · rw [if_pos c42] at H
                      have c42b0 : (Op.bytesLess a0_1.toList a1_1.toList) = true := c42
                      clear c42
                      by_cases c43 : ((Op.bytesLess t267.toList t269.toList) != true) = true
                      · rw [if_pos c43] at H
                        exact absurd H (by simp)
                      · rw [if_neg c43] at H
                        have c43b0 : ((Op.bytesLess t267.toList t269.toList) != true) = false := by simpa using c43
                        (try (have c43b1 : decide ((Op.bytesLess t267.toList t269.toList) = true) = true := by simpa using c43))
                        (try (have c43b2 : ((Op.bytesLess t267.toList t269.toList) == true) = true := by simpa using c43))
                        clear c43
                        by_cases c44 : ((t267.toList == t269.toList) != (a0_0 == a1_0 && (a0_1.toList == a1_1.toList && (a0_2 == a1_2)))) = true
                        · rw [if_pos c44] at H
                          exact absurd H (by simp)
                        · rw [if_neg c44] at H
                          have c44b0 : ((t267.toList == t269.toList) != (a0_0 == a1_0 && (a0_1.toList == a1_1.toList && (a0_2 == a1_2)))) = false := by simpa using c44
                          (try (have c44b1 : decide ((t267.toList == t269.toList) = (a0_0 == a1_0 && (a0_1.toList == a1_1.toList && (a0_2 == a1_2)))) = true := by simpa using c44))
                          (try (have c44b2 : ((t267.toList == t269.toList) == (a0_0 == a1_0 && (a0_1.toList == a1_1.toList && (a0_2 == a1_2)))) = true := by simpa using c44))
                          clear c44
                          obtain ⟨ji45, hji45⟩ : ∃ j_ : Int, (mn (t267.size : Int) (t269.size : Int)) = j_ := ⟨_, rfl⟩
                          replace H : (if (a0_0 == a1_0 && (a0_1.toList == a1_1.toList && (a0_2 == a1_2))) = true then (some true) else (if 0 ≤ (ji45) then (if (ji45) ≤ (t267.size : Int) then (if (ji45) ≤ (t269.size : Int) then (some ((t267.extract 0 ((ji45) : Int).toNat).toList != (t269.extract 0 ((ji45) : Int).toNat).toList)) else (none)) else (none)) else (none))) = some r := by first | (rw [hji45] at H; exact H) | (simp only [hji45] at H ⊢; exact H)
                          (try rw [hji45])
                          have hji45_n : (if t269.size < t267.size then (t269.size : Int) else (t267.size : Int)) = ji45 := by first | (have z_ := hji45; unfold mn at z_; simp only [Int.ofNat_lt] at z_; exact z_)
                          have hji45_ : (if (t269.size : Int) < (t267.size : Int) then (t269.size : Int) else (t267.size : Int)) = ji45 := hji45
                          by_cases c46 : (a0_0 == a1_0 && (a0_1.toList == a1_1.toList && (a0_2 == a1_2))) = true
                          · rw [if_pos c46] at H
                            have c46b0 : (a0_0 == a1_0 && (a0_1.toList == a1_1.toList && (a0_2 == a1_2))) = true := c46
                            have c46b50 : (a0_0 == a1_0) = true := by have z_ := c46b0; simp only [Bool.and_eq_true] at z_; exact z_.1
                            have c46b51 : (a0_1.toList == a1_1.toList) = true := by have z_ := c46b0; simp only [Bool.and_eq_true] at z_; exact z_.2.1
                            have c46b52 : (a0_2 == a1_2) = true := by have z_ := c46b0; simp only [Bool.and_eq_true] at z_; exact z_.2.2
                            have c46b9 : (t267.toList == t269.toList) = true := by have z_ := c44b0; rw [c46b0] at z_; simpa using z_
                            (try (have c46b1 : decide (a0_0 = a1_0 && (a0_1.toList == a1_1.toList && (a0_2 == a1_2))) = true := by simpa using c46))
                            (try (have c46b2 : (a0_0 == a1_0 && (a0_1.toList == a1_1.toList && (a0_2 == a1_2))) = true := by simpa using c46))
                            clear c46
                            obtain rfl := Option.some.inj H
                            have hnb47 := NB264_265.out
                            have hnc47 := NB265_264.out
                            have hcz48_0 : wc.cell? ⟨gb264, 0, none⟩ = some (.int .i64 a0_0) := (blk_cell BK264.out 0).trans rfl
                            have hcz48_1 : wc.cell? ⟨gb264, 1, none⟩ = some (.string a0_1) := (blk_cell BK264.out 1).trans rfl
                            have hcz48_2 : wc.cell? ⟨gb264, 2, none⟩ = some (.int .u64 a0_2) := (blk_cell BK264.out 2).trans rfl
                            have hfz48_0 := blk_frozen BK264.out 0
                            have hfz48_1 := blk_frozen BK264.out 1
                            have hfz48_2 := blk_frozen BK264.out 2
                            have hcz49_0 : wc.cell? ⟨gb265, 0, none⟩ = some (.int .i64 a1_0) := (blk_cell BK265.out 0).trans rfl
                            have hcz49_1 : wc.cell? ⟨gb265, 1, none⟩ = some (.string a1_1) := (blk_cell BK265.out 1).trans rfl
                            have hcz49_2 : wc.cell? ⟨gb265, 2, none⟩ = some (.int .u64 a1_2) := (blk_cell BK265.out 2).trans rfl
                            have hfz49_0 := blk_frozen BK265.out 0
                            have hfz49_1 := blk_frozen BK265.out 1
                            have hfz49_2 := blk_frozen BK265.out 2
                            go_wp2
                            repeat (go_quiet (fail); try go_wp2)
                            go_ret
                            exact ⟨by first | rfl | (simp [errW_none, errW_some] <;> rfl) | (simp (disch := omega) only [← i64_w, IntWalk.i64_in]; rfl) | (simp only [← hji45]; first | rfl | (simp [errW_none, errW_some] <;> rfl)) | (simp [*, errW_none, errW_some] <;> rfl), by repeat (first | (with_reducible first | exact HB.out | apply below_alloc | apply pw_below_drewN | apply below_drew1 | refine below_set ?_ GE264.out | refine below_set ?_ GE265.out) | exact HB.out)⟩
                          · rw [if_neg c46] at H
                            have c46b0 : (a0_0 == a1_0 && (a0_1.toList == a1_1.toList && (a0_2 == a1_2))) = false := by simpa using c46
                            try (have c46b5 := c46b0; simp only [c41b0, Bool.true_and, Bool.false_and] at c46b5)
                            have c46b9 : (t267.toList == t269.toList) = false := by have z_ := c44b0; rw [c46b0] at z_; simpa using z_
                            (try (have c46b1 : decide (a0_0 = a1_0 && (a0_1.toList == a1_1.toList && (a0_2 == a1_2))) = false := by simpa using c46))
                            (try (have c46b2 : (a0_0 == a1_0 && (a0_1.toList == a1_1.toList && (a0_2 == a1_2))) = false := by simpa using c46))
                            (try (have c46b3 : ¬ (a0_0 = a1_0 && (a0_1.toList == a1_1.toList && (a0_2 == a1_2))) := by simpa using c46))
                            clear c46
                            by_cases c50 : 0 ≤ (ji45)
                            · rw [if_pos c50] at H
                              have c50b0 := eq_true c50
                              have c50b1 : decide (0 ≤ (ji45)) = true := decide_eq_true c50
                              clear c50
                              by_cases c51 : (ji45) ≤ (t267.size : Int)
                              · rw [if_pos c51] at H
                                have c51b0 := eq_true c51
                                have c51b1 : decide ((ji45) ≤ (t267.size : Int)) = true := decide_eq_true c51
                                clear c51
                                have c52b0 := eq_true (of_decide_eq_true (by first | (with_reducible assumption) | assumption) : 0 ≤ (ji45))
                                by_cases c53 : (ji45) ≤ (t269.size : Int)
                                · rw [if_pos c53] at H
                                  have c53b0 := eq_true c53
                                  have c53b1 : decide ((ji45) ≤ (t269.size : Int)) = true := decide_eq_true c53
                                  clear c53
                                  obtain rfl := Option.some.inj H
                                  have hnb54 := NB264_265.out
                                  have hnc54 := NB265_264.out
                                  have hcz55_0 : wc.cell? ⟨gb264, 0, none⟩ = some (.int .i64 a0_0) := (blk_cell BK264.out 0).trans rfl
                                  have hcz55_1 : wc.cell? ⟨gb264, 1, none⟩ = some (.string a0_1) := (blk_cell BK264.out 1).trans rfl
                                  have hcz55_2 : wc.cell? ⟨gb264, 2, none⟩ = some (.int .u64 a0_2) := (blk_cell BK264.out 2).trans rfl
                                  have hfz55_0 := blk_frozen BK264.out 0
                                  have hfz55_1 := blk_frozen BK264.out 1
                                  have hfz55_2 := blk_frozen BK264.out 2
                                  have hcz56_0 : wc.cell? ⟨gb265, 0, none⟩ = some (.int .i64 a1_0) := (blk_cell BK265.out 0).trans rfl
                                  have hcz56_1 : wc.cell? ⟨gb265, 1, none⟩ = some (.string a1_1) := (blk_cell BK265.out 1).trans rfl
                                  have hcz56_2 : wc.cell? ⟨gb265, 2, none⟩ = some (.int .u64 a1_2) := (blk_cell BK265.out 2).trans rfl
                                  have hfz56_0 := blk_frozen BK265.out 0
                                  have hfz56_1 := blk_frozen BK265.out 1
                                  have hfz56_2 := blk_frozen BK265.out 2
                                  go_wp2
                                  repeat (go_quiet (fail); try go_wp2)
                                  go_ret
                                  exact ⟨by first | rfl | (simp [errW_none, errW_some] <;> rfl) | (simp (disch := omega) only [← i64_w, IntWalk.i64_in]; rfl) | (simp only [← hji45]; first | rfl | (simp [errW_none, errW_some] <;> rfl)) | (simp [*, errW_none, errW_some] <;> rfl), by repeat (first | (with_reducible first | exact HB.out | apply below_alloc | apply pw_below_drewN | apply below_drew1 | refine below_set ?_ GE264.out | refine below_set ?_ GE265.out) | exact HB.out)⟩
                                · rw [if_neg c53] at H
                                  exact absurd H (by simp)
                              · rw [if_neg c51] at H
                                exact absurd H (by simp)
                            · rw [if_neg c50] at H
                              exact absurd H (by simp)
                    · rw [if_neg c42] at H
                      have c42b0 : (Op.bytesLess a0_1.toList a1_1.toList) = false := by simpa using c42
                      clear c42
                      by_cases c57 : a0_1.toList = a1_1.toList
                      · rw [if_pos c57] at H
                        have c57b0 : (a0_1.toList == a1_1.toList) = true := beq_iff_eq.mpr c57
                        have c57b1 : (a0_1.toList != a1_1.toList) = false := bne_eq_false_iff_eq.mpr c57
                        clear c57
                        by_cases c58 : ((Op.bytesLess t267.toList t269.toList) != (decide (a0_2 > a1_2))) = true
                        · rw [if_pos c58] at H
                          exact absurd H (by simp)
                        · rw [if_neg c58] at H
                          have c58b0 : ((Op.bytesLess t267.toList t269.toList) != (decide (a0_2 > a1_2))) = false := by simpa using c58
                          (try (have c58b1 : decide ((Op.bytesLess t267.toList t269.toList) = (decide (a0_2 > a1_2))) = true := by simpa using c58))
                          (try (have c58b2 : ((Op.bytesLess t267.toList t269.toList) == (decide (a0_2 > a1_2))) = true := by simpa using c58))
                          clear c58
                          by_cases c59 : ((t267.toList == t269.toList) != (a0_0 == a1_0 && (a0_1.toList == a1_1.toList && (a0_2 == a1_2)))) = true
                          · rw [if_pos c59] at H
                            exact absurd H (by simp)
                          · rw [if_neg c59] at H
                            have c59b0 : ((t267.toList == t269.toList) != (a0_0 == a1_0 && (a0_1.toList == a1_1.toList && (a0_2 == a1_2)))) = false := by simpa using c59
                            (try (have c59b1 : decide ((t267.toList == t269.toList) = (a0_0 == a1_0 && (a0_1.toList == a1_1.toList && (a0_2 == a1_2)))) = true := by simpa using c59))
                            (try (have c59b2 : ((t267.toList == t269.toList) == (a0_0 == a1_0 && (a0_1.toList == a1_1.toList && (a0_2 == a1_2)))) = true := by simpa using c59))
                            clear c59
                            obtain ⟨ji60, hji60⟩ : ∃ j_ : Int, (mn (t267.size : Int) (t269.size : Int)) = j_ := ⟨_, rfl⟩
                            replace H : (if (a0_0 == a1_0 && (a0_1.toList == a1_1.toList && (a0_2 == a1_2))) = true then (some true) else (if 0 ≤ (ji60) then (if (ji60) ≤ (t267.size : Int) then (if (ji60) ≤ (t269.size : Int) then (some ((t267.extract 0 ((ji60) : Int).toNat).toList != (t269.extract 0 ((ji60) : Int).toNat).toList)) else (none)) else (none)) else (none))) = some r := by first | (rw [hji60] at H; exact H) | (simp only [hji60] at H ⊢; exact H)
                            (try rw [hji60])
                            have hji60_n : (if t269.size < t267.size then (t269.size : Int) else (t267.size : Int)) = ji60 := by first | (have z_ := hji60; unfold mn at z_; simp only [Int.ofNat_lt] at z_; exact z_)
                            have hji60_ : (if (t269.size : Int) < (t267.size : Int) then (t269.size : Int) else (t267.size : Int)) = ji60 := hji60
                            by_cases c61 : (a0_0 == a1_0 && (a0_1.toList == a1_1.toList && (a0_2 == a1_2))) = true
                            · rw [if_pos c61] at H
                              have c61b0 : (a0_0 == a1_0 && (a0_1.toList == a1_1.toList && (a0_2 == a1_2))) = true := c61
                              have c61b50 : (a0_0 == a1_0) = true := by have z_ := c61b0; simp only [Bool.and_eq_true] at z_; exact z_.1
                              have c61b51 : (a0_1.toList == a1_1.toList) = true := by have z_ := c61b0; simp only [Bool.and_eq_true] at z_; exact z_.2.1
                              have c61b52 : (a0_2 == a1_2) = true := by have z_ := c61b0; simp only [Bool.and_eq_true] at z_; exact z_.2.2
                              have c61b9 : (t267.toList == t269.toList) = true := by have z_ := c59b0; rw [c61b0] at z_; simpa using z_
                              (try (have c61b1 : decide (a0_0 = a1_0 && (a0_1.toList == a1_1.toList && (a0_2 == a1_2))) = true := by simpa using c61))
                              (try (have c61b2 : (a0_0 == a1_0 && (a0_1.toList == a1_1.toList && (a0_2 == a1_2))) = true := by simpa using c61))
                              clear c61
                              obtain rfl := Option.some.inj H
                              have hnb62 := NB264_265.out
                              have hnc62 := NB265_264.out
                              have hcz63_0 : wc.cell? ⟨gb264, 0, none⟩ = some (.int .i64 a0_0) := (blk_cell BK264.out 0).trans rfl
                              have hcz63_1 : wc.cell? ⟨gb264, 1, none⟩ = some (.string a0_1) := (blk_cell BK264.out 1).trans rfl
                              have hcz63_2 : wc.cell? ⟨gb264, 2, none⟩ = some (.int .u64 a0_2) := (blk_cell BK264.out 2).trans rfl
                              have hfz63_0 := blk_frozen BK264.out 0
                              have hfz63_1 := blk_frozen BK264.out 1
                              have hfz63_2 := blk_frozen BK264.out 2
                              have hcz64_0 : wc.cell? ⟨gb265, 0, none⟩ = some (.int .i64 a1_0) := (blk_cell BK265.out 0).trans rfl
                              have hcz64_1 : wc.cell? ⟨gb265, 1, none⟩ = some (.string a1_1) := (blk_cell BK265.out 1).trans rfl
                              have hcz64_2 : wc.cell? ⟨gb265, 2, none⟩ = some (.int .u64 a1_2) := (blk_cell BK265.out 2).trans rfl
                              have hfz64_0 := blk_frozen BK265.out 0
                              have hfz64_1 := blk_frozen BK265.out 1
                              have hfz64_2 := blk_frozen BK265.out 2
                              go_wp2
                              repeat (go_quiet (fail); try go_wp2)
                              go_ret
                              exact ⟨by first | rfl | (simp [errW_none, errW_some] <;> rfl) | (simp (disch := omega) only [← i64_w, IntWalk.i64_in]; rfl) | (simp only [← hji60]; first | rfl | (simp [errW_none, errW_some] <;> rfl)) | (simp [*, errW_none, errW_some] <;> rfl), by repeat (first | (with_reducible first | exact HB.out | apply below_alloc | apply pw_below_drewN | apply below_drew1 | refine below_set ?_ GE264.out | refine below_set ?_ GE265.out) | exact HB.out)⟩
                            · rw [if_neg c61] at H
                              have c61b0 : (a0_0 == a1_0 && (a0_1.toList == a1_1.toList && (a0_2 == a1_2))) = false := by simpa using c61
                              try (have c61b5 := c61b0; simp only [c57b0, c41b0, Bool.true_and, Bool.false_and] at c61b5)
                              have c61b9 : (t267.toList == t269.toList) = false := by have z_ := c59b0; rw [c61b0] at z_; simpa using z_
                              (try (have c61b1 : decide (a0_0 = a1_0 && (a0_1.toList == a1_1.toList && (a0_2 == a1_2))) = false := by simpa using c61))
                              (try (have c61b2 : (a0_0 == a1_0 && (a0_1.toList == a1_1.toList && (a0_2 == a1_2))) = false := by simpa using c61))
                              (try (have c61b3 : ¬ (a0_0 = a1_0 && (a0_1.toList == a1_1.toList && (a0_2 == a1_2))) := by simpa using c61))
                              clear c61
                              by_cases c65 : 0 ≤ (ji60)
                              · rw [if_pos c65] at H
                                have c65b0 := eq_true c65
                                have c65b1 : decide (0 ≤ (ji60)) = true := decide_eq_true c65
                                clear c65
                                by_cases c66 : (ji60) ≤ (t267.size : Int)
                                · rw [if_pos c66] at H
                                  have c66b0 := eq_true c66
                                  have c66b1 : decide ((ji60) ≤ (t267.size : Int)) = true := decide_eq_true c66
                                  clear c66
                                  have c67b0 := eq_true (of_decide_eq_true (by first | (with_reducible assumption) | assumption) : 0 ≤ (ji60))
                                  by_cases c68 : (ji60) ≤ (t269.size : Int)
                                  · rw [if_pos c68] at H
                                    have c68b0 := eq_true c68
                                    have c68b1 : decide ((ji60) ≤ (t269.size : Int)) = true := decide_eq_true c68
                                    clear c68
                                    obtain rfl := Option.some.inj H
                                    have hnb69 := NB264_265.out
                                    have hnc69 := NB265_264.out
                                    have hcz70_0 : wc.cell? ⟨gb264, 0, none⟩ = some (.int .i64 a0_0) := (blk_cell BK264.out 0).trans rfl
                                    have hcz70_1 : wc.cell? ⟨gb264, 1, none⟩ = some (.string a0_1) := (blk_cell BK264.out 1).trans rfl
                                    have hcz70_2 : wc.cell? ⟨gb264, 2, none⟩ = some (.int .u64 a0_2) := (blk_cell BK264.out 2).trans rfl
                                    have hfz70_0 := blk_frozen BK264.out 0
                                    have hfz70_1 := blk_frozen BK264.out 1
                                    have hfz70_2 := blk_frozen BK264.out 2
                                    have hcz71_0 : wc.cell? ⟨gb265, 0, none⟩ = some (.int .i64 a1_0) := (blk_cell BK265.out 0).trans rfl
                                    have hcz71_1 : wc.cell? ⟨gb265, 1, none⟩ = some (.string a1_1) := (blk_cell BK265.out 1).trans rfl
                                    have hcz71_2 : wc.cell? ⟨gb265, 2, none⟩ = some (.int .u64 a1_2) := (blk_cell BK265.out 2).trans rfl
                                    have hfz71_0 := blk_frozen BK265.out 0
                                    have hfz71_1 := blk_frozen BK265.out 1
                                    have hfz71_2 := blk_frozen BK265.out 2
                                    go_wp2
                                    repeat (go_quiet (fail); try go_wp2)
                                    go_ret
                                    exact ⟨by first | rfl | (simp [errW_none, errW_some] <;> rfl) | (simp (disch := omega) only [← i64_w, IntWalk.i64_in]; rfl) | (simp only [← hji60]; first | rfl | (simp [errW_none, errW_some] <;> rfl)) | (simp [*, errW_none, errW_some] <;> rfl), by repeat (first | (with_reducible first | exact HB.out | apply below_alloc | apply pw_below_drewN | apply below_drew1 | refine below_set ?_ GE264.out | refine below_set ?_ GE265.out) | exact HB.out)⟩
                                  · rw [if_neg c68] at H
                                    exact absurd H (by simp)
                                · rw [if_neg c66] at H
                                  exact absurd H (by simp)
                              · rw [if_neg c65] at H
                                exact absurd H (by simp)
                      · rw [if_neg c57] at H
                        have c57b0 : (a0_1.toList == a1_1.toList) = false := beq_eq_false_iff_ne.mpr c57
                        have c57b1 : (a0_1.toList != a1_1.toList) = true := bne_iff_ne.mpr c57
                        by_cases c72 : ((Op.bytesLess t267.toList t269.toList) != false) = true
                        · rw [if_pos c72] at H
                          exact absurd H (by simp)
                        · rw [if_neg c72] at H
                          have c72b0 : ((Op.bytesLess t267.toList t269.toList) != false) = false := by simpa using c72
                          (try (have c72b1 : decide ((Op.bytesLess t267.toList t269.toList) = false) = true := by simpa using c72))
                          (try (have c72b2 : ((Op.bytesLess t267.toList t269.toList) == false) = true := by simpa using c72))
                          clear c72
                          by_cases c73 : ((t267.toList == t269.toList) != (a0_0 == a1_0 && (a0_1.toList == a1_1.toList && (a0_2 == a1_2)))) = true
                          · rw [if_pos c73] at H
                            exact absurd H (by simp)
                          · rw [if_neg c73] at H
                            have c73b0 : ((t267.toList == t269.toList) != (a0_0 == a1_0 && (a0_1.toList == a1_1.toList && (a0_2 == a1_2)))) = false := by simpa using c73
                            (try (have c73b1 : decide ((t267.toList == t269.toList) = (a0_0 == a1_0 && (a0_1.toList == a1_1.toList && (a0_2 == a1_2)))) = true := by simpa using c73))
                            (try (have c73b2 : ((t267.toList == t269.toList) == (a0_0 == a1_0 && (a0_1.toList == a1_1.toList && (a0_2 == a1_2)))) = true := by simpa using c73))
                            clear c73
                            obtain ⟨ji74, hji74⟩ : ∃ j_ : Int, (mn (t267.size : Int) (t269.size : Int)) = j_ := ⟨_, rfl⟩
                            replace H : (if (a0_0 == a1_0 && (a0_1.toList == a1_1.toList && (a0_2 == a1_2))) = true then (some true) else (if 0 ≤ (ji74) then (if (ji74) ≤ (t267.size : Int) then (if (ji74) ≤ (t269.size : Int) then (some ((t267.extract 0 ((ji74) : Int).toNat).toList != (t269.extract 0 ((ji74) : Int).toNat).toList)) else (none)) else (none)) else (none))) = some r := by first | (rw [hji74] at H; exact H) | (simp only [hji74] at H ⊢; exact H)
                            (try rw [hji74])
                            have hji74_n : (if t269.size < t267.size then (t269.size : Int) else (t267.size : Int)) = ji74 := by first | (have z_ := hji74; unfold mn at z_; simp only [Int.ofNat_lt] at z_; exact z_)
                            have hji74_ : (if (t269.size : Int) < (t267.size : Int) then (t269.size : Int) else (t267.size : Int)) = ji74 := hji74
                            by_cases c75 : (a0_0 == a1_0 && (a0_1.toList == a1_1.toList && (a0_2 == a1_2))) = true
                            · rw [if_pos c75] at H
                              have c75b0 : (a0_0 == a1_0 && (a0_1.toList == a1_1.toList && (a0_2 == a1_2))) = true := c75
                              have c75b50 : (a0_0 == a1_0) = true := by have z_ := c75b0; simp only [Bool.and_eq_true] at z_; exact z_.1
                              have c75b51 : (a0_1.toList == a1_1.toList) = true := by have z_ := c75b0; simp only [Bool.and_eq_true] at z_; exact z_.2.1
                              have c75b52 : (a0_2 == a1_2) = true := by have z_ := c75b0; simp only [Bool.and_eq_true] at z_; exact z_.2.2
                              have c75b9 : (t267.toList == t269.toList) = true := by have z_ := c73b0; rw [c75b0] at z_; simpa using z_
                              (try (have c75b1 : decide (a0_0 = a1_0 && (a0_1.toList == a1_1.toList && (a0_2 == a1_2))) = true := by simpa using c75))
                              (try (have c75b2 : (a0_0 == a1_0 && (a0_1.toList == a1_1.toList && (a0_2 == a1_2))) = true := by simpa using c75))
                              clear c75
                              obtain rfl := Option.some.inj H
                              have hnb76 := NB264_265.out
                              have hnc76 := NB265_264.out
                              have hcz77_0 : wc.cell? ⟨gb264, 0, none⟩ = some (.int .i64 a0_0) := (blk_cell BK264.out 0).trans rfl
                              have hcz77_1 : wc.cell? ⟨gb264, 1, none⟩ = some (.string a0_1) := (blk_cell BK264.out 1).trans rfl
                              have hcz77_2 : wc.cell? ⟨gb264, 2, none⟩ = some (.int .u64 a0_2) := (blk_cell BK264.out 2).trans rfl
                              have hfz77_0 := blk_frozen BK264.out 0
                              have hfz77_1 := blk_frozen BK264.out 1
                              have hfz77_2 := blk_frozen BK264.out 2
                              have hcz78_0 : wc.cell? ⟨gb265, 0, none⟩ = some (.int .i64 a1_0) := (blk_cell BK265.out 0).trans rfl
                              have hcz78_1 : wc.cell? ⟨gb265, 1, none⟩ = some (.string a1_1) := (blk_cell BK265.out 1).trans rfl
                              have hcz78_2 : wc.cell? ⟨gb265, 2, none⟩ = some (.int .u64 a1_2) := (blk_cell BK265.out 2).trans rfl
                              have hfz78_0 := blk_frozen BK265.out 0
                              have hfz78_1 := blk_frozen BK265.out 1
                              have hfz78_2 := blk_frozen BK265.out 2
                              go_wp2
                              repeat (go_quiet (fail); try go_wp2)
                              go_ret
                              exact ⟨by first | rfl | (exfalso; exact absurd c75b51 (by rw [c57b0]; simp)) | (simp [errW_none, errW_some] <;> rfl) | (simp (disch := omega) only [← i64_w, IntWalk.i64_in]; rfl) | (simp only [← hji74]; first | rfl | (simp [errW_none, errW_some] <;> rfl)) | (simp [*, errW_none, errW_some] <;> rfl), by repeat (first | (with_reducible first | exact HB.out | apply below_alloc | apply pw_below_drewN | apply below_drew1 | refine below_set ?_ GE264.out | refine below_set ?_ GE265.out) | exact HB.out)⟩
                            · rw [if_neg c75] at H
                              have c75b0 : (a0_0 == a1_0 && (a0_1.toList == a1_1.toList && (a0_2 == a1_2))) = false := by simpa using c75
                              try (have c75b5 := c75b0; simp only [c57b0, c41b0, Bool.true_and, Bool.false_and] at c75b5)
                              have c75b9 : (t267.toList == t269.toList) = false := by have z_ := c73b0; rw [c75b0] at z_; simpa using z_
                              (try (have c75b1 : decide (a0_0 = a1_0 && (a0_1.toList == a1_1.toList && (a0_2 == a1_2))) = false := by simpa using c75))
                              (try (have c75b2 : (a0_0 == a1_0 && (a0_1.toList == a1_1.toList && (a0_2 == a1_2))) = false := by simpa using c75))
                              (try (have c75b3 : ¬ (a0_0 = a1_0 && (a0_1.toList == a1_1.toList && (a0_2 == a1_2))) := by simpa using c75))
                              clear c75
                              by_cases c79 : 0 ≤ (ji74)
                              · rw [if_pos c79] at H
                                have c79b0 := eq_true c79
                                have c79b1 : decide (0 ≤ (ji74)) = true := decide_eq_true c79
                                clear c79
                                by_cases c80 : (ji74) ≤ (t267.size : Int)
                                · rw [if_pos c80] at H
                                  have c80b0 := eq_true c80
                                  have c80b1 : decide ((ji74) ≤ (t267.size : Int)) = true := decide_eq_true c80
                                  clear c80
                                  have c81b0 := eq_true (of_decide_eq_true (by first | (with_reducible assumption) | assumption) : 0 ≤ (ji74))
                                  by_cases c82 : (ji74) ≤ (t269.size : Int)
                                  · rw [if_pos c82] at H
                                    have c82b0 := eq_true c82
                                    have c82b1 : decide ((ji74) ≤ (t269.size : Int)) = true := decide_eq_true c82
                                    clear c82
                                    obtain rfl := Option.some.inj H
                                    have hnb83 := NB264_265.out
                                    have hnc83 := NB265_264.out
                                    have hcz84_0 : wc.cell? ⟨gb264, 0, none⟩ = some (.int .i64 a0_0) := (blk_cell BK264.out 0).trans rfl
                                    have hcz84_1 : wc.cell? ⟨gb264, 1, none⟩ = some (.string a0_1) := (blk_cell BK264.out 1).trans rfl
                                    have hcz84_2 : wc.cell? ⟨gb264, 2, none⟩ = some (.int .u64 a0_2) := (blk_cell BK264.out 2).trans rfl
                                    have hfz84_0 := blk_frozen BK264.out 0
                                    have hfz84_1 := blk_frozen BK264.out 1
                                    have hfz84_2 := blk_frozen BK264.out 2
                                    have hcz85_0 : wc.cell? ⟨gb265, 0, none⟩ = some (.int .i64 a1_0) := (blk_cell BK265.out 0).trans rfl
                                    have hcz85_1 : wc.cell? ⟨gb265, 1, none⟩ = some (.string a1_1) := (blk_cell BK265.out 1).trans rfl
                                    have hcz85_2 : wc.cell? ⟨gb265, 2, none⟩ = some (.int .u64 a1_2) := (blk_cell BK265.out 2).trans rfl
                                    have hfz85_0 := blk_frozen BK265.out 0
                                    have hfz85_1 := blk_frozen BK265.out 1
                                    have hfz85_2 := blk_frozen BK265.out 2
                                    go_wp2
                                    repeat (go_quiet (fail); try go_wp2)
                                    go_ret
                                    exact ⟨by first | rfl | (simp [errW_none, errW_some] <;> rfl) | (simp (disch := omega) only [← i64_w, IntWalk.i64_in]; rfl) | (simp only [← hji74]; first | rfl | (simp [errW_none, errW_some] <;> rfl)) | (simp [*, errW_none, errW_some] <;> rfl), by repeat (first | (with_reducible first | exact HB.out | apply below_alloc | apply pw_below_drewN | apply below_drew1 | refine below_set ?_ GE264.out | refine below_set ?_ GE265.out) | exact HB.out)⟩
                                  · rw [if_neg c82] at H
                                    exact absurd H (by simp)
                                · rw [if_neg c80] at H
                                  exact absurd H (by simp)
                              · rw [if_neg c79] at H
                                exact absurd H (by simp)
                  · rw [if_neg c41] at H
                    have c41b0 : (a0_0 == a1_0) = false := beq_eq_false_iff_ne.mpr c41
                    have c41b1 : (a0_0 != a1_0) = true := bne_iff_ne.mpr c41
                    by_cases c86 : ((Op.bytesLess t267.toList t269.toList) != false) = true
                    · rw [if_pos c86] at H
                      exact absurd H (by simp)
                    · rw [if_neg c86] at H
                      have c86b0 : ((Op.bytesLess t267.toList t269.toList) != false) = false := by simpa using c86
                      (try (have c86b1 : decide ((Op.bytesLess t267.toList t269.toList) = false) = true := by simpa using c86))
                      (try (have c86b2 : ((Op.bytesLess t267.toList t269.toList) == false) = true := by simpa using c86))
                      clear c86
                      by_cases c87 : ((t267.toList == t269.toList) != (a0_0 == a1_0 && (a0_1.toList == a1_1.toList && (a0_2 == a1_2)))) = true
                      · rw [if_pos c87] at H
                        exact absurd H (by simp)
                      · rw [if_neg c87] at H
                        have c87b0 : ((t267.toList == t269.toList) != (a0_0 == a1_0 && (a0_1.toList == a1_1.toList && (a0_2 == a1_2)))) = false := by simpa using c87
                        (try (have c87b1 : decide ((t267.toList == t269.toList) = (a0_0 == a1_0 && (a0_1.toList == a1_1.toList && (a0_2 == a1_2)))) = true := by simpa using c87))
                        (try (have c87b2 : ((t267.toList == t269.toList) == (a0_0 == a1_0 && (a0_1.toList == a1_1.toList && (a0_2 == a1_2)))) = true := by simpa using c87))
                        clear c87
                        obtain ⟨ji88, hji88⟩ : ∃ j_ : Int, (mn (t267.size : Int) (t269.size : Int)) = j_ := ⟨_, rfl⟩
                        replace H : (if (a0_0 == a1_0 && (a0_1.toList == a1_1.toList && (a0_2 == a1_2))) = true then (some true) else (if 0 ≤ (ji88) then (if (ji88) ≤ (t267.size : Int) then (if (ji88) ≤ (t269.size : Int) then (some ((t267.extract 0 ((ji88) : Int).toNat).toList != (t269.extract 0 ((ji88) : Int).toNat).toList)) else (none)) else (none)) else (none))) = some r := by first | (rw [hji88] at H; exact H) | (simp only [hji88] at H ⊢; exact H)
                        (try rw [hji88])
                        have hji88_n : (if t269.size < t267.size then (t269.size : Int) else (t267.size : Int)) = ji88 := by first | (have z_ := hji88; unfold mn at z_; simp only [Int.ofNat_lt] at z_; exact z_)
                        have hji88_ : (if (t269.size : Int) < (t267.size : Int) then (t269.size : Int) else (t267.size : Int)) = ji88 := hji88
                        by_cases c89 : (a0_0 == a1_0 && (a0_1.toList == a1_1.toList && (a0_2 == a1_2))) = true
                        · rw [if_pos c89] at H
                          have c89b0 : (a0_0 == a1_0 && (a0_1.toList == a1_1.toList && (a0_2 == a1_2))) = true := c89
                          have c89b50 : (a0_0 == a1_0) = true := by have z_ := c89b0; simp only [Bool.and_eq_true] at z_; exact z_.1
                          have c89b51 : (a0_1.toList == a1_1.toList) = true := by have z_ := c89b0; simp only [Bool.and_eq_true] at z_; exact z_.2.1
                          have c89b52 : (a0_2 == a1_2) = true := by have z_ := c89b0; simp only [Bool.and_eq_true] at z_; exact z_.2.2
                          have c89b9 : (t267.toList == t269.toList) = true := by have z_ := c87b0; rw [c89b0] at z_; simpa using z_
                          (try (have c89b1 : decide (a0_0 = a1_0 && (a0_1.toList == a1_1.toList && (a0_2 == a1_2))) = true := by simpa using c89))
                          (try (have c89b2 : (a0_0 == a1_0 && (a0_1.toList == a1_1.toList && (a0_2 == a1_2))) = true := by simpa using c89))
                          clear c89
                          obtain rfl := Option.some.inj H
                          have hnb90 := NB264_265.out
                          have hnc90 := NB265_264.out
                          have hcz91_0 : wc.cell? ⟨gb264, 0, none⟩ = some (.int .i64 a0_0) := (blk_cell BK264.out 0).trans rfl
                          have hcz91_1 : wc.cell? ⟨gb264, 1, none⟩ = some (.string a0_1) := (blk_cell BK264.out 1).trans rfl
                          have hcz91_2 : wc.cell? ⟨gb264, 2, none⟩ = some (.int .u64 a0_2) := (blk_cell BK264.out 2).trans rfl
                          have hfz91_0 := blk_frozen BK264.out 0
                          have hfz91_1 := blk_frozen BK264.out 1
                          have hfz91_2 := blk_frozen BK264.out 2
                          have hcz92_0 : wc.cell? ⟨gb265, 0, none⟩ = some (.int .i64 a1_0) := (blk_cell BK265.out 0).trans rfl
                          have hcz92_1 : wc.cell? ⟨gb265, 1, none⟩ = some (.string a1_1) := (blk_cell BK265.out 1).trans rfl
                          have hcz92_2 : wc.cell? ⟨gb265, 2, none⟩ = some (.int .u64 a1_2) := (blk_cell BK265.out 2).trans rfl
                          have hfz92_0 := blk_frozen BK265.out 0
                          have hfz92_1 := blk_frozen BK265.out 1
                          have hfz92_2 := blk_frozen BK265.out 2
                          go_wp2
                          repeat (go_quiet (fail); try go_wp2)
                          go_ret
                          exact ⟨by first | rfl | (exfalso; exact absurd c89b50 (by rw [c41b0]; simp)) | (simp [errW_none, errW_some] <;> rfl) | (simp (disch := omega) only [← i64_w, IntWalk.i64_in]; rfl) | (simp only [← hji88]; first | rfl | (simp [errW_none, errW_some] <;> rfl)) | (simp [*, errW_none, errW_some] <;> rfl), by repeat (first | (with_reducible first | exact HB.out | apply below_alloc | apply pw_below_drewN | apply below_drew1 | refine below_set ?_ GE264.out | refine below_set ?_ GE265.out) | exact HB.out)⟩
                        · rw [if_neg c89] at H
                          have c89b0 : (a0_0 == a1_0 && (a0_1.toList == a1_1.toList && (a0_2 == a1_2))) = false := by simpa using c89
                          try (have c89b5 := c89b0; simp only [c41b0, Bool.true_and, Bool.false_and] at c89b5)
                          have c89b9 : (t267.toList == t269.toList) = false := by have z_ := c87b0; rw [c89b0] at z_; simpa using z_
                          (try (have c89b1 : decide (a0_0 = a1_0 && (a0_1.toList == a1_1.toList && (a0_2 == a1_2))) = false := by simpa using c89))
                          (try (have c89b2 : (a0_0 == a1_0 && (a0_1.toList == a1_1.toList && (a0_2 == a1_2))) = false := by simpa using c89))
                          (try (have c89b3 : ¬ (a0_0 = a1_0 && (a0_1.toList == a1_1.toList && (a0_2 == a1_2))) := by simpa using c89))
                          clear c89
                          by_cases c93 : 0 ≤ (ji88)
                          · rw [if_pos c93] at H
                            have c93b0 := eq_true c93
                            have c93b1 : decide (0 ≤ (ji88)) = true := decide_eq_true c93
                            clear c93
                            by_cases c94 : (ji88) ≤ (t267.size : Int)
                            · rw [if_pos c94] at H
                              have c94b0 := eq_true c94
                              have c94b1 : decide ((ji88) ≤ (t267.size : Int)) = true := decide_eq_true c94
                              clear c94
                              have c95b0 := eq_true (of_decide_eq_true (by first | (with_reducible assumption) | assumption) : 0 ≤ (ji88))
                              by_cases c96 : (ji88) ≤ (t269.size : Int)
                              · rw [if_pos c96] at H
                                have c96b0 := eq_true c96
                                have c96b1 : decide ((ji88) ≤ (t269.size : Int)) = true := decide_eq_true c96
                                clear c96
                                obtain rfl := Option.some.inj H
                                have hnb97 := NB264_265.out
                                have hnc97 := NB265_264.out
                                have hcz98_0 : wc.cell? ⟨gb264, 0, none⟩ = some (.int .i64 a0_0) := (blk_cell BK264.out 0).trans rfl
                                have hcz98_1 : wc.cell? ⟨gb264, 1, none⟩ = some (.string a0_1) := (blk_cell BK264.out 1).trans rfl
                                have hcz98_2 : wc.cell? ⟨gb264, 2, none⟩ = some (.int .u64 a0_2) := (blk_cell BK264.out 2).trans rfl
                                have hfz98_0 := blk_frozen BK264.out 0
                                have hfz98_1 := blk_frozen BK264.out 1
                                have hfz98_2 := blk_frozen BK264.out 2
                                have hcz99_0 : wc.cell? ⟨gb265, 0, none⟩ = some (.int .i64 a1_0) := (blk_cell BK265.out 0).trans rfl
                                have hcz99_1 : wc.cell? ⟨gb265, 1, none⟩ = some (.string a1_1) := (blk_cell BK265.out 1).trans rfl
                                have hcz99_2 : wc.cell? ⟨gb265, 2, none⟩ = some (.int .u64 a1_2) := (blk_cell BK265.out 2).trans rfl
                                have hfz99_0 := blk_frozen BK265.out 0
                                have hfz99_1 := blk_frozen BK265.out 1
                                have hfz99_2 := blk_frozen BK265.out 2
                                go_wp2
                                repeat (go_quiet (fail); try go_wp2)
                                go_ret
                                exact ⟨by first | rfl | (simp [errW_none, errW_some] <;> rfl) | (simp (disch := omega) only [← i64_w, IntWalk.i64_in]; rfl) | (simp only [← hji88]; first | rfl | (simp [errW_none, errW_some] <;> rfl)) | (simp [*, errW_none, errW_some] <;> rfl), by repeat (first | (with_reducible first | exact HB.out | apply below_alloc | apply pw_below_drewN | apply below_drew1 | refine below_set ?_ GE264.out | refine below_set ?_ GE265.out) | exact HB.out)⟩
                              · rw [if_neg c96] at H
                                exact absurd H (by simp)
                            · rw [if_neg c94] at H
                              exact absurd H (by simp)
                          · rw [if_neg c93] at H
                            exact absurd H (by simp)
  · replace c4 := Bool.eq_false_iff.mpr c4
    subst c4
    have H1 : (none) = some r := by rw [if_neg (show ¬ (false = true) by decide)] at H; exact H
    clear H
    have H := H1
    clear H1
    exact absurd H (by simp)

end Go.Proofs.Ytachminlgcndnaa.P
