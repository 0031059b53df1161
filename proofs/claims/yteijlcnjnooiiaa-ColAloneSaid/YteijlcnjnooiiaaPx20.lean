-- Printed by a program of this session's own (wip/tools/pprint.sh, over the kit's print, with given contracts): not typed by hand.
import Derived.Test.YteijlcnjnooiiaaPx0
import Derived.Test.YteijlcnjnooiiaaPx6
import Derived.Test.YteijlcnjnooiiaaPx7
import Derived.Test.YteijlcnjnooiiaaPx8
import Derived.Test.YteijlcnjnooiiaaPx10
import Derived.Test.YteijlcnjnooiiaaPx11
namespace Go.Proofs.Yteijlcnjnooiiaa.P
open Go.RowKit Go.Proofs.YteijlcnjnooiiaaW.PrintWords Go.Proofs.YteijlcnjnooiiaaW.PrintLast Go.Proofs.YteijlcnjnooiiaaW.PrintMore
attribute [local go_sem] max2_int min2_int max_two min_two max_three min_three max_four min_four   -- for this text's walks alone
set_option linter.unusedVariables false
set_option linter.unusedSimpArgs false

/-! ### screelaw15_ColShort: function 8 -/
def screelaw15_ColShort.j0 : Nat → List (S51) → Bool → ByteArray → Int → Int → Int → Int → Int → Option (Bool)
  | 0, _, _, _, _, _, _, _, _ => none
  | k + 1, x2, x23, x340000, x340001, x340002, x340003, x341000, x341001 => if x23 = true then (some true) else ((col_Lock.f k x340000 x340001 x340002 x340003).bind fun bt342 => ((col_Write.f k x341000 x341001).bind fun bt344 => ((col_Leases.f k x2).bind fun bt346 => (if bt342.2 = 0 then (if (bt342.1.size : Int) < (wrap64 ((x340000.size : Int) + 3)) then (none) else (if (bt342.1.size : Int) > (wrap64 ((x340000.size : Int) + 13)) then (none) else (if bt344.2 = 0 then (if (bt344.1.size : Int) < 2 then (none) else (if (bt344.1.size : Int) > 7 then (none) else (if bt346.2 = 0 then (if (bt346.1.size : Int) < (wrap64 (3 * (x2.length : Int))) then (none) else (if (bt346.1.size : Int) > (wrap64 (18 * (x2.length : Int))) then (none) else (if (bt342.1.size : Int) ≤ 100 then (if (bt344.1.size : Int) ≤ 100 then (some (decide ((bt346.1.size : Int) ≤ 100))) else (none)) else (none)))) else (if (bt342.1.size : Int) ≤ 100 then (if (bt344.1.size : Int) ≤ 100 then (some (decide ((bt346.1.size : Int) ≤ 100))) else (none)) else (none))))) else (if bt346.2 = 0 then (if (bt346.1.size : Int) < (wrap64 (3 * (x2.length : Int))) then (none) else (if (bt346.1.size : Int) > (wrap64 (18 * (x2.length : Int))) then (none) else (if (bt342.1.size : Int) ≤ 100 then (if (bt344.1.size : Int) ≤ 100 then (some (decide ((bt346.1.size : Int) ≤ 100))) else (none)) else (none)))) else (if (bt342.1.size : Int) ≤ 100 then (if (bt344.1.size : Int) ≤ 100 then (some (decide ((bt346.1.size : Int) ≤ 100))) else (none)) else (none)))))) else (if bt344.2 = 0 then (if (bt344.1.size : Int) < 2 then (none) else (if (bt344.1.size : Int) > 7 then (none) else (if bt346.2 = 0 then (if (bt346.1.size : Int) < (wrap64 (3 * (x2.length : Int))) then (none) else (if (bt346.1.size : Int) > (wrap64 (18 * (x2.length : Int))) then (none) else (if (bt342.1.size : Int) ≤ 100 then (if (bt344.1.size : Int) ≤ 100 then (some (decide ((bt346.1.size : Int) ≤ 100))) else (none)) else (none)))) else (if (bt342.1.size : Int) ≤ 100 then (if (bt344.1.size : Int) ≤ 100 then (some (decide ((bt346.1.size : Int) ≤ 100))) else (none)) else (none))))) else (if bt346.2 = 0 then (if (bt346.1.size : Int) < (wrap64 (3 * (x2.length : Int))) then (none) else (if (bt346.1.size : Int) > (wrap64 (18 * (x2.length : Int))) then (none) else (if (bt342.1.size : Int) ≤ 100 then (if (bt344.1.size : Int) ≤ 100 then (some (decide ((bt346.1.size : Int) ≤ 100))) else (none)) else (none)))) else (if (bt342.1.size : Int) ≤ 100 then (if (bt344.1.size : Int) ≤ 100 then (some (decide ((bt346.1.size : Int) ≤ 100))) else (none)) else (none))))))))
def screelaw15_ColShort.f (k : Nat) (a0_0 : ByteArray) (a0_1 : Int) (a0_2 : Int) (a0_3 : Int) (a1_0 : Int) (a1_1 : Int) (l2 : List (S51)) : Option (Bool) := (screelaw15_awake.f k).bind fun t341 => (if t341 = true then (if (a0_0.size : Int) > 1024 then (screelaw15_ColShort.j0 k l2 true a0_0 a0_1 a0_2 a0_3 a1_0 a1_1) else (screelaw15_ColShort.j0 k l2 (decide ((l2.length : Int) > 40)) a0_0 a0_1 a0_2 a0_3 a1_0 a1_1)) else (none))
theorem screelaw15_ColShort.mono_l : ∀ k, (∀ y0 y1 y2 y3 y4 y5 y6 y7, LeO (screelaw15_ColShort.j0 k y0 y1 y2 y3 y4 y5 y6 y7) (screelaw15_ColShort.j0 (k + 1) y0 y1 y2 y3 y4 y5 y6 y7))
  | 0 => fun _ _ _ _ _ _ _ _ r h => by simp [screelaw15_ColShort.j0] at h
  | k + 1 => by
    have ih0 := screelaw15_ColShort.mono_l k
    · intro y0 y1 y2 y3 y4 y5 y6 y7
      unfold screelaw15_ColShort.j0
      repeat' first
      | (with_reducible exact ih0 _ _ _ _ _ _ _ _)
      | (with_reducible exact col_Leases.mono _ _)
      | (with_reducible exact col_Lock.mono _ _ _ _ _)
      | (with_reducible exact col_Write.mono _ _ _)
      | (with_reducible exact screelaw15_awake.mono _)
      | (with_reducible exact LeO.refl _)
      | (with_reducible exact LeO.none _)
      | (with_reducible refine LeO.ite ?_ ?_)
      | (with_reducible refine LeO.bind ?_ (fun _ => ?_))
      | exact ih0 _ _ _ _ _ _ _ _
      | exact col_Leases.mono _ _
      | exact col_Lock.mono _ _ _ _ _
      | exact col_Write.mono _ _ _
      | exact screelaw15_awake.mono _
      | exact LeO.none _
      | refine LeO.ite ?_ ?_
      | refine LeO.bind ?_ (fun _ => ?_)
theorem screelaw15_ColShort.mono : ∀ a0 a1 a2 a3 a4 a5 a6 k, LeO (screelaw15_ColShort.f k a0 a1 a2 a3 a4 a5 a6) (screelaw15_ColShort.f (k + 1) a0 a1 a2 a3 a4 a5 a6) := by
  intro a0 a1 a2 a3 a4 a5 a6 k
  have ih0 := screelaw15_ColShort.mono_l k
  unfold screelaw15_ColShort.f
  repeat' first
      | (with_reducible exact ih0 _ _ _ _ _ _ _ _)
      | (with_reducible exact col_Leases.mono _ _)
      | (with_reducible exact col_Lock.mono _ _ _ _ _)
      | (with_reducible exact col_Write.mono _ _ _)
      | (with_reducible exact screelaw15_awake.mono _)
      | (with_reducible exact LeO.refl _)
      | (with_reducible exact LeO.none _)
      | (with_reducible refine LeO.ite ?_ ?_)
      | (with_reducible refine LeO.bind ?_ (fun _ => ?_))
      | exact ih0 _ _ _ _ _ _ _ _
      | exact col_Leases.mono _ _
      | exact col_Lock.mono _ _ _ _ _
      | exact col_Write.mono _ _ _
      | exact screelaw15_awake.mono _
      | exact LeO.none _
      | refine LeO.ite ?_ ?_
      | refine LeO.bind ?_ (fun _ => ?_)
set_option maxHeartbeats 8000000 in
set_option maxRecDepth 100000 in
theorem screelaw15_ColShort.calls (k : Nat) (a0_0 : ByteArray) (a0_1 : Int) (a0_2 : Int) (a0_3 : Int) (a1_0 : Int) (a1_1 : Int) (A2 : Option Addr) (c2 : Nat) (l2 : List (S51)) (r : Bool) (w : World) (hr2 : Kd.C k51 w A2 l2.length l2) (hc2 : l2.length ≤ c2) (h : screelaw15_ColShort.f k a0_0 a0_1 a0_2 a0_3 a1_0 a1_1 l2 = some r) :
    Calls Try.prog 8 #[.agg #[.string a0_0, .int .u64 a0_1, .int .i64 a0_2, .int .u64 a0_3], .agg #[.int .u64 a1_0, .int .i64 a1_1], .slice A2 l2.length c2] w fun e w' => e = .returned (.bool r) ∧ Below w.heap.size w w' := by
  have hu24 := Try.underlying24
  have hu26 := Try.underlying26
  have HR2 := Aside0.mk hr2
  have HC2 := Aside0.mk hc2
  clear hr2 hc2
  have HB := Aside0.mk (Below.refl w.heap.size w)
  have H : ((screelaw15_awake.f k).bind fun t341 => (if t341 = true then (if (a0_0.size : Int) > 1024 then (screelaw15_ColShort.j0 k l2 true a0_0 a0_1 a0_2 a0_3 a1_0 a1_1) else (screelaw15_ColShort.j0 k l2 (decide ((l2.length : Int) > 40)) a0_0 a0_1 a0_2 a0_3 a1_0 a1_1)) else (none))) = some r := h
  clear h
  replace H := Option.bind_eq_some_iff.mp H
  obtain ⟨t341, A40, H⟩ := H
  replace H : (if t341 = true then (if (a0_0.size : Int) > 1024 then (screelaw15_ColShort.j0 k l2 true a0_0 a0_1 a0_2 a0_3 a1_0 a1_1) else (screelaw15_ColShort.j0 k l2 (decide ((l2.length : Int) > 40)) a0_0 a0_1 a0_2 a0_3 a1_0 a1_1)) else (none)) = some r := H
  have A4 := Aside0.mk A40
  clear A40
  by_cases c5 : t341 = true
  · subst c5
    have H1 : (if (a0_0.size : Int) > 1024 then (screelaw15_ColShort.j0 k l2 true a0_0 a0_1 a0_2 a0_3 a1_0 a1_1) else (screelaw15_ColShort.j0 k l2 (decide ((l2.length : Int) > 40)) a0_0 a0_1 a0_2 a0_3 a1_0 a1_1)) = some r := by rw [if_pos rfl] at H; exact H
    clear H
    have H := H1
    clear H1
    have HC6 := Aside0.mk H
    clear H
    go_enter Try.func8, Try.ntmps8
    go_upto_region 3 with (first | ((with_reducible refine gate_dst (N := 3) rfl ?_); (try (refine gate_guard (by rfl) ?_; dsimp only)); refine box_event ?hg (N := 3) ?hd (cs := #[.string a0_0, .int .u64 a0_1, .int .i64 a0_2, .int .u64 a0_3]) (t := 24) ?hr ?_; (case hd => rfl); (case hg => rfl); (case hr => first | (go_simp; done) | (go_simp; rfl)); intro gb339 hg w7 hbox hb; have n0_ := Aside0.mk (below_step (by repeat (first | (with_reducible first | exact HB.out | apply below_alloc | apply pw_below_drewN | apply below_drew1) | exact HB.out)) hb); have n1_ := Aside0.mk (hbox); have n2_ := Aside0.mk ((by rw [hg]; exact (below_size (by repeat (first | (with_reducible first | exact HB.out | apply below_alloc | apply pw_below_drewN | apply below_drew1) | exact HB.out))) : w.heap.size ≤ gb339)); have n3_ := Aside0.mk ((by rw [hg]; exact (below_size (by repeat (first | (with_reducible first | exact HB.out | apply below_alloc | apply pw_below_drewN | apply below_drew1) | exact HB.out))) : w.heap.size ≤ gb339)); clear HB; have HB := n0_; have BK339 := n1_; have GW339 := n2_; have GE339 := n3_; clear n0_ n1_ n2_ n3_; clear hb hbox hg) | ((with_reducible refine gate_dst (N := 4) rfl ?_); (try (refine gate_guard (by rfl) ?_; dsimp only)); refine box_event ?hg (N := 4) ?hd (cs := #[.int .u64 a1_0, .int .i64 a1_1]) (t := 26) ?hr ?_; (case hd => rfl); (case hg => rfl); (case hr => first | (go_simp; done) | (go_simp; rfl)); intro gb340 hg w8 hbox hb; have n0_ := Aside0.mk (blk_below (g := gb339) (o := .cells #[.string a0_0, .int .u64 a0_1, .int .i64 a0_2, .int .u64 a0_3] 24 (0, 0)) (by (with_reducible repeat (first | refine blk_drewN ?_ _ | refine blk_drew ?_ | refine blk_alloc ?_ _)); exact BK339.out) hb); have n1_ := Aside0.mk (below_step (by repeat (first | (with_reducible first | exact HB.out | apply below_alloc | apply pw_below_drewN | apply below_drew1 | refine below_set ?_ GE339.out) | exact HB.out)) hb); have n2_ := Aside0.mk (hbox); have n3_ := Aside0.mk ((by rw [hg]; exact (below_size (by repeat (first | (with_reducible first | exact HB.out | apply below_alloc | apply pw_below_drewN | apply below_drew1 | refine below_set ?_ GE339.out) | exact HB.out))) : w.heap.size ≤ gb340)); have n4_ := Aside0.mk ((by rw [hg]; exact (below_size (by repeat (first | (with_reducible first | exact HB.out | apply below_alloc | apply pw_below_drewN | apply below_drew1 | refine below_set ?_ GE339.out) | exact HB.out))) : w.heap.size ≤ gb340)); have n5_ := Aside0.mk ((by rw [hg]; exact Nat.ne_of_lt (blk_lt (g := gb339) (o := .cells #[.string a0_0, .int .u64 a0_1, .int .i64 a0_2, .int .u64 a0_3] 24 (0, 0)) (by (with_reducible repeat (first | refine blk_drewN ?_ _ | refine blk_drew ?_ | refine blk_alloc ?_ _)); exact BK339.out)) : gb339 ≠ gb340)); have n6_ := Aside0.mk ((by rw [hg]; exact Nat.ne_of_gt (blk_lt (g := gb339) (o := .cells #[.string a0_0, .int .u64 a0_1, .int .i64 a0_2, .int .u64 a0_3] 24 (0, 0)) (by (with_reducible repeat (first | refine blk_drewN ?_ _ | refine blk_drew ?_ | refine blk_alloc ?_ _)); exact BK339.out)) : gb340 ≠ gb339)); clear BK339; clear HB; have BK339 := n0_; have HB := n1_; have BK340 := n2_; have GW340 := n3_; have GE340 := n4_; have NB339_340 := n5_; have NB340_339 := n6_; clear n0_ n1_ n2_ n3_ n4_ n5_ n6_; clear hb hbox hg) | ((with_reducible refine gate_callee (f := 10) rfl ?_); refine goesL_ (some 13) rfl rfl Try.func10 (by kernel_rfl) rfl #[] rfl (by (try simp only [List.map_toArray, List.map_cons, List.map_nil]); first | done | rfl | (simp only [List.length_drop, List.length_take]; rfl) | (simp (disch := omega) only [IntWalk.u64_in, IntWalk.i64_in, IntWalk.u8_in]; rfl)) ?_; (with_reducible refine (screelaw15_awake.calls k  true _ A4.out).mono ?_); rintro e w9 ⟨rfl, hb⟩; refine ⟨_, rfl, ?_⟩; have n0_ := Aside0.mk (blk_below (g := gb339) (o := .cells #[.string a0_0, .int .u64 a0_1, .int .i64 a0_2, .int .u64 a0_3] 24 (0, 0)) (by (with_reducible repeat (first | refine blk_drewN ?_ _ | refine blk_drew ?_ | refine blk_alloc ?_ _)); exact BK339.out) hb); have n1_ := Aside0.mk (blk_below (g := gb340) (o := .cells #[.int .u64 a1_0, .int .i64 a1_1] 26 (0, 0)) (by (with_reducible repeat (first | refine blk_drewN ?_ _ | refine blk_drew ?_ | refine blk_alloc ?_ _)); exact BK340.out) hb); have n2_ := Aside0.mk (below_step (by repeat (first | (with_reducible first | exact HB.out | apply below_alloc | apply pw_below_drewN | apply below_drew1 | refine below_set ?_ GE339.out | refine below_set ?_ GE340.out) | exact HB.out)) hb); clear BK339; clear BK340; clear HB; have BK339 := n0_; have BK340 := n1_; have HB := n2_; clear n0_ n1_ n2_; (try clear hb); (try clear hb2); (try clear hk); (try clear hi); (try clear A4)))
    (try simp only [Act.put, List.setIfInBounds_toArray, List.set_cons_zero, List.set_cons_succ])
    go_cut [23] (fun v23 wc => ∃ (kq : Nat) (x23_5 : Bool), v23 = .bool x23_5 ∧ Aside0 (screelaw15_ColShort.j0 kq l2 x23_5 a0_0 a0_1 a0_2 a0_3 a1_0 a1_1 = some r) ∧ Aside0 (kq ≤ k) ∧ Aside0 (wc.heap[gb339]? = some (.cells #[.string a0_0, .int .u64 a0_1, .int .i64 a0_2, .int .u64 a0_3] 24 (0, 0))) ∧ Aside0 (wc.heap[gb340]? = some (.cells #[.int .u64 a1_0, .int .i64 a1_1] 26 (0, 0))) ∧ Aside0 (Below w.heap.size w wc))
    case first =>
      have H := HC6.out
      clear HC6
      by_cases c10 : (a0_0.size : Int) > 1024
      · rw [if_pos c10] at H
        have c10b0 : decide (1024 < (a0_0.size : Int)) = true := decide_eq_true c10
        have c10b1 : decide (1024 < a0_0.size) = true := decide_eq_true (by omega)
        clear c10
        (first | rw [c10b0] | (simp only [i64_w, i32_w]; rw [c10b0]) | skip)
        have H' := Aside0.mk H
        clear H
        have hnb11 := NB339_340.out
        have hnc11 := NB340_339.out
        have hcz12_0 : w9.cell? ⟨gb339, 0, none⟩ = some (.string a0_0) := (blk_cell BK339.out 0).trans rfl
        have hcz12_1 : w9.cell? ⟨gb339, 1, none⟩ = some (.int .u64 a0_1) := (blk_cell BK339.out 1).trans rfl
        have hcz12_2 : w9.cell? ⟨gb339, 2, none⟩ = some (.int .i64 a0_2) := (blk_cell BK339.out 2).trans rfl
        have hcz12_3 : w9.cell? ⟨gb339, 3, none⟩ = some (.int .u64 a0_3) := (blk_cell BK339.out 3).trans rfl
        have hfz12_0 := blk_frozen BK339.out 0
        have hfz12_1 := blk_frozen BK339.out 1
        have hfz12_2 := blk_frozen BK339.out 2
        have hfz12_3 := blk_frozen BK339.out 3
        go_wp2
        go_meet
        case rel => exact ⟨_, (true), (by first | rfl | (simp; done) | (simp [*]; done)), (by first | (with_reducible exact H') | exact H' | (subst_vars; exact H')), ⟨by first | omega | exact Nat.le_refl _⟩, ⟨by (with_reducible repeat (first | refine blk_drewN ?_ _ | refine blk_drew ?_ | refine blk_alloc ?_ _)); exact BK339.out⟩, ⟨by (with_reducible repeat (first | refine blk_drewN ?_ _ | refine blk_drew ?_ | refine blk_alloc ?_ _)); exact BK340.out⟩, ⟨by repeat (first | (with_reducible first | exact HB.out | apply below_alloc | apply pw_below_drewN | apply below_drew1 | refine below_set ?_ GE339.out | refine below_set ?_ GE340.out) | exact HB.out)⟩⟩
      · rw [if_neg c10] at H
        have c10b0 : decide (1024 < (a0_0.size : Int)) = false := decide_eq_false c10
        have c10b1 : decide (1024 < a0_0.size) = false := decide_eq_false (by omega)
        clear c10
        (first | rw [c10b0] | (simp only [i64_w, i32_w]; rw [c10b0]) | skip)
        have H' := Aside0.mk H
        clear H
        have hnb13 := NB339_340.out
        have hnc13 := NB340_339.out
        have hcz14_0 : w9.cell? ⟨gb339, 0, none⟩ = some (.string a0_0) := (blk_cell BK339.out 0).trans rfl
        have hcz14_1 : w9.cell? ⟨gb339, 1, none⟩ = some (.int .u64 a0_1) := (blk_cell BK339.out 1).trans rfl
        have hcz14_2 : w9.cell? ⟨gb339, 2, none⟩ = some (.int .i64 a0_2) := (blk_cell BK339.out 2).trans rfl
        have hcz14_3 : w9.cell? ⟨gb339, 3, none⟩ = some (.int .u64 a0_3) := (blk_cell BK339.out 3).trans rfl
        have hfz14_0 := blk_frozen BK339.out 0
        have hfz14_1 := blk_frozen BK339.out 1
        have hfz14_2 := blk_frozen BK339.out 2
        have hfz14_3 := blk_frozen BK339.out 3
        go_wp2
        go_meet
        case rel => exact ⟨_, (decide ((l2.length : Int) > 40)), (by first | rfl | (simp; done) | (simp [*]; done)), (by first | (with_reducible exact H') | exact H' | (subst_vars; exact H')), ⟨by first | omega | exact Nat.le_refl _⟩, ⟨by (with_reducible repeat (first | refine blk_drewN ?_ _ | refine blk_drew ?_ | refine blk_alloc ?_ _)); exact BK339.out⟩, ⟨by (with_reducible repeat (first | refine blk_drewN ?_ _ | refine blk_drew ?_ | refine blk_alloc ?_ _)); exact BK340.out⟩, ⟨by repeat (first | (with_reducible first | exact HB.out | apply below_alloc | apply pw_below_drewN | apply below_drew1 | refine below_set ?_ GE339.out | refine below_set ?_ GE340.out) | exact HB.out)⟩⟩
    case rest =>
      clear HC6
      try clear c1
      try clear c2
      try clear p2
      try clear c5
      try clear c8
      try clear c10
      try clear c10b0
      try clear c10b1
      try clear c11
      try clear c13
      try clear hcz12_0
      try clear hcz12_1
      try clear hcz12_2
      try clear hcz12_3
      try clear hcz14_0
      try clear hcz14_1
      try clear hcz14_2
      try clear hcz14_3
      try clear hfz12_0
      try clear hfz12_1
      try clear hfz12_2
      try clear hfz12_3
      try clear hfz14_0
      try clear hfz14_1
      try clear hfz14_2
      try clear hfz14_3
      obtain ⟨kq, x23_5, rfl, HA, HJ5, BK339, BK340, HB⟩ := hcut
      cases kq with
      | zero => exact absurd HA.out (by simp [screelaw15_ColShort.j0])
      | succ kj5 =>
        have H := HA.out
        clear HA
        simp only [screelaw15_ColShort.j0] at H
        by_cases c15 : x23_5 = true
        · subst c15
          have H1 : (some true) = some r := by rw [if_pos rfl] at H; exact H
          clear H
          have H := H1
          clear H1
          obtain rfl := Option.some.inj H
          go_wp2
          go_ret
          exact ⟨by first | rfl | (simp [errW_none, errW_some] <;> rfl) | (simp (disch := omega) only [← i64_w, IntWalk.i64_in]; rfl) | (simp [*, errW_none, errW_some] <;> rfl), by repeat (first | (with_reducible first | exact HB.out | apply below_alloc | apply pw_below_drewN | apply below_drew1 | refine below_set ?_ GE339.out | refine below_set ?_ GE340.out) | exact HB.out)⟩
        · replace c15 := Bool.eq_false_iff.mpr c15
          subst c15
          have H1 : ((col_Lock.f kj5 a0_0 a0_1 a0_2 a0_3).bind fun bt342 => ((col_Write.f kj5 a1_0 a1_1).bind fun bt344 => ((col_Leases.f kj5 l2).bind fun bt346 => (if bt342.2 = 0 then (if (bt342.1.size : Int) < (wrap64 ((a0_0.size : Int) + 3)) then (none) else (if (bt342.1.size : Int) > (wrap64 ((a0_0.size : Int) + 13)) then (none) else (if bt344.2 = 0 then (if (bt344.1.size : Int) < 2 then (none) else (if (bt344.1.size : Int) > 7 then (none) else (if bt346.2 = 0 then (if (bt346.1.size : Int) < (wrap64 (3 * (l2.length : Int))) then (none) else (if (bt346.1.size : Int) > (wrap64 (18 * (l2.length : Int))) then (none) else (if (bt342.1.size : Int) ≤ 100 then (if (bt344.1.size : Int) ≤ 100 then (some (decide ((bt346.1.size : Int) ≤ 100))) else (none)) else (none)))) else (if (bt342.1.size : Int) ≤ 100 then (if (bt344.1.size : Int) ≤ 100 then (some (decide ((bt346.1.size : Int) ≤ 100))) else (none)) else (none))))) else (if bt346.2 = 0 then (if (bt346.1.size : Int) < (wrap64 (3 * (l2.length : Int))) then (none) else (if (bt346.1.size : Int) > (wrap64 (18 * (l2.length : Int))) then (none) else (if (bt342.1.size : Int) ≤ 100 then (if (bt344.1.size : Int) ≤ 100 then (some (decide ((bt346.1.size : Int) ≤ 100))) else (none)) else (none)))) else (if (bt342.1.size : Int) ≤ 100 then (if (bt344.1.size : Int) ≤ 100 then (some (decide ((bt346.1.size : Int) ≤ 100))) else (none)) else (none)))))) else (if bt344.2 = 0 then (if (bt344.1.size : Int) < 2 then (none) else (if (bt344.1.size : Int) > 7 then (none) else (if bt346.2 = 0 then (if (bt346.1.size : Int) < (wrap64 (3 * (l2.length : Int))) then (none) else (if (bt346.1.size : Int) > (wrap64 (18 * (l2.length : Int))) then (none) else (if (bt342.1.size : Int) ≤ 100 then (if (bt344.1.size : Int) ≤ 100 then (some (decide ((bt346.1.size : Int) ≤ 100))) else (none)) else (none)))) else (if (bt342.1.size : Int) ≤ 100 then (if (bt344.1.size : Int) ≤ 100 then (some (decide ((bt346.1.size : Int) ≤ 100))) else (none)) else (none))))) else (if bt346.2 = 0 then (if (bt346.1.size : Int) < (wrap64 (3 * (l2.length : Int))) then (none) else (if (bt346.1.size : Int) > (wrap64 (18 * (l2.length : Int))) then (none) else (if (bt342.1.size : Int) ≤ 100 then (if (bt344.1.size : Int) ≤ 100 then (some (decide ((bt346.1.size : Int) ≤ 100))) else (none)) else (none)))) else (if (bt342.1.size : Int) ≤ 100 then (if (bt344.1.size : Int) ≤ 100 then (some (decide ((bt346.1.size : Int) ≤ 100))) else (none)) else (none)))))))) = some r := by rw [if_neg (show ¬ (false = true) by decide)] at H; exact H
          clear H
          have H := H1
          clear H1
          replace H := Option.bind_eq_some_iff.mp H
          obtain ⟨⟨t342, t343⟩, A160, H⟩ := H
          replace H : ((col_Write.f kj5 a1_0 a1_1).bind fun bt344 => ((col_Leases.f kj5 l2).bind fun bt346 => (if t343 = 0 then (if (t342.size : Int) < (wrap64 ((a0_0.size : Int) + 3)) then (none) else (if (t342.size : Int) > (wrap64 ((a0_0.size : Int) + 13)) then (none) else (if bt344.2 = 0 then (if (bt344.1.size : Int) < 2 then (none) else (if (bt344.1.size : Int) > 7 then (none) else (if bt346.2 = 0 then (if (bt346.1.size : Int) < (wrap64 (3 * (l2.length : Int))) then (none) else (if (bt346.1.size : Int) > (wrap64 (18 * (l2.length : Int))) then (none) else (if (t342.size : Int) ≤ 100 then (if (bt344.1.size : Int) ≤ 100 then (some (decide ((bt346.1.size : Int) ≤ 100))) else (none)) else (none)))) else (if (t342.size : Int) ≤ 100 then (if (bt344.1.size : Int) ≤ 100 then (some (decide ((bt346.1.size : Int) ≤ 100))) else (none)) else (none))))) else (if bt346.2 = 0 then (if (bt346.1.size : Int) < (wrap64 (3 * (l2.length : Int))) then (none) else (if (bt346.1.size : Int) > (wrap64 (18 * (l2.length : Int))) then (none) else (if (t342.size : Int) ≤ 100 then (if (bt344.1.size : Int) ≤ 100 then (some (decide ((bt346.1.size : Int) ≤ 100))) else (none)) else (none)))) else (if (t342.size : Int) ≤ 100 then (if (bt344.1.size : Int) ≤ 100 then (some (decide ((bt346.1.size : Int) ≤ 100))) else (none)) else (none)))))) else (if bt344.2 = 0 then (if (bt344.1.size : Int) < 2 then (none) else (if (bt344.1.size : Int) > 7 then (none) else (if bt346.2 = 0 then (if (bt346.1.size : Int) < (wrap64 (3 * (l2.length : Int))) then (none) else (if (bt346.1.size : Int) > (wrap64 (18 * (l2.length : Int))) then (none) else (if (t342.size : Int) ≤ 100 then (if (bt344.1.size : Int) ≤ 100 then (some (decide ((bt346.1.size : Int) ≤ 100))) else (none)) else (none)))) else (if (t342.size : Int) ≤ 100 then (if (bt344.1.size : Int) ≤ 100 then (some (decide ((bt346.1.size : Int) ≤ 100))) else (none)) else (none))))) else (if bt346.2 = 0 then (if (bt346.1.size : Int) < (wrap64 (3 * (l2.length : Int))) then (none) else (if (bt346.1.size : Int) > (wrap64 (18 * (l2.length : Int))) then (none) else (if (t342.size : Int) ≤ 100 then (if (bt344.1.size : Int) ≤ 100 then (some (decide ((bt346.1.size : Int) ≤ 100))) else (none)) else (none)))) else (if (t342.size : Int) ≤ 100 then (if (bt344.1.size : Int) ≤ 100 then (some (decide ((bt346.1.size : Int) ≤ 100))) else (none)) else (none))))))) = some r := H
          have A16 := Aside0.mk A160
          clear A160
          replace H := Option.bind_eq_some_iff.mp H
          obtain ⟨⟨t344, t345⟩, A170, H⟩ := H
          replace H : ((col_Leases.f kj5 l2).bind fun bt346 => (if t343 = 0 then (if (t342.size : Int) < (wrap64 ((a0_0.size : Int) + 3)) then (none) else (if (t342.size : Int) > (wrap64 ((a0_0.size : Int) + 13)) then (none) else (if t345 = 0 then (if (t344.size : Int) < 2 then (none) else (if (t344.size : Int) > 7 then (none) else (if bt346.2 = 0 then (if (bt346.1.size : Int) < (wrap64 (3 * (l2.length : Int))) then (none) else (if (bt346.1.size : Int) > (wrap64 (18 * (l2.length : Int))) then (none) else (if (t342.size : Int) ≤ 100 then (if (t344.size : Int) ≤ 100 then (some (decide ((bt346.1.size : Int) ≤ 100))) else (none)) else (none)))) else (if (t342.size : Int) ≤ 100 then (if (t344.size : Int) ≤ 100 then (some (decide ((bt346.1.size : Int) ≤ 100))) else (none)) else (none))))) else (if bt346.2 = 0 then (if (bt346.1.size : Int) < (wrap64 (3 * (l2.length : Int))) then (none) else (if (bt346.1.size : Int) > (wrap64 (18 * (l2.length : Int))) then (none) else (if (t342.size : Int) ≤ 100 then (if (t344.size : Int) ≤ 100 then (some (decide ((bt346.1.size : Int) ≤ 100))) else (none)) else (none)))) else (if (t342.size : Int) ≤ 100 then (if (t344.size : Int) ≤ 100 then (some (decide ((bt346.1.size : Int) ≤ 100))) else (none)) else (none)))))) else (if t345 = 0 then (if (t344.size : Int) < 2 then (none) else (if (t344.size : Int) > 7 then (none) else (if bt346.2 = 0 then (if (bt346.1.size : Int) < (wrap64 (3 * (l2.length : Int))) then (none) else (if (bt346.1.size : Int) > (wrap64 (18 * (l2.length : Int))) then (none) else (if (t342.size : Int) ≤ 100 then (if (t344.size : Int) ≤ 100 then (some (decide ((bt346.1.size : Int) ≤ 100))) else (none)) else (none)))) else (if (t342.size : Int) ≤ 100 then (if (t344.size : Int) ≤ 100 then (some (decide ((bt346.1.size : Int) ≤ 100))) else (none)) else (none))))) else (if bt346.2 = 0 then (if (bt346.1.size : Int) < (wrap64 (3 * (l2.length : Int))) then (none) else (if (bt346.1.size : Int) > (wrap64 (18 * (l2.length : Int))) then (none) else (if (t342.size : Int) ≤ 100 then (if (t344.size : Int) ≤ 100 then (some (decide ((bt346.1.size : Int) ≤ 100))) else (none)) else (none)))) else (if (t342.size : Int) ≤ 100 then (if (t344.size : Int) ≤ 100 then (some (decide ((bt346.1.size : Int) ≤ 100))) else (none)) else (none)))))) = some r := H
          have A17 := Aside0.mk A170
          clear A170
          replace H := Option.bind_eq_some_iff.mp H
          obtain ⟨⟨t346, t347⟩, A180, H⟩ := H
          replace H : (if t343 = 0 then (if (t342.size : Int) < (wrap64 ((a0_0.size : Int) + 3)) then (none) else (if (t342.size : Int) > (wrap64 ((a0_0.size : Int) + 13)) then (none) else (if t345 = 0 then (if (t344.size : Int) < 2 then (none) else (if (t344.size : Int) > 7 then (none) else (if t347 = 0 then (if (t346.size : Int) < (wrap64 (3 * (l2.length : Int))) then (none) else (if (t346.size : Int) > (wrap64 (18 * (l2.length : Int))) then (none) else (if (t342.size : Int) ≤ 100 then (if (t344.size : Int) ≤ 100 then (some (decide ((t346.size : Int) ≤ 100))) else (none)) else (none)))) else (if (t342.size : Int) ≤ 100 then (if (t344.size : Int) ≤ 100 then (some (decide ((t346.size : Int) ≤ 100))) else (none)) else (none))))) else (if t347 = 0 then (if (t346.size : Int) < (wrap64 (3 * (l2.length : Int))) then (none) else (if (t346.size : Int) > (wrap64 (18 * (l2.length : Int))) then (none) else (if (t342.size : Int) ≤ 100 then (if (t344.size : Int) ≤ 100 then (some (decide ((t346.size : Int) ≤ 100))) else (none)) else (none)))) else (if (t342.size : Int) ≤ 100 then (if (t344.size : Int) ≤ 100 then (some (decide ((t346.size : Int) ≤ 100))) else (none)) else (none)))))) else (if t345 = 0 then (if (t344.size : Int) < 2 then (none) else (if (t344.size : Int) > 7 then (none) else (if t347 = 0 then (if (t346.size : Int) < (wrap64 (3 * (l2.length : Int))) then (none) else (if (t346.size : Int) > (wrap64 (18 * (l2.length : Int))) then (none) else (if (t342.size : Int) ≤ 100 then (if (t344.size : Int) ≤ 100 then (some (decide ((t346.size : Int) ≤ 100))) else (none)) else (none)))) else (if (t342.size : Int) ≤ 100 then (if (t344.size : Int) ≤ 100 then (some (decide ((t346.size : Int) ≤ 100))) else (none)) else (none))))) else (if t347 = 0 then (if (t346.size : Int) < (wrap64 (3 * (l2.length : Int))) then (none) else (if (t346.size : Int) > (wrap64 (18 * (l2.length : Int))) then (none) else (if (t342.size : Int) ≤ 100 then (if (t344.size : Int) ≤ 100 then (some (decide ((t346.size : Int) ≤ 100))) else (none)) else (none)))) else (if (t342.size : Int) ≤ 100 then (if (t344.size : Int) ≤ 100 then (some (decide ((t346.size : Int) ≤ 100))) else (none)) else (none))))) = some r := H
          have A18 := Aside0.mk A180
          clear A180
          by_cases c19 : t343 = 0
          · rw [if_pos c19] at H
            have c19b0 : (t343 == 0) = true := beq_iff_eq.mpr c19
            have c19b1 : (t343 != 0) = false := bne_eq_false_iff_eq.mpr c19
            clear c19
            by_cases c20 : (t342.size : Int) < (wrap64 ((a0_0.size : Int) + 3))
            · rw [if_pos c20] at H
              exact absurd H (by simp)
            · rw [if_neg c20] at H
              have c20b0 : decide ((t342.size : Int) < (wrap64 ((a0_0.size : Int) + 3))) = false := decide_eq_false c20
              clear c20
              by_cases c21 : (t342.size : Int) > (wrap64 ((a0_0.size : Int) + 13))
              · rw [if_pos c21] at H
                exact absurd H (by simp)
              · rw [if_neg c21] at H
                have c21b0 : decide ((wrap64 ((a0_0.size : Int) + 13)) < (t342.size : Int)) = false := decide_eq_false c21
                clear c21
                by_cases c22 : t345 = 0
                · rw [if_pos c22] at H
                  have c22b0 : (t345 == 0) = true := beq_iff_eq.mpr c22
                  have c22b1 : (t345 != 0) = false := bne_eq_false_iff_eq.mpr c22
                  clear c22
                  by_cases c23 : (t344.size : Int) < 2
                  · rw [if_pos c23] at H
                    exact absurd H (by simp)
                  · rw [if_neg c23] at H
                    have c23b0 : decide ((t344.size : Int) < 2) = false := decide_eq_false c23
                    have c23b1 : decide (t344.size < 2) = false := decide_eq_false (by omega)
                    clear c23
                    by_cases c24 : (t344.size : Int) > 7
                    · rw [if_pos c24] at H
                      exact absurd H (by simp)
                    · rw [if_neg c24] at H
                      have c24b0 : decide (7 < (t344.size : Int)) = false := decide_eq_false c24
                      have c24b1 : decide (7 < t344.size) = false := decide_eq_false (by omega)
                      clear c24
                      by_cases c25 : t347 = 0
                      · rw [if_pos c25] at H
                        have c25b0 : (t347 == 0) = true := beq_iff_eq.mpr c25
                        have c25b1 : (t347 != 0) = false := bne_eq_false_iff_eq.mpr c25
                        clear c25
                        by_cases c26 : (t346.size : Int) < (wrap64 (3 * (l2.length : Int)))
                        · rw [if_pos c26] at H
                          exact absurd H (by simp)
                        · rw [if_neg c26] at H
                          have c26b0 : decide ((t346.size : Int) < (wrap64 (3 * (l2.length : Int)))) = false := decide_eq_false c26
                          clear c26
                          by_cases c27 : (t346.size : Int) > (wrap64 (18 * (l2.length : Int)))
                          · rw [if_pos c27] at H
                            exact absurd H (by simp)
                          · rw [if_neg c27] at H
                            have c27b0 : decide ((wrap64 (18 * (l2.length : Int))) < (t346.size : Int)) = false := decide_eq_false c27
                            clear c27
                            by_cases c28 : (t342.size : Int) ≤ 100
                            · rw [if_pos c28] at H
                              have c28b0 : decide ((t342.size : Int) ≤ 100) = true := decide_eq_true c28
                              have c28b1 : decide (t342.size ≤ 100) = true := decide_eq_true (by omega)
                              clear c28
                              by_cases c29 : (t344.size : Int) ≤ 100
                              · rw [if_pos c29] at H
                                have c29b0 : decide ((t344.size : Int) ≤ 100) = true := decide_eq_true c29
                                have c29b1 : decide (t344.size ≤ 100) = true := decide_eq_true (by omega)
                                clear c29
                                obtain rfl := Option.some.inj H
                                have hnb30 := NB339_340.out
                                have hnc30 := NB340_339.out
                                have hcz31_0 : wc.cell? ⟨gb339, 0, none⟩ = some (.string a0_0) := (blk_cell BK339.out 0).trans rfl
                                have hcz31_1 : wc.cell? ⟨gb339, 1, none⟩ = some (.int .u64 a0_1) := (blk_cell BK339.out 1).trans rfl
                                have hcz31_2 : wc.cell? ⟨gb339, 2, none⟩ = some (.int .i64 a0_2) := (blk_cell BK339.out 2).trans rfl
                                have hcz31_3 : wc.cell? ⟨gb339, 3, none⟩ = some (.int .u64 a0_3) := (blk_cell BK339.out 3).trans rfl
                                have hfz31_0 := blk_frozen BK339.out 0
                                have hfz31_1 := blk_frozen BK339.out 1
                                have hfz31_2 := blk_frozen BK339.out 2
                                have hfz31_3 := blk_frozen BK339.out 3
                                go_wp2_with (first | ((with_reducible refine gate_callee (f := 11) rfl ?_); refine goesL_ (some 26) rfl rfl Try.func11 (by kernel_rfl) rfl #[.agg #[.string a0_0, .int .u64 a0_1, .int .i64 a0_2, .int .u64 a0_3]] rfl (by (try simp only [List.map_toArray, List.map_cons, List.map_nil]); first | done | rfl | (simp only [List.length_drop, List.length_take]; rfl) | (simp (disch := omega) only [IntWalk.u64_in, IntWalk.i64_in, IntWalk.u8_in]; rfl)) ?_; (with_reducible refine (col_Lock.calls kj5 a0_0 a0_1 a0_2 a0_3 t342 t343 _ A16.out).mono ?_); rintro e w32 ⟨rfl, hb⟩; refine ⟨_, rfl, ?_⟩; have n0_ := Aside0.mk (blk_below (g := gb339) (o := .cells #[.string a0_0, .int .u64 a0_1, .int .i64 a0_2, .int .u64 a0_3] 24 (0, 0)) (by (with_reducible repeat (first | refine blk_drewN ?_ _ | refine blk_drew ?_ | refine blk_alloc ?_ _)); exact BK339.out) hb); have n1_ := Aside0.mk (blk_below (g := gb340) (o := .cells #[.int .u64 a1_0, .int .i64 a1_1] 26 (0, 0)) (by (with_reducible repeat (first | refine blk_drewN ?_ _ | refine blk_drew ?_ | refine blk_alloc ?_ _)); exact BK340.out) hb); have n2_ := Aside0.mk (below_step (by repeat (first | (with_reducible first | exact HB.out | apply below_alloc | apply pw_below_drewN | apply below_drew1 | refine below_set ?_ GE339.out | refine below_set ?_ GE340.out) | exact HB.out)) hb); clear BK339; clear BK340; clear HB; have BK339 := n0_; have BK340 := n1_; have HB := n2_; clear n0_ n1_ n2_; (try clear hb); (try clear hb2); (try clear hk); (try clear hi); (try clear A16); have hcz33_0 : w32.cell? ⟨gb340, 0, none⟩ = some (.int .u64 a1_0) := (blk_cell BK340.out 0).trans rfl; have hcz33_1 : w32.cell? ⟨gb340, 1, none⟩ = some (.int .i64 a1_1) := (blk_cell BK340.out 1).trans rfl; have hfz33_0 := blk_frozen BK340.out 0; have hfz33_1 := blk_frozen BK340.out 1) | ((with_reducible refine gate_callee (f := 13) rfl ?_); refine goesL_ (some 31) rfl rfl Try.func13 (by kernel_rfl) rfl #[.agg #[.int .u64 a1_0, .int .i64 a1_1]] rfl (by (try simp only [List.map_toArray, List.map_cons, List.map_nil]); first | done | rfl | (simp only [List.length_drop, List.length_take]; rfl) | (simp (disch := omega) only [IntWalk.u64_in, IntWalk.i64_in, IntWalk.u8_in]; rfl)) ?_; (with_reducible refine (col_Write.calls kj5 a1_0 a1_1 t344 t345 _ A17.out).mono ?_); rintro e w34 ⟨rfl, hb⟩; refine ⟨_, rfl, ?_⟩; have n0_ := Aside0.mk (blk_below (g := gb339) (o := .cells #[.string a0_0, .int .u64 a0_1, .int .i64 a0_2, .int .u64 a0_3] 24 (0, 0)) (by (with_reducible repeat (first | refine blk_drewN ?_ _ | refine blk_drew ?_ | refine blk_alloc ?_ _)); exact BK339.out) hb); have n1_ := Aside0.mk (blk_below (g := gb340) (o := .cells #[.int .u64 a1_0, .int .i64 a1_1] 26 (0, 0)) (by (with_reducible repeat (first | refine blk_drewN ?_ _ | refine blk_drew ?_ | refine blk_alloc ?_ _)); exact BK340.out) hb); have n2_ := Aside0.mk (below_step (by repeat (first | (with_reducible first | exact HB.out | apply below_alloc | apply pw_below_drewN | apply below_drew1 | refine below_set ?_ GE339.out | refine below_set ?_ GE340.out) | exact HB.out)) hb); clear BK339; clear BK340; clear HB; have BK339 := n0_; have BK340 := n1_; have HB := n2_; clear n0_ n1_ n2_; (try clear hb); (try clear hb2); (try clear hk); (try clear hi); (try clear A17)) | ((with_reducible refine gate_callee (f := 15) rfl ?_); refine goesL_ (some 36) rfl rfl Try.func15 (by kernel_rfl) rfl #[.slice A2 l2.length c2] rfl (by (try simp only [List.map_toArray, List.map_cons, List.map_nil]); first | done | rfl | (simp only [List.length_drop, List.length_take]; rfl) | (simp (disch := omega) only [IntWalk.u64_in, IntWalk.i64_in, IntWalk.u8_in]; rfl)) ?_; (with_reducible refine (col_Leases.calls kj5 _ _ l2 t346 t347 _ ?side1 ?side2 A18.out).mono ?_); (case side1 => repeat (first | exact (Kd.C_below HR2.out HB.out) | (with_reducible refine Kd.C_alloc ?_ _) | (with_reducible refine Kd.C_drewN ?_ _) | (with_reducible refine Kd.C_drew ?_))); (case side2 => exact HC2.out); rintro e w35 ⟨rfl, hb⟩; refine ⟨_, rfl, ?_⟩; have n0_ := Aside0.mk (blk_below (g := gb339) (o := .cells #[.string a0_0, .int .u64 a0_1, .int .i64 a0_2, .int .u64 a0_3] 24 (0, 0)) (by (with_reducible repeat (first | refine blk_drewN ?_ _ | refine blk_drew ?_ | refine blk_alloc ?_ _)); exact BK339.out) hb); have n1_ := Aside0.mk (blk_below (g := gb340) (o := .cells #[.int .u64 a1_0, .int .i64 a1_1] 26 (0, 0)) (by (with_reducible repeat (first | refine blk_drewN ?_ _ | refine blk_drew ?_ | refine blk_alloc ?_ _)); exact BK340.out) hb); have n2_ := Aside0.mk (below_step (by repeat (first | (with_reducible first | exact HB.out | apply below_alloc | apply pw_below_drewN | apply below_drew1 | refine below_set ?_ GE339.out | refine below_set ?_ GE340.out) | exact HB.out)) hb); clear BK339; clear BK340; clear HB; have BK339 := n0_; have BK340 := n1_; have HB := n2_; clear n0_ n1_ n2_; (try clear hb); (try clear hb2); (try clear hk); (try clear hi); (try clear A18); have hcz36_0 : w35.cell? ⟨gb339, 0, none⟩ = some (.string a0_0) := (blk_cell BK339.out 0).trans rfl; have hcz36_1 : w35.cell? ⟨gb339, 1, none⟩ = some (.int .u64 a0_1) := (blk_cell BK339.out 1).trans rfl; have hcz36_2 : w35.cell? ⟨gb339, 2, none⟩ = some (.int .i64 a0_2) := (blk_cell BK339.out 2).trans rfl; have hcz36_3 : w35.cell? ⟨gb339, 3, none⟩ = some (.int .u64 a0_3) := (blk_cell BK339.out 3).trans rfl; have hfz36_0 := blk_frozen BK339.out 0; have hfz36_1 := blk_frozen BK339.out 1; have hfz36_2 := blk_frozen BK339.out 2; have hfz36_3 := blk_frozen BK339.out 3))
                                go_ret
                                exact ⟨by first | rfl | (simp [errW_none, errW_some] <;> rfl) | (simp (disch := omega) only [← i64_w, IntWalk.i64_in]; rfl) | (simp [*, errW_none, errW_some] <;> rfl), by repeat (first | (with_reducible first | exact HB.out | apply below_alloc | apply pw_below_drewN | apply below_drew1 | refine below_set ?_ GE339.out | refine below_set ?_ GE340.out) | exact HB.out)⟩
                              · rw [if_neg c29] at H
                                exact absurd H (by simp)
                            · rw [if_neg c28] at H
                              exact absurd H (by simp)
                      · rw [if_neg c25] at H
                        have c25b0 : (t347 == 0) = false := beq_eq_false_iff_ne.mpr c25
                        have c25b1 : (t347 != 0) = true := bne_iff_ne.mpr c25
                        by_cases c37 : (t342.size : Int) ≤ 100
                        · rw [if_pos c37] at H
                          have c37b0 : decide ((t342.size : Int) ≤ 100) = true := decide_eq_true c37
                          have c37b1 : decide (t342.size ≤ 100) = true := decide_eq_true (by omega)
                          clear c37
                          by_cases c38 : (t344.size : Int) ≤ 100
                          · rw [if_pos c38] at H
                            have c38b0 : decide ((t344.size : Int) ≤ 100) = true := decide_eq_true c38
                            have c38b1 : decide (t344.size ≤ 100) = true := decide_eq_true (by omega)
                            clear c38
                            obtain rfl := Option.some.inj H
                            have hnb39 := NB339_340.out
                            have hnc39 := NB340_339.out
                            have hcz40_0 : wc.cell? ⟨gb339, 0, none⟩ = some (.string a0_0) := (blk_cell BK339.out 0).trans rfl
                            have hcz40_1 : wc.cell? ⟨gb339, 1, none⟩ = some (.int .u64 a0_1) := (blk_cell BK339.out 1).trans rfl
                            have hcz40_2 : wc.cell? ⟨gb339, 2, none⟩ = some (.int .i64 a0_2) := (blk_cell BK339.out 2).trans rfl
                            have hcz40_3 : wc.cell? ⟨gb339, 3, none⟩ = some (.int .u64 a0_3) := (blk_cell BK339.out 3).trans rfl
                            have hfz40_0 := blk_frozen BK339.out 0
                            have hfz40_1 := blk_frozen BK339.out 1
                            have hfz40_2 := blk_frozen BK339.out 2
                            have hfz40_3 := blk_frozen BK339.out 3
                            go_wp2_with (first | ((with_reducible refine gate_callee (f := 11) rfl ?_); refine goesL_ (some 26) rfl rfl Try.func11 (by kernel_rfl) rfl #[.agg #[.string a0_0, .int .u64 a0_1, .int .i64 a0_2, .int .u64 a0_3]] rfl (by (try simp only [List.map_toArray, List.map_cons, List.map_nil]); first | done | rfl | (simp only [List.length_drop, List.length_take]; rfl) | (simp (disch := omega) only [IntWalk.u64_in, IntWalk.i64_in, IntWalk.u8_in]; rfl)) ?_; (with_reducible refine (col_Lock.calls kj5 a0_0 a0_1 a0_2 a0_3 t342 t343 _ A16.out).mono ?_); rintro e w41 ⟨rfl, hb⟩; refine ⟨_, rfl, ?_⟩; have n0_ := Aside0.mk (blk_below (g := gb339) (o := .cells #[.string a0_0, .int .u64 a0_1, .int .i64 a0_2, .int .u64 a0_3] 24 (0, 0)) (by (with_reducible repeat (first | refine blk_drewN ?_ _ | refine blk_drew ?_ | refine blk_alloc ?_ _)); exact BK339.out) hb); have n1_ := Aside0.mk (blk_below (g := gb340) (o := .cells #[.int .u64 a1_0, .int .i64 a1_1] 26 (0, 0)) (by (with_reducible repeat (first | refine blk_drewN ?_ _ | refine blk_drew ?_ | refine blk_alloc ?_ _)); exact BK340.out) hb); have n2_ := Aside0.mk (below_step (by repeat (first | (with_reducible first | exact HB.out | apply below_alloc | apply pw_below_drewN | apply below_drew1 | refine below_set ?_ GE339.out | refine below_set ?_ GE340.out) | exact HB.out)) hb); clear BK339; clear BK340; clear HB; have BK339 := n0_; have BK340 := n1_; have HB := n2_; clear n0_ n1_ n2_; (try clear hb); (try clear hb2); (try clear hk); (try clear hi); (try clear A16); have hcz42_0 : w41.cell? ⟨gb340, 0, none⟩ = some (.int .u64 a1_0) := (blk_cell BK340.out 0).trans rfl; have hcz42_1 : w41.cell? ⟨gb340, 1, none⟩ = some (.int .i64 a1_1) := (blk_cell BK340.out 1).trans rfl; have hfz42_0 := blk_frozen BK340.out 0; have hfz42_1 := blk_frozen BK340.out 1) | ((with_reducible refine gate_callee (f := 13) rfl ?_); refine goesL_ (some 31) rfl rfl Try.func13 (by kernel_rfl) rfl #[.agg #[.int .u64 a1_0, .int .i64 a1_1]] rfl (by (try simp only [List.map_toArray, List.map_cons, List.map_nil]); first | done | rfl | (simp only [List.length_drop, List.length_take]; rfl) | (simp (disch := omega) only [IntWalk.u64_in, IntWalk.i64_in, IntWalk.u8_in]; rfl)) ?_; (with_reducible refine (col_Write.calls kj5 a1_0 a1_1 t344 t345 _ A17.out).mono ?_); rintro e w43 ⟨rfl, hb⟩; refine ⟨_, rfl, ?_⟩; have n0_ := Aside0.mk (blk_below (g := gb339) (o := .cells #[.string a0_0, .int .u64 a0_1, .int .i64 a0_2, .int .u64 a0_3] 24 (0, 0)) (by (with_reducible repeat (first | refine blk_drewN ?_ _ | refine blk_drew ?_ | refine blk_alloc ?_ _)); exact BK339.out) hb); have n1_ := Aside0.mk (blk_below (g := gb340) (o := .cells #[.int .u64 a1_0, .int .i64 a1_1] 26 (0, 0)) (by (with_reducible repeat (first | refine blk_drewN ?_ _ | refine blk_drew ?_ | refine blk_alloc ?_ _)); exact BK340.out) hb); have n2_ := Aside0.mk (below_step (by repeat (first | (with_reducible first | exact HB.out | apply below_alloc | apply pw_below_drewN | apply below_drew1 | refine below_set ?_ GE339.out | refine below_set ?_ GE340.out) | exact HB.out)) hb); clear BK339; clear BK340; clear HB; have BK339 := n0_; have BK340 := n1_; have HB := n2_; clear n0_ n1_ n2_; (try clear hb); (try clear hb2); (try clear hk); (try clear hi); (try clear A17)) | ((with_reducible refine gate_callee (f := 15) rfl ?_); refine goesL_ (some 36) rfl rfl Try.func15 (by kernel_rfl) rfl #[.slice A2 l2.length c2] rfl (by (try simp only [List.map_toArray, List.map_cons, List.map_nil]); first | done | rfl | (simp only [List.length_drop, List.length_take]; rfl) | (simp (disch := omega) only [IntWalk.u64_in, IntWalk.i64_in, IntWalk.u8_in]; rfl)) ?_; (with_reducible refine (col_Leases.calls kj5 _ _ l2 t346 t347 _ ?side1 ?side2 A18.out).mono ?_); (case side1 => repeat (first | exact (Kd.C_below HR2.out HB.out) | (with_reducible refine Kd.C_alloc ?_ _) | (with_reducible refine Kd.C_drewN ?_ _) | (with_reducible refine Kd.C_drew ?_))); (case side2 => exact HC2.out); rintro e w44 ⟨rfl, hb⟩; refine ⟨_, rfl, ?_⟩; have n0_ := Aside0.mk (blk_below (g := gb339) (o := .cells #[.string a0_0, .int .u64 a0_1, .int .i64 a0_2, .int .u64 a0_3] 24 (0, 0)) (by (with_reducible repeat (first | refine blk_drewN ?_ _ | refine blk_drew ?_ | refine blk_alloc ?_ _)); exact BK339.out) hb); have n1_ := Aside0.mk (blk_below (g := gb340) (o := .cells #[.int .u64 a1_0, .int .i64 a1_1] 26 (0, 0)) (by (with_reducible repeat (first | refine blk_drewN ?_ _ | refine blk_drew ?_ | refine blk_alloc ?_ _)); exact BK340.out) hb); have n2_ := Aside0.mk (below_step (by repeat (first | (with_reducible first | exact HB.out | apply below_alloc | apply pw_below_drewN | apply below_drew1 | refine below_set ?_ GE339.out | refine below_set ?_ GE340.out) | exact HB.out)) hb); clear BK339; clear BK340; clear HB; have BK339 := n0_; have BK340 := n1_; have HB := n2_; clear n0_ n1_ n2_; (try clear hb); (try clear hb2); (try clear hk); (try clear hi); (try clear A18); have hcz45_0 : w44.cell? ⟨gb339, 0, none⟩ = some (.string a0_0) := (blk_cell BK339.out 0).trans rfl; have hcz45_1 : w44.cell? ⟨gb339, 1, none⟩ = some (.int .u64 a0_1) := (blk_cell BK339.out 1).trans rfl; have hcz45_2 : w44.cell? ⟨gb339, 2, none⟩ = some (.int .i64 a0_2) := (blk_cell BK339.out 2).trans rfl; have hcz45_3 : w44.cell? ⟨gb339, 3, none⟩ = some (.int .u64 a0_3) := (blk_cell BK339.out 3).trans rfl; have hfz45_0 := blk_frozen BK339.out 0; have hfz45_1 := blk_frozen BK339.out 1; have hfz45_2 := blk_frozen BK339.out 2; have hfz45_3 := blk_frozen BK339.out 3))
                            go_ret
                            exact ⟨by first | rfl | (simp [errW_none, errW_some] <;> rfl) | (simp (disch := omega) only [← i64_w, IntWalk.i64_in]; rfl) | (simp [*, errW_none, errW_some] <;> rfl), by repeat (first | (with_reducible first | exact HB.out | apply below_alloc | apply pw_below_drewN | apply below_drew1 | refine below_set ?_ GE339.out | refine below_set ?_ GE340.out) | exact HB.out)⟩
                          · rw [if_neg c38] at H
                            exact absurd H (by simp)
                        · rw [if_neg c37] at H
                          exact absurd H (by simp)
                · rw [if_neg c22] at H
                  have c22b0 : (t345 == 0) = false := beq_eq_false_iff_ne.mpr c22
                  have c22b1 : (t345 != 0) = true := bne_iff_ne.mpr c22
                  by_cases c46 : t347 = 0
                  · rw [if_pos c46] at H
                    have c46b0 : (t347 == 0) = true := beq_iff_eq.mpr c46
                    have c46b1 : (t347 != 0) = false := bne_eq_false_iff_eq.mpr c46
                    clear c46
                    by_cases c47 : (t346.size : Int) < (wrap64 (3 * (l2.length : Int)))
                    · rw [if_pos c47] at H
                      exact absurd H (by simp)
                    · rw [if_neg c47] at H
                      have c47b0 : decide ((t346.size : Int) < (wrap64 (3 * (l2.length : Int)))) = false := decide_eq_false c47
                      clear c47
                      by_cases c48 : (t346.size : Int) > (wrap64 (18 * (l2.length : Int)))
                      · rw [if_pos c48] at H
                        exact absurd H (by simp)
                      · rw [if_neg c48] at H
                        have c48b0 : decide ((wrap64 (18 * (l2.length : Int))) < (t346.size : Int)) = false := decide_eq_false c48
                        clear c48
                        by_cases c49 : (t342.size : Int) ≤ 100
                        · rw [if_pos c49] at H
                          have c49b0 : decide ((t342.size : Int) ≤ 100) = true := decide_eq_true c49
                          have c49b1 : decide (t342.size ≤ 100) = true := decide_eq_true (by omega)
                          clear c49
                          by_cases c50 : (t344.size : Int) ≤ 100
                          · rw [if_pos c50] at H
                            have c50b0 : decide ((t344.size : Int) ≤ 100) = true := decide_eq_true c50
                            have c50b1 : decide (t344.size ≤ 100) = true := decide_eq_true (by omega)
                            clear c50
                            obtain rfl := Option.some.inj H
                            have hnb51 := NB339_340.out
                            have hnc51 := NB340_339.out
                            have hcz52_0 : wc.cell? ⟨gb339, 0, none⟩ = some (.string a0_0) := (blk_cell BK339.out 0).trans rfl
                            have hcz52_1 : wc.cell? ⟨gb339, 1, none⟩ = some (.int .u64 a0_1) := (blk_cell BK339.out 1).trans rfl
                            have hcz52_2 : wc.cell? ⟨gb339, 2, none⟩ = some (.int .i64 a0_2) := (blk_cell BK339.out 2).trans rfl
                            have hcz52_3 : wc.cell? ⟨gb339, 3, none⟩ = some (.int .u64 a0_3) := (blk_cell BK339.out 3).trans rfl
                            have hfz52_0 := blk_frozen BK339.out 0
                            have hfz52_1 := blk_frozen BK339.out 1
                            have hfz52_2 := blk_frozen BK339.out 2
                            have hfz52_3 := blk_frozen BK339.out 3
                            go_wp2_with (first | ((with_reducible refine gate_callee (f := 11) rfl ?_); refine goesL_ (some 26) rfl rfl Try.func11 (by kernel_rfl) rfl #[.agg #[.string a0_0, .int .u64 a0_1, .int .i64 a0_2, .int .u64 a0_3]] rfl (by (try simp only [List.map_toArray, List.map_cons, List.map_nil]); first | done | rfl | (simp only [List.length_drop, List.length_take]; rfl) | (simp (disch := omega) only [IntWalk.u64_in, IntWalk.i64_in, IntWalk.u8_in]; rfl)) ?_; (with_reducible refine (col_Lock.calls kj5 a0_0 a0_1 a0_2 a0_3 t342 t343 _ A16.out).mono ?_); rintro e w53 ⟨rfl, hb⟩; refine ⟨_, rfl, ?_⟩; have n0_ := Aside0.mk (blk_below (g := gb339) (o := .cells #[.string a0_0, .int .u64 a0_1, .int .i64 a0_2, .int .u64 a0_3] 24 (0, 0)) (by (with_reducible repeat (first | refine blk_drewN ?_ _ | refine blk_drew ?_ | refine blk_alloc ?_ _)); exact BK339.out) hb); have n1_ := Aside0.mk (blk_below (g := gb340) (o := .cells #[.int .u64 a1_0, .int .i64 a1_1] 26 (0, 0)) (by (with_reducible repeat (first | refine blk_drewN ?_ _ | refine blk_drew ?_ | refine blk_alloc ?_ _)); exact BK340.out) hb); have n2_ := Aside0.mk (below_step (by repeat (first | (with_reducible first | exact HB.out | apply below_alloc | apply pw_below_drewN | apply below_drew1 | refine below_set ?_ GE339.out | refine below_set ?_ GE340.out) | exact HB.out)) hb); clear BK339; clear BK340; clear HB; have BK339 := n0_; have BK340 := n1_; have HB := n2_; clear n0_ n1_ n2_; (try clear hb); (try clear hb2); (try clear hk); (try clear hi); (try clear A16); have hcz54_0 : w53.cell? ⟨gb340, 0, none⟩ = some (.int .u64 a1_0) := (blk_cell BK340.out 0).trans rfl; have hcz54_1 : w53.cell? ⟨gb340, 1, none⟩ = some (.int .i64 a1_1) := (blk_cell BK340.out 1).trans rfl; have hfz54_0 := blk_frozen BK340.out 0; have hfz54_1 := blk_frozen BK340.out 1) | ((with_reducible refine gate_callee (f := 13) rfl ?_); refine goesL_ (some 31) rfl rfl Try.func13 (by kernel_rfl) rfl #[.agg #[.int .u64 a1_0, .int .i64 a1_1]] rfl (by (try simp only [List.map_toArray, List.map_cons, List.map_nil]); first | done | rfl | (simp only [List.length_drop, List.length_take]; rfl) | (simp (disch := omega) only [IntWalk.u64_in, IntWalk.i64_in, IntWalk.u8_in]; rfl)) ?_; (with_reducible refine (col_Write.calls kj5 a1_0 a1_1 t344 t345 _ A17.out).mono ?_); rintro e w55 ⟨rfl, hb⟩; refine ⟨_, rfl, ?_⟩; have n0_ := Aside0.mk (blk_below (g := gb339) (o := .cells #[.string a0_0, .int .u64 a0_1, .int .i64 a0_2, .int .u64 a0_3] 24 (0, 0)) (by (with_reducible repeat (first | refine blk_drewN ?_ _ | refine blk_drew ?_ | refine blk_alloc ?_ _)); exact BK339.out) hb); have n1_ := Aside0.mk (blk_below (g := gb340) (o := .cells #[.int .u64 a1_0, .int .i64 a1_1] 26 (0, 0)) (by (with_reducible repeat (first | refine blk_drewN ?_ _ | refine blk_drew ?_ | refine blk_alloc ?_ _)); exact BK340.out) hb); have n2_ := Aside0.mk (below_step (by repeat (first | (with_reducible first | exact HB.out | apply below_alloc | apply pw_below_drewN | apply below_drew1 | refine below_set ?_ GE339.out | refine below_set ?_ GE340.out) | exact HB.out)) hb); clear BK339; clear BK340; clear HB; have BK339 := n0_; have BK340 := n1_; have HB := n2_; clear n0_ n1_ n2_; (try clear hb); (try clear hb2); (try clear hk); (try clear hi); (try clear A17)) | ((with_reducible refine gate_callee (f := 15) rfl ?_); refine goesL_ (some 36) rfl rfl Try.func15 (by kernel_rfl) rfl #[.slice A2 l2.length c2] rfl (by (try simp only [List.map_toArray, List.map_cons, List.map_nil]); first | done | rfl | (simp only [List.length_drop, List.length_take]; rfl) | (simp (disch := omega) only [IntWalk.u64_in, IntWalk.i64_in, IntWalk.u8_in]; rfl)) ?_; (with_reducible refine (col_Leases.calls kj5 _ _ l2 t346 t347 _ ?side1 ?side2 A18.out).mono ?_); (case side1 => repeat (first | exact (Kd.C_below HR2.out HB.out) | (with_reducible refine Kd.C_alloc ?_ _) | (with_reducible refine Kd.C_drewN ?_ _) | (with_reducible refine Kd.C_drew ?_))); (case side2 => exact HC2.out); rintro e w56 ⟨rfl, hb⟩; refine ⟨_, rfl, ?_⟩; have n0_ := Aside0.mk (blk_below (g := gb339) (o := .cells #[.string a0_0, .int .u64 a0_1, .int .i64 a0_2, .int .u64 a0_3] 24 (0, 0)) (by (with_reducible repeat (first | refine blk_drewN ?_ _ | refine blk_drew ?_ | refine blk_alloc ?_ _)); exact BK339.out) hb); have n1_ := Aside0.mk (blk_below (g := gb340) (o := .cells #[.int .u64 a1_0, .int .i64 a1_1] 26 (0, 0)) (by (with_reducible repeat (first | refine blk_drewN ?_ _ | refine blk_drew ?_ | refine blk_alloc ?_ _)); exact BK340.out) hb); have n2_ := Aside0.mk (below_step (by repeat (first | (with_reducible first | exact HB.out | apply below_alloc | apply pw_below_drewN | apply below_drew1 | refine below_set ?_ GE339.out | refine below_set ?_ GE340.out) | exact HB.out)) hb); clear BK339; clear BK340; clear HB; have BK339 := n0_; have BK340 := n1_; have HB := n2_; clear n0_ n1_ n2_; (try clear hb); (try clear hb2); (try clear hk); (try clear hi); (try clear A18); have hcz57_0 : w56.cell? ⟨gb339, 0, none⟩ = some (.string a0_0) := (blk_cell BK339.out 0).trans rfl; have hcz57_1 : w56.cell? ⟨gb339, 1, none⟩ = some (.int .u64 a0_1) := (blk_cell BK339.out 1).trans rfl; have hcz57_2 : w56.cell? ⟨gb339, 2, none⟩ = some (.int .i64 a0_2) := (blk_cell BK339.out 2).trans rfl; have hcz57_3 : w56.cell? ⟨gb339, 3, none⟩ = some (.int .u64 a0_3) := (blk_cell BK339.out 3).trans rfl; have hfz57_0 := blk_frozen BK339.out 0; have hfz57_1 := blk_frozen BK339.out 1; have hfz57_2 := blk_frozen BK339.out 2; have hfz57_3 := blk_frozen BK339.out 3))
                            go_ret
                            exact ⟨by first | rfl | (simp [errW_none, errW_some] <;> rfl) | (simp (disch := omega) only [← i64_w, IntWalk.i64_in]; rfl) | (simp [*, errW_none, errW_some] <;> rfl), by repeat (first | (with_reducible first | exact HB.out | apply below_alloc | apply pw_below_drewN | apply below_drew1 | refine below_set ?_ GE339.out | refine below_set ?_ GE340.out) | exact HB.out)⟩
                          · rw [if_neg c50] at H
                            exact absurd H (by simp)
                        · rw [if_neg c49] at H
                          exact absurd H (by simp)
                  · rw [if_neg c46] at H
                    have c46b0 : (t347 == 0) = false := beq_eq_false_iff_ne.mpr c46
                    have c46b1 : (t347 != 0) = true := bne_iff_ne.mpr c46
                    by_cases c58 : (t342.size : Int) ≤ 100
                    · rw [if_pos c58] at H
                      have c58b0 : decide ((t342.size : Int) ≤ 100) = true := decide_eq_true c58
                      have c58b1 : decide (t342.size ≤ 100) = true := decide_eq_true (by omega)
                      clear c58
                      by_cases c59 : (t344.size : Int) ≤ 100
                      · rw [if_pos c59] at H
                        have c59b0 : decide ((t344.size : Int) ≤ 100) = true := decide_eq_true c59
                        have c59b1 : decide (t344.size ≤ 100) = true := decide_eq_true (by omega)
                        clear c59
                        obtain rfl := Option.some.inj H
                        have hnb60 := NB339_340.out
                        have hnc60 := NB340_339.out
                        have hcz61_0 : wc.cell? ⟨gb339, 0, none⟩ = some (.string a0_0) := (blk_cell BK339.out 0).trans rfl
                        have hcz61_1 : wc.cell? ⟨gb339, 1, none⟩ = some (.int .u64 a0_1) := (blk_cell BK339.out 1).trans rfl
                        have hcz61_2 : wc.cell? ⟨gb339, 2, none⟩ = some (.int .i64 a0_2) := (blk_cell BK339.out 2).trans rfl
                        have hcz61_3 : wc.cell? ⟨gb339, 3, none⟩ = some (.int .u64 a0_3) := (blk_cell BK339.out 3).trans rfl
                        have hfz61_0 := blk_frozen BK339.out 0
                        have hfz61_1 := blk_frozen BK339.out 1
                        have hfz61_2 := blk_frozen BK339.out 2
                        have hfz61_3 := blk_frozen BK339.out 3
                        go_wp2_with (first | ((with_reducible refine gate_callee (f := 11) rfl ?_); refine goesL_ (some 26) rfl rfl Try.func11 (by kernel_rfl) rfl #[.agg #[.string a0_0, .int .u64 a0_1, .int .i64 a0_2, .int .u64 a0_3]] rfl (by (try simp only [List.map_toArray, List.map_cons, List.map_nil]); first | done | rfl | (simp only [List.length_drop, List.length_take]; rfl) | (simp (disch := omega) only [IntWalk.u64_in, IntWalk.i64_in, IntWalk.u8_in]; rfl)) ?_; (with_reducible refine (col_Lock.calls kj5 a0_0 a0_1 a0_2 a0_3 t342 t343 _ A16.out).mono ?_); rintro e w62 ⟨rfl, hb⟩; refine ⟨_, rfl, ?_⟩; have n0_ := Aside0.mk (blk_below (g := gb339) (o := .cells #[.string a0_0, .int .u64 a0_1, .int .i64 a0_2, .int .u64 a0_3] 24 (0, 0)) (by (with_reducible repeat (first | refine blk_drewN ?_ _ | refine blk_drew ?_ | refine blk_alloc ?_ _)); exact BK339.out) hb); have n1_ := Aside0.mk (blk_below (g := gb340) (o := .cells #[.int .u64 a1_0, .int .i64 a1_1] 26 (0, 0)) (by (with_reducible repeat (first | refine blk_drewN ?_ _ | refine blk_drew ?_ | refine blk_alloc ?_ _)); exact BK340.out) hb); have n2_ := Aside0.mk (below_step (by repeat (first | (with_reducible first | exact HB.out | apply below_alloc | apply pw_below_drewN | apply below_drew1 | refine below_set ?_ GE339.out | refine below_set ?_ GE340.out) | exact HB.out)) hb); clear BK339; clear BK340; clear HB; have BK339 := n0_; have BK340 := n1_; have HB := n2_; clear n0_ n1_ n2_; (try clear hb); (try clear hb2); (try clear hk); (try clear hi); (try clear A16); have hcz63_0 : w62.cell? ⟨gb340, 0, none⟩ = some (.int .u64 a1_0) := (blk_cell BK340.out 0).trans rfl; have hcz63_1 : w62.cell? ⟨gb340, 1, none⟩ = some (.int .i64 a1_1) := (blk_cell BK340.out 1).trans rfl; have hfz63_0 := blk_frozen BK340.out 0; have hfz63_1 := blk_frozen BK340.out 1) | ((with_reducible refine gate_callee (f := 13) rfl ?_); refine goesL_ (some 31) rfl rfl Try.func13 (by kernel_rfl) rfl #[.agg #[.int .u64 a1_0, .int .i64 a1_1]] rfl (by (try simp only [List.map_toArray, List.map_cons, List.map_nil]); first | done | rfl | (simp only [List.length_drop, List.length_take]; rfl) | (simp (disch := omega) only [IntWalk.u64_in, IntWalk.i64_in, IntWalk.u8_in]; rfl)) ?_; (with_reducible refine (col_Write.calls kj5 a1_0 a1_1 t344 t345 _ A17.out).mono ?_); rintro e w64 ⟨rfl, hb⟩; refine ⟨_, rfl, ?_⟩; have n0_ := Aside0.mk (blk_below (g := gb339) (o := .cells #[.string a0_0, .int .u64 a0_1, .int .i64 a0_2, .int .u64 a0_3] 24 (0, 0)) (by (with_reducible repeat (first | refine blk_drewN ?_ _ | refine blk_drew ?_ | refine blk_alloc ?_ _)); exact BK339.out) hb); have n1_ := Aside0.mk (blk_below (g := gb340) (o := .cells #[.int .u64 a1_0, .int .i64 a1_1] 26 (0, 0)) (by (with_reducible repeat (first | refine blk_drewN ?_ _ | refine blk_drew ?_ | refine blk_alloc ?_ _)); exact BK340.out) hb); have n2_ := Aside0.mk (below_step (by repeat (first | (with_reducible first | exact HB.out | apply below_alloc | apply pw_below_drewN | apply below_drew1 | refine below_set ?_ GE339.out | refine below_set ?_ GE340.out) | exact HB.out)) hb); clear BK339; clear BK340; clear HB; have BK339 := n0_; have BK340 := n1_; have HB := n2_; clear n0_ n1_ n2_; (try clear hb); (try clear hb2); (try clear hk); (try clear hi); (try clear A17)) | ((with_reducible refine gate_callee (f := 15) rfl ?_); refine goesL_ (some 36) rfl rfl Try.func15 (by kernel_rfl) rfl #[.slice A2 l2.length c2] rfl (by (try simp only [List.map_toArray, List.map_cons, List.map_nil]); first | done | rfl | (simp only [List.length_drop, List.length_take]; rfl) | (simp (disch := omega) only [IntWalk.u64_in, IntWalk.i64_in, IntWalk.u8_in]; rfl)) ?_; (with_reducible refine (col_Leases.calls kj5 _ _ l2 t346 t347 _ ?side1 ?side2 A18.out).mono ?_); (case side1 => repeat (first | exact (Kd.C_below HR2.out HB.out) | (with_reducible refine Kd.C_alloc ?_ _) | (with_reducible refine Kd.C_drewN ?_ _) | (with_reducible refine Kd.C_drew ?_))); (case side2 => exact HC2.out); rintro e w65 ⟨rfl, hb⟩; refine ⟨_, rfl, ?_⟩; have n0_ := Aside0.mk (blk_below (g := gb339) (o := .cells #[.string a0_0, .int .u64 a0_1, .int .i64 a0_2, .int .u64 a0_3] 24 (0, 0)) (by (with_reducible repeat (first | refine blk_drewN ?_ _ | refine blk_drew ?_ | refine blk_alloc ?_ _)); exact BK339.out) hb); have n1_ := Aside0.mk (blk_below (g := gb340) (o := .cells #[.int .u64 a1_0, .int .i64 a1_1] 26 (0, 0)) (by (with_reducible repeat (first | refine blk_drewN ?_ _ | refine blk_drew ?_ | refine blk_alloc ?_ _)); exact BK340.out) hb); have n2_ := Aside0.mk (below_step (by repeat (first | (with_reducible first | exact HB.out | apply below_alloc | apply pw_below_drewN | apply below_drew1 | refine below_set ?_ GE339.out | refine below_set ?_ GE340.out) | exact HB.out)) hb); clear BK339; clear BK340; clear HB; have BK339 := n0_; have BK340 := n1_; have HB := n2_; clear n0_ n1_ n2_; (try clear hb); (try clear hb2); (try clear hk); (try clear hi); (try clear A18); have hcz66_0 : w65.cell? ⟨gb339, 0, none⟩ = some (.string a0_0) := (blk_cell BK339.out 0).trans rfl; have hcz66_1 : w65.cell? ⟨gb339, 1, none⟩ = some (.int .u64 a0_1) := (blk_cell BK339.out 1).trans rfl; have hcz66_2 : w65.cell? ⟨gb339, 2, none⟩ = some (.int .i64 a0_2) := (blk_cell BK339.out 2).trans rfl; have hcz66_3 : w65.cell? ⟨gb339, 3, none⟩ = some (.int .u64 a0_3) := (blk_cell BK339.out 3).trans rfl; have hfz66_0 := blk_frozen BK339.out 0; have hfz66_1 := blk_frozen BK339.out 1; have hfz66_2 := blk_frozen BK339.out 2; have hfz66_3 := blk_frozen BK339.out 3))
                        go_ret
                        exact ⟨by first | rfl | (simp [errW_none, errW_some] <;> rfl) | (simp (disch := omega) only [← i64_w, IntWalk.i64_in]; rfl) | (simp [*, errW_none, errW_some] <;> rfl), by repeat (first | (with_reducible first | exact HB.out | apply below_alloc | apply pw_below_drewN | apply below_drew1 | refine below_set ?_ GE339.out | refine below_set ?_ GE340.out) | exact HB.out)⟩
                      · rw [if_neg c59] at H
                        exact absurd H (by simp)
                    · rw [if_neg c58] at H
                      exact absurd H (by simp)
          · rw [if_neg c19] at H
            have c19b0 : (t343 == 0) = false := beq_eq_false_iff_ne.mpr c19
            have c19b1 : (t343 != 0) = true := bne_iff_ne.mpr c19
            by_cases c67 : t345 = 0
            · rw [if_pos c67] at H
              have c67b0 : (t345 == 0) = true := beq_iff_eq.mpr c67
              have c67b1 : (t345 != 0) = false := bne_eq_false_iff_eq.mpr c67
              clear c67
              by_cases c68 : (t344.size : Int) < 2
              · rw [if_pos c68] at H
                exact absurd H (by simp)
              · rw [if_neg c68] at H
                have c68b0 : decide ((t344.size : Int) < 2) = false := decide_eq_false c68
                have c68b1 : decide (t344.size < 2) = false := decide_eq_false (by omega)
                clear c68
                by_cases c69 : (t344.size : Int) > 7
                · rw [if_pos c69] at H
                  exact absurd H (by simp)
                · rw [if_neg c69] at H
                  have c69b0 : decide (7 < (t344.size : Int)) = false := decide_eq_false c69
                  have c69b1 : decide (7 < t344.size) = false := decide_eq_false (by omega)
                  clear c69
                  by_cases c70 : t347 = 0
                  · rw [if_pos c70] at H
                    have c70b0 : (t347 == 0) = true := beq_iff_eq.mpr c70
                    have c70b1 : (t347 != 0) = false := bne_eq_false_iff_eq.mpr c70
                    clear c70
                    by_cases c71 : (t346.size : Int) < (wrap64 (3 * (l2.length : Int)))
                    · rw [if_pos c71] at H
                      exact absurd H (by simp)
                    · rw [if_neg c71] at H
                      have c71b0 : decide ((t346.size : Int) < (wrap64 (3 * (l2.length : Int)))) = false := decide_eq_false c71
                      clear c71
                      by_cases c72 : (t346.size : Int) > (wrap64 (18 * (l2.length : Int)))
                      · rw [if_pos c72] at H
                        exact absurd H (by simp)
                      · rw [if_neg c72] at H
                        have c72b0 : decide ((wrap64 (18 * (l2.length : Int))) < (t346.size : Int)) = false := decide_eq_false c72
                        clear c72
                        by_cases c73 : (t342.size : Int) ≤ 100
                        · rw [if_pos c73] at H
                          have c73b0 : decide ((t342.size : Int) ≤ 100) = true := decide_eq_true c73
                          have c73b1 : decide (t342.size ≤ 100) = true := decide_eq_true (by omega)
                          clear c73
                          by_cases c74 : (t344.size : Int) ≤ 100
                          · rw [if_pos c74] at H
                            have c74b0 : decide ((t344.size : Int) ≤ 100) = true := decide_eq_true c74
                            have c74b1 : decide (t344.size ≤ 100) = true := decide_eq_true (by omega)
                            clear c74
                            obtain rfl := Option.some.inj H
                            have hnb75 := NB339_340.out
                            have hnc75 := NB340_339.out
                            have hcz76_0 : wc.cell? ⟨gb339, 0, none⟩ = some (.string a0_0) := (blk_cell BK339.out 0).trans rfl
                            have hcz76_1 : wc.cell? ⟨gb339, 1, none⟩ = some (.int .u64 a0_1) := (blk_cell BK339.out 1).trans rfl
                            have hcz76_2 : wc.cell? ⟨gb339, 2, none⟩ = some (.int .i64 a0_2) := (blk_cell BK339.out 2).trans rfl
                            have hcz76_3 : wc.cell? ⟨gb339, 3, none⟩ = some (.int .u64 a0_3) := (blk_cell BK339.out 3).trans rfl
                            have hfz76_0 := blk_frozen BK339.out 0
                            have hfz76_1 := blk_frozen BK339.out 1
                            have hfz76_2 := blk_frozen BK339.out 2
                            have hfz76_3 := blk_frozen BK339.out 3
                            go_wp2_with (first | ((with_reducible refine gate_callee (f := 11) rfl ?_); refine goesL_ (some 26) rfl rfl Try.func11 (by kernel_rfl) rfl #[.agg #[.string a0_0, .int .u64 a0_1, .int .i64 a0_2, .int .u64 a0_3]] rfl (by (try simp only [List.map_toArray, List.map_cons, List.map_nil]); first | done | rfl | (simp only [List.length_drop, List.length_take]; rfl) | (simp (disch := omega) only [IntWalk.u64_in, IntWalk.i64_in, IntWalk.u8_in]; rfl)) ?_; (with_reducible refine (col_Lock.calls kj5 a0_0 a0_1 a0_2 a0_3 t342 t343 _ A16.out).mono ?_); rintro e w77 ⟨rfl, hb⟩; refine ⟨_, rfl, ?_⟩; have n0_ := Aside0.mk (blk_below (g := gb339) (o := .cells #[.string a0_0, .int .u64 a0_1, .int .i64 a0_2, .int .u64 a0_3] 24 (0, 0)) (by (with_reducible repeat (first | refine blk_drewN ?_ _ | refine blk_drew ?_ | refine blk_alloc ?_ _)); exact BK339.out) hb); have n1_ := Aside0.mk (blk_below (g := gb340) (o := .cells #[.int .u64 a1_0, .int .i64 a1_1] 26 (0, 0)) (by (with_reducible repeat (first | refine blk_drewN ?_ _ | refine blk_drew ?_ | refine blk_alloc ?_ _)); exact BK340.out) hb); have n2_ := Aside0.mk (below_step (by repeat (first | (with_reducible first | exact HB.out | apply below_alloc | apply pw_below_drewN | apply below_drew1 | refine below_set ?_ GE339.out | refine below_set ?_ GE340.out) | exact HB.out)) hb); clear BK339; clear BK340; clear HB; have BK339 := n0_; have BK340 := n1_; have HB := n2_; clear n0_ n1_ n2_; (try clear hb); (try clear hb2); (try clear hk); (try clear hi); (try clear A16); have hcz78_0 : w77.cell? ⟨gb340, 0, none⟩ = some (.int .u64 a1_0) := (blk_cell BK340.out 0).trans rfl; have hcz78_1 : w77.cell? ⟨gb340, 1, none⟩ = some (.int .i64 a1_1) := (blk_cell BK340.out 1).trans rfl; have hfz78_0 := blk_frozen BK340.out 0; have hfz78_1 := blk_frozen BK340.out 1) | ((with_reducible refine gate_callee (f := 13) rfl ?_); refine goesL_ (some 31) rfl rfl Try.func13 (by kernel_rfl) rfl #[.agg #[.int .u64 a1_0, .int .i64 a1_1]] rfl (by (try simp only [List.map_toArray, List.map_cons, List.map_nil]); first | done | rfl | (simp only [List.length_drop, List.length_take]; rfl) | (simp (disch := omega) only [IntWalk.u64_in, IntWalk.i64_in, IntWalk.u8_in]; rfl)) ?_; (with_reducible refine (col_Write.calls kj5 a1_0 a1_1 t344 t345 _ A17.out).mono ?_); rintro e w79 ⟨rfl, hb⟩; refine ⟨_, rfl, ?_⟩; have n0_ := Aside0.mk (blk_below (g := gb339) (o := .cells #[.string a0_0, .int .u64 a0_1, .int .i64 a0_2, .int .u64 a0_3] 24 (0, 0)) (by (with_reducible repeat (first | refine blk_drewN ?_ _ | refine blk_drew ?_ | refine blk_alloc ?_ _)); exact BK339.out) hb); have n1_ := Aside0.mk (blk_below (g := gb340) (o := .cells #[.int .u64 a1_0, .int .i64 a1_1] 26 (0, 0)) (by (with_reducible repeat (first | refine blk_drewN ?_ _ | refine blk_drew ?_ | refine blk_alloc ?_ _)); exact BK340.out) hb); have n2_ := Aside0.mk (below_step (by repeat (first | (with_reducible first | exact HB.out | apply below_alloc | apply pw_below_drewN | apply below_drew1 | refine below_set ?_ GE339.out | refine below_set ?_ GE340.out) | exact HB.out)) hb); clear BK339; clear BK340; clear HB; have BK339 := n0_; have BK340 := n1_; have HB := n2_; clear n0_ n1_ n2_; (try clear hb); (try clear hb2); (try clear hk); (try clear hi); (try clear A17)) | ((with_reducible refine gate_callee (f := 15) rfl ?_); refine goesL_ (some 36) rfl rfl Try.func15 (by kernel_rfl) rfl #[.slice A2 l2.length c2] rfl (by (try simp only [List.map_toArray, List.map_cons, List.map_nil]); first | done | rfl | (simp only [List.length_drop, List.length_take]; rfl) | (simp (disch := omega) only [IntWalk.u64_in, IntWalk.i64_in, IntWalk.u8_in]; rfl)) ?_; (with_reducible refine (col_Leases.calls kj5 _ _ l2 t346 t347 _ ?side1 ?side2 A18.out).mono ?_); (case side1 => repeat (first | exact (Kd.C_below HR2.out HB.out) | (with_reducible refine Kd.C_alloc ?_ _) | (with_reducible refine Kd.C_drewN ?_ _) | (with_reducible refine Kd.C_drew ?_))); (case side2 => exact HC2.out); rintro e w80 ⟨rfl, hb⟩; refine ⟨_, rfl, ?_⟩; have n0_ := Aside0.mk (blk_below (g := gb339) (o := .cells #[.string a0_0, .int .u64 a0_1, .int .i64 a0_2, .int .u64 a0_3] 24 (0, 0)) (by (with_reducible repeat (first | refine blk_drewN ?_ _ | refine blk_drew ?_ | refine blk_alloc ?_ _)); exact BK339.out) hb); have n1_ := Aside0.mk (blk_below (g := gb340) (o := .cells #[.int .u64 a1_0, .int .i64 a1_1] 26 (0, 0)) (by (with_reducible repeat (first | refine blk_drewN ?_ _ | refine blk_drew ?_ | refine blk_alloc ?_ _)); exact BK340.out) hb); have n2_ := Aside0.mk (below_step (by repeat (first | (with_reducible first | exact HB.out | apply below_alloc | apply pw_below_drewN | apply below_drew1 | refine below_set ?_ GE339.out | refine below_set ?_ GE340.out) | exact HB.out)) hb); clear BK339; clear BK340; clear HB; have BK339 := n0_; have BK340 := n1_; have HB := n2_; clear n0_ n1_ n2_; (try clear hb); (try clear hb2); (try clear hk); (try clear hi); (try clear A18)))
                            go_ret
                            exact ⟨by first | rfl | (simp [errW_none, errW_some] <;> rfl) | (simp (disch := omega) only [← i64_w, IntWalk.i64_in]; rfl) | (simp [*, errW_none, errW_some] <;> rfl), by repeat (first | (with_reducible first | exact HB.out | apply below_alloc | apply pw_below_drewN | apply below_drew1 | refine below_set ?_ GE339.out | refine below_set ?_ GE340.out) | exact HB.out)⟩
                          · rw [if_neg c74] at H
                            exact absurd H (by simp)
                        · rw [if_neg c73] at H
                          exact absurd H (by simp)
                  · rw [if_neg c70] at H
                    have c70b0 : (t347 == 0) = false := beq_eq_false_iff_ne.mpr c70
                    have c70b1 : (t347 != 0) = true := bne_iff_ne.mpr c70
                    by_cases c81 : (t342.size : Int) ≤ 100
                    · rw [if_pos c81] at H
                      have c81b0 : decide ((t342.size : Int) ≤ 100) = true := decide_eq_true c81
                      have c81b1 : decide (t342.size ≤ 100) = true := decide_eq_true (by omega)
                      clear c81
                      by_cases c82 : (t344.size : Int) ≤ 100
                      · rw [if_pos c82] at H
                        have c82b0 : decide ((t344.size : Int) ≤ 100) = true := decide_eq_true c82
                        have c82b1 : decide (t344.size ≤ 100) = true := decide_eq_true (by omega)
                        clear c82
                        obtain rfl := Option.some.inj H
                        have hnb83 := NB339_340.out
                        have hnc83 := NB340_339.out
                        have hcz84_0 : wc.cell? ⟨gb339, 0, none⟩ = some (.string a0_0) := (blk_cell BK339.out 0).trans rfl
                        have hcz84_1 : wc.cell? ⟨gb339, 1, none⟩ = some (.int .u64 a0_1) := (blk_cell BK339.out 1).trans rfl
                        have hcz84_2 : wc.cell? ⟨gb339, 2, none⟩ = some (.int .i64 a0_2) := (blk_cell BK339.out 2).trans rfl
                        have hcz84_3 : wc.cell? ⟨gb339, 3, none⟩ = some (.int .u64 a0_3) := (blk_cell BK339.out 3).trans rfl
                        have hfz84_0 := blk_frozen BK339.out 0
                        have hfz84_1 := blk_frozen BK339.out 1
                        have hfz84_2 := blk_frozen BK339.out 2
                        have hfz84_3 := blk_frozen BK339.out 3
                        go_wp2_with (first | ((with_reducible refine gate_callee (f := 11) rfl ?_); refine goesL_ (some 26) rfl rfl Try.func11 (by kernel_rfl) rfl #[.agg #[.string a0_0, .int .u64 a0_1, .int .i64 a0_2, .int .u64 a0_3]] rfl (by (try simp only [List.map_toArray, List.map_cons, List.map_nil]); first | done | rfl | (simp only [List.length_drop, List.length_take]; rfl) | (simp (disch := omega) only [IntWalk.u64_in, IntWalk.i64_in, IntWalk.u8_in]; rfl)) ?_; (with_reducible refine (col_Lock.calls kj5 a0_0 a0_1 a0_2 a0_3 t342 t343 _ A16.out).mono ?_); rintro e w85 ⟨rfl, hb⟩; refine ⟨_, rfl, ?_⟩; have n0_ := Aside0.mk (blk_below (g := gb339) (o := .cells #[.string a0_0, .int .u64 a0_1, .int .i64 a0_2, .int .u64 a0_3] 24 (0, 0)) (by (with_reducible repeat (first | refine blk_drewN ?_ _ | refine blk_drew ?_ | refine blk_alloc ?_ _)); exact BK339.out) hb); have n1_ := Aside0.mk (blk_below (g := gb340) (o := .cells #[.int .u64 a1_0, .int .i64 a1_1] 26 (0, 0)) (by (with_reducible repeat (first | refine blk_drewN ?_ _ | refine blk_drew ?_ | refine blk_alloc ?_ _)); exact BK340.out) hb); have n2_ := Aside0.mk (below_step (by repeat (first | (with_reducible first | exact HB.out | apply below_alloc | apply pw_below_drewN | apply below_drew1 | refine below_set ?_ GE339.out | refine below_set ?_ GE340.out) | exact HB.out)) hb); clear BK339; clear BK340; clear HB; have BK339 := n0_; have BK340 := n1_; have HB := n2_; clear n0_ n1_ n2_; (try clear hb); (try clear hb2); (try clear hk); (try clear hi); (try clear A16); have hcz86_0 : w85.cell? ⟨gb340, 0, none⟩ = some (.int .u64 a1_0) := (blk_cell BK340.out 0).trans rfl; have hcz86_1 : w85.cell? ⟨gb340, 1, none⟩ = some (.int .i64 a1_1) := (blk_cell BK340.out 1).trans rfl; have hfz86_0 := blk_frozen BK340.out 0; have hfz86_1 := blk_frozen BK340.out 1) | ((with_reducible refine gate_callee (f := 13) rfl ?_); refine goesL_ (some 31) rfl rfl Try.func13 (by kernel_rfl) rfl #[.agg #[.int .u64 a1_0, .int .i64 a1_1]] rfl (by (try simp only [List.map_toArray, List.map_cons, List.map_nil]); first | done | rfl | (simp only [List.length_drop, List.length_take]; rfl) | (simp (disch := omega) only [IntWalk.u64_in, IntWalk.i64_in, IntWalk.u8_in]; rfl)) ?_; (with_reducible refine (col_Write.calls kj5 a1_0 a1_1 t344 t345 _ A17.out).mono ?_); rintro e w87 ⟨rfl, hb⟩; refine ⟨_, rfl, ?_⟩; have n0_ := Aside0.mk (blk_below (g := gb339) (o := .cells #[.string a0_0, .int .u64 a0_1, .int .i64 a0_2, .int .u64 a0_3] 24 (0, 0)) (by (with_reducible repeat (first | refine blk_drewN ?_ _ | refine blk_drew ?_ | refine blk_alloc ?_ _)); exact BK339.out) hb); have n1_ := Aside0.mk (blk_below (g := gb340) (o := .cells #[.int .u64 a1_0, .int .i64 a1_1] 26 (0, 0)) (by (with_reducible repeat (first | refine blk_drewN ?_ _ | refine blk_drew ?_ | refine blk_alloc ?_ _)); exact BK340.out) hb); have n2_ := Aside0.mk (below_step (by repeat (first | (with_reducible first | exact HB.out | apply below_alloc | apply pw_below_drewN | apply below_drew1 | refine below_set ?_ GE339.out | refine below_set ?_ GE340.out) | exact HB.out)) hb); clear BK339; clear BK340; clear HB; have BK339 := n0_; have BK340 := n1_; have HB := n2_; clear n0_ n1_ n2_; (try clear hb); (try clear hb2); (try clear hk); (try clear hi); (try clear A17)) | ((with_reducible refine gate_callee (f := 15) rfl ?_); refine goesL_ (some 36) rfl rfl Try.func15 (by kernel_rfl) rfl #[.slice A2 l2.length c2] rfl (by (try simp only [List.map_toArray, List.map_cons, List.map_nil]); first | done | rfl | (simp only [List.length_drop, List.length_take]; rfl) | (simp (disch := omega) only [IntWalk.u64_in, IntWalk.i64_in, IntWalk.u8_in]; rfl)) ?_; (with_reducible refine (col_Leases.calls kj5 _ _ l2 t346 t347 _ ?side1 ?side2 A18.out).mono ?_); (case side1 => repeat (first | exact (Kd.C_below HR2.out HB.out) | (with_reducible refine Kd.C_alloc ?_ _) | (with_reducible refine Kd.C_drewN ?_ _) | (with_reducible refine Kd.C_drew ?_))); (case side2 => exact HC2.out); rintro e w88 ⟨rfl, hb⟩; refine ⟨_, rfl, ?_⟩; have n0_ := Aside0.mk (blk_below (g := gb339) (o := .cells #[.string a0_0, .int .u64 a0_1, .int .i64 a0_2, .int .u64 a0_3] 24 (0, 0)) (by (with_reducible repeat (first | refine blk_drewN ?_ _ | refine blk_drew ?_ | refine blk_alloc ?_ _)); exact BK339.out) hb); have n1_ := Aside0.mk (blk_below (g := gb340) (o := .cells #[.int .u64 a1_0, .int .i64 a1_1] 26 (0, 0)) (by (with_reducible repeat (first | refine blk_drewN ?_ _ | refine blk_drew ?_ | refine blk_alloc ?_ _)); exact BK340.out) hb); have n2_ := Aside0.mk (below_step (by repeat (first | (with_reducible first | exact HB.out | apply below_alloc | apply pw_below_drewN | apply below_drew1 | refine below_set ?_ GE339.out | refine below_set ?_ GE340.out) | exact HB.out)) hb); clear BK339; clear BK340; clear HB; have BK339 := n0_; have BK340 := n1_; have HB := n2_; clear n0_ n1_ n2_; (try clear hb); (try clear hb2); (try clear hk); (try clear hi); (try clear A18)))
                        go_ret
                        exact ⟨by first | rfl | (simp [errW_none, errW_some] <;> rfl) | (simp (disch := omega) only [← i64_w, IntWalk.i64_in]; rfl) | (simp [*, errW_none, errW_some] <;> rfl), by repeat (first | (with_reducible first | exact HB.out | apply below_alloc | apply pw_below_drewN | apply below_drew1 | refine below_set ?_ GE339.out | refine below_set ?_ GE340.out) | exact HB.out)⟩
                      · rw [if_neg c82] at H
                        exact absurd H (by simp)
                    · rw [if_neg c81] at H
                      exact absurd H (by simp)
            · rw [if_neg c67] at H
              have c67b0 : (t345 == 0) = false := beq_eq_false_iff_ne.mpr c67
              have c67b1 : (t345 != 0) = true := bne_iff_ne.mpr c67
              by_cases c89 : t347 = 0
              · rw [if_pos c89] at H
                have c89b0 : (t347 == 0) = true := beq_iff_eq.mpr c89
                have c89b1 : (t347 != 0) = false := bne_eq_false_iff_eq.mpr c89
                clear c89
                by_cases c90 : (t346.size : Int) < (wrap64 (3 * (l2.length : Int)))
                · rw [if_pos c90] at H
                  exact absurd H (by simp)
                · rw [if_neg c90] at H
                  have c90b0 : decide ((t346.size : Int) < (wrap64 (3 * (l2.length : Int)))) = false := decide_eq_false c90
                  clear c90
                  by_cases c91 : (t346.size : Int) > (wrap64 (18 * (l2.length : Int)))
                  · rw [if_pos c91] at H
                    exact absurd H (by simp)
                  · rw [if_neg c91] at H
                    have c91b0 : decide ((wrap64 (18 * (l2.length : Int))) < (t346.size : Int)) = false := decide_eq_false c91
                    clear c91
                    by_cases c92 : (t342.size : Int) ≤ 100
                    · rw [if_pos c92] at H
                      have c92b0 : decide ((t342.size : Int) ≤ 100) = true := decide_eq_true c92
                      have c92b1 : decide (t342.size ≤ 100) = true := decide_eq_true (by omega)
                      clear c92
                      by_cases c93 : (t344.size : Int) ≤ 100
                      · rw [if_pos c93] at H
                        have c93b0 : decide ((t344.size : Int) ≤ 100) = true := decide_eq_true c93
                        have c93b1 : decide (t344.size ≤ 100) = true := decide_eq_true (by omega)
                        clear c93
                        obtain rfl := Option.some.inj H
                        have hnb94 := NB339_340.out
                        have hnc94 := NB340_339.out
                        have hcz95_0 : wc.cell? ⟨gb339, 0, none⟩ = some (.string a0_0) := (blk_cell BK339.out 0).trans rfl
                        have hcz95_1 : wc.cell? ⟨gb339, 1, none⟩ = some (.int .u64 a0_1) := (blk_cell BK339.out 1).trans rfl
                        have hcz95_2 : wc.cell? ⟨gb339, 2, none⟩ = some (.int .i64 a0_2) := (blk_cell BK339.out 2).trans rfl
                        have hcz95_3 : wc.cell? ⟨gb339, 3, none⟩ = some (.int .u64 a0_3) := (blk_cell BK339.out 3).trans rfl
                        have hfz95_0 := blk_frozen BK339.out 0
                        have hfz95_1 := blk_frozen BK339.out 1
                        have hfz95_2 := blk_frozen BK339.out 2
                        have hfz95_3 := blk_frozen BK339.out 3
                        go_wp2_with (first | ((with_reducible refine gate_callee (f := 11) rfl ?_); refine goesL_ (some 26) rfl rfl Try.func11 (by kernel_rfl) rfl #[.agg #[.string a0_0, .int .u64 a0_1, .int .i64 a0_2, .int .u64 a0_3]] rfl (by (try simp only [List.map_toArray, List.map_cons, List.map_nil]); first | done | rfl | (simp only [List.length_drop, List.length_take]; rfl) | (simp (disch := omega) only [IntWalk.u64_in, IntWalk.i64_in, IntWalk.u8_in]; rfl)) ?_; (with_reducible refine (col_Lock.calls kj5 a0_0 a0_1 a0_2 a0_3 t342 t343 _ A16.out).mono ?_); rintro e w96 ⟨rfl, hb⟩; refine ⟨_, rfl, ?_⟩; have n0_ := Aside0.mk (blk_below (g := gb339) (o := .cells #[.string a0_0, .int .u64 a0_1, .int .i64 a0_2, .int .u64 a0_3] 24 (0, 0)) (by (with_reducible repeat (first | refine blk_drewN ?_ _ | refine blk_drew ?_ | refine blk_alloc ?_ _)); exact BK339.out) hb); have n1_ := Aside0.mk (blk_below (g := gb340) (o := .cells #[.int .u64 a1_0, .int .i64 a1_1] 26 (0, 0)) (by (with_reducible repeat (first | refine blk_drewN ?_ _ | refine blk_drew ?_ | refine blk_alloc ?_ _)); exact BK340.out) hb); have n2_ := Aside0.mk (below_step (by repeat (first | (with_reducible first | exact HB.out | apply below_alloc | apply pw_below_drewN | apply below_drew1 | refine below_set ?_ GE339.out | refine below_set ?_ GE340.out) | exact HB.out)) hb); clear BK339; clear BK340; clear HB; have BK339 := n0_; have BK340 := n1_; have HB := n2_; clear n0_ n1_ n2_; (try clear hb); (try clear hb2); (try clear hk); (try clear hi); (try clear A16); have hcz97_0 : w96.cell? ⟨gb340, 0, none⟩ = some (.int .u64 a1_0) := (blk_cell BK340.out 0).trans rfl; have hcz97_1 : w96.cell? ⟨gb340, 1, none⟩ = some (.int .i64 a1_1) := (blk_cell BK340.out 1).trans rfl; have hfz97_0 := blk_frozen BK340.out 0; have hfz97_1 := blk_frozen BK340.out 1) | ((with_reducible refine gate_callee (f := 13) rfl ?_); refine goesL_ (some 31) rfl rfl Try.func13 (by kernel_rfl) rfl #[.agg #[.int .u64 a1_0, .int .i64 a1_1]] rfl (by (try simp only [List.map_toArray, List.map_cons, List.map_nil]); first | done | rfl | (simp only [List.length_drop, List.length_take]; rfl) | (simp (disch := omega) only [IntWalk.u64_in, IntWalk.i64_in, IntWalk.u8_in]; rfl)) ?_; (with_reducible refine (col_Write.calls kj5 a1_0 a1_1 t344 t345 _ A17.out).mono ?_); rintro e w98 ⟨rfl, hb⟩; refine ⟨_, rfl, ?_⟩; have n0_ := Aside0.mk (blk_below (g := gb339) (o := .cells #[.string a0_0, .int .u64 a0_1, .int .i64 a0_2, .int .u64 a0_3] 24 (0, 0)) (by (with_reducible repeat (first | refine blk_drewN ?_ _ | refine blk_drew ?_ | refine blk_alloc ?_ _)); exact BK339.out) hb); have n1_ := Aside0.mk (blk_below (g := gb340) (o := .cells #[.int .u64 a1_0, .int .i64 a1_1] 26 (0, 0)) (by (with_reducible repeat (first | refine blk_drewN ?_ _ | refine blk_drew ?_ | refine blk_alloc ?_ _)); exact BK340.out) hb); have n2_ := Aside0.mk (below_step (by repeat (first | (with_reducible first | exact HB.out | apply below_alloc | apply pw_below_drewN | apply below_drew1 | refine below_set ?_ GE339.out | refine below_set ?_ GE340.out) | exact HB.out)) hb); clear BK339; clear BK340; clear HB; have BK339 := n0_; have BK340 := n1_; have HB := n2_; clear n0_ n1_ n2_; (try clear hb); (try clear hb2); (try clear hk); (try clear hi); (try clear A17)) | ((with_reducible refine gate_callee (f := 15) rfl ?_); refine goesL_ (some 36) rfl rfl Try.func15 (by kernel_rfl) rfl #[.slice A2 l2.length c2] rfl (by (try simp only [List.map_toArray, List.map_cons, List.map_nil]); first | done | rfl | (simp only [List.length_drop, List.length_take]; rfl) | (simp (disch := omega) only [IntWalk.u64_in, IntWalk.i64_in, IntWalk.u8_in]; rfl)) ?_; (with_reducible refine (col_Leases.calls kj5 _ _ l2 t346 t347 _ ?side1 ?side2 A18.out).mono ?_); (case side1 => repeat (first | exact (Kd.C_below HR2.out HB.out) | (with_reducible refine Kd.C_alloc ?_ _) | (with_reducible refine Kd.C_drewN ?_ _) | (with_reducible refine Kd.C_drew ?_))); (case side2 => exact HC2.out); rintro e w99 ⟨rfl, hb⟩; refine ⟨_, rfl, ?_⟩; have n0_ := Aside0.mk (blk_below (g := gb339) (o := .cells #[.string a0_0, .int .u64 a0_1, .int .i64 a0_2, .int .u64 a0_3] 24 (0, 0)) (by (with_reducible repeat (first | refine blk_drewN ?_ _ | refine blk_drew ?_ | refine blk_alloc ?_ _)); exact BK339.out) hb); have n1_ := Aside0.mk (blk_below (g := gb340) (o := .cells #[.int .u64 a1_0, .int .i64 a1_1] 26 (0, 0)) (by (with_reducible repeat (first | refine blk_drewN ?_ _ | refine blk_drew ?_ | refine blk_alloc ?_ _)); exact BK340.out) hb); have n2_ := Aside0.mk (below_step (by repeat (first | (with_reducible first | exact HB.out | apply below_alloc | apply pw_below_drewN | apply below_drew1 | refine below_set ?_ GE339.out | refine below_set ?_ GE340.out) | exact HB.out)) hb); clear BK339; clear BK340; clear HB; have BK339 := n0_; have BK340 := n1_; have HB := n2_; clear n0_ n1_ n2_; (try clear hb); (try clear hb2); (try clear hk); (try clear hi); (try clear A18)))
                        go_ret
                        exact ⟨by first | rfl | (simp [errW_none, errW_some] <;> rfl) | (simp (disch := omega) only [← i64_w, IntWalk.i64_in]; rfl) | (simp [*, errW_none, errW_some] <;> rfl), by repeat (first | (with_reducible first | exact HB.out | apply below_alloc | apply pw_below_drewN | apply below_drew1 | refine below_set ?_ GE339.out | refine below_set ?_ GE340.out) | exact HB.out)⟩
                      · rw [if_neg c93] at H
                        exact absurd H (by simp)
                    · rw [if_neg c92] at H
                      exact absurd H (by simp)
              · rw [if_neg c89] at H
                have c89b0 : (t347 == 0) = false := beq_eq_false_iff_ne.mpr c89
                have c89b1 : (t347 != 0) = true := bne_iff_ne.mpr c89
                by_cases c100 : (t342.size : Int) ≤ 100
                · rw [if_pos c100] at H
                  have c100b0 : decide ((t342.size : Int) ≤ 100) = true := decide_eq_true c100
                  have c100b1 : decide (t342.size ≤ 100) = true := decide_eq_true (by omega)
                  clear c100
                  by_cases c101 : (t344.size : Int) ≤ 100
                  · rw [if_pos c101] at H
                    have c101b0 : decide ((t344.size : Int) ≤ 100) = true := decide_eq_true c101
                    have c101b1 : decide (t344.size ≤ 100) = true := decide_eq_true (by omega)
                    clear c101
                    obtain rfl := Option.some.inj H
                    have hnb102 := NB339_340.out
                    have hnc102 := NB340_339.out
                    have hcz103_0 : wc.cell? ⟨gb339, 0, none⟩ = some (.string a0_0) := (blk_cell BK339.out 0).trans rfl
                    have hcz103_1 : wc.cell? ⟨gb339, 1, none⟩ = some (.int .u64 a0_1) := (blk_cell BK339.out 1).trans rfl
                    have hcz103_2 : wc.cell? ⟨gb339, 2, none⟩ = some (.int .i64 a0_2) := (blk_cell BK339.out 2).trans rfl
                    have hcz103_3 : wc.cell? ⟨gb339, 3, none⟩ = some (.int .u64 a0_3) := (blk_cell BK339.out 3).trans rfl
                    have hfz103_0 := blk_frozen BK339.out 0
                    have hfz103_1 := blk_frozen BK339.out 1
                    have hfz103_2 := blk_frozen BK339.out 2
                    have hfz103_3 := blk_frozen BK339.out 3
                    go_wp2_with (first | ((with_reducible refine gate_callee (f := 11) rfl ?_); refine goesL_ (some 26) rfl rfl Try.func11 (by kernel_rfl) rfl #[.agg #[.string a0_0, .int .u64 a0_1, .int .i64 a0_2, .int .u64 a0_3]] rfl (by (try simp only [List.map_toArray, List.map_cons, List.map_nil]); first | done | rfl | (simp only [List.length_drop, List.length_take]; rfl) | (simp (disch := omega) only [IntWalk.u64_in, IntWalk.i64_in, IntWalk.u8_in]; rfl)) ?_; (with_reducible refine (col_Lock.calls kj5 a0_0 a0_1 a0_2 a0_3 t342 t343 _ A16.out).mono ?_); rintro e w104 ⟨rfl, hb⟩; refine ⟨_, rfl, ?_⟩; have n0_ := Aside0.mk (blk_below (g := gb339) (o := .cells #[.string a0_0, .int .u64 a0_1, .int .i64 a0_2, .int .u64 a0_3] 24 (0, 0)) (by (with_reducible repeat (first | refine blk_drewN ?_ _ | refine blk_drew ?_ | refine blk_alloc ?_ _)); exact BK339.out) hb); have n1_ := Aside0.mk (blk_below (g := gb340) (o := .cells #[.int .u64 a1_0, .int .i64 a1_1] 26 (0, 0)) (by (with_reducible repeat (first | refine blk_drewN ?_ _ | refine blk_drew ?_ | refine blk_alloc ?_ _)); exact BK340.out) hb); have n2_ := Aside0.mk (below_step (by repeat (first | (with_reducible first | exact HB.out | apply below_alloc | apply pw_below_drewN | apply below_drew1 | refine below_set ?_ GE339.out | refine below_set ?_ GE340.out) | exact HB.out)) hb); clear BK339; clear BK340; clear HB; have BK339 := n0_; have BK340 := n1_; have HB := n2_; clear n0_ n1_ n2_; (try clear hb); (try clear hb2); (try clear hk); (try clear hi); (try clear A16); have hcz105_0 : w104.cell? ⟨gb340, 0, none⟩ = some (.int .u64 a1_0) := (blk_cell BK340.out 0).trans rfl; have hcz105_1 : w104.cell? ⟨gb340, 1, none⟩ = some (.int .i64 a1_1) := (blk_cell BK340.out 1).trans rfl; have hfz105_0 := blk_frozen BK340.out 0; have hfz105_1 := blk_frozen BK340.out 1) | ((with_reducible refine gate_callee (f := 13) rfl ?_); refine goesL_ (some 31) rfl rfl Try.func13 (by kernel_rfl) rfl #[.agg #[.int .u64 a1_0, .int .i64 a1_1]] rfl (by (try simp only [List.map_toArray, List.map_cons, List.map_nil]); first | done | rfl | (simp only [List.length_drop, List.length_take]; rfl) | (simp (disch := omega) only [IntWalk.u64_in, IntWalk.i64_in, IntWalk.u8_in]; rfl)) ?_; (with_reducible refine (col_Write.calls kj5 a1_0 a1_1 t344 t345 _ A17.out).mono ?_); rintro e w106 ⟨rfl, hb⟩; refine ⟨_, rfl, ?_⟩; have n0_ := Aside0.mk (blk_below (g := gb339) (o := .cells #[.string a0_0, .int .u64 a0_1, .int .i64 a0_2, .int .u64 a0_3] 24 (0, 0)) (by (with_reducible repeat (first | refine blk_drewN ?_ _ | refine blk_drew ?_ | refine blk_alloc ?_ _)); exact BK339.out) hb); have n1_ := Aside0.mk (blk_below (g := gb340) (o := .cells #[.int .u64 a1_0, .int .i64 a1_1] 26 (0, 0)) (by (with_reducible repeat (first | refine blk_drewN ?_ _ | refine blk_drew ?_ | refine blk_alloc ?_ _)); exact BK340.out) hb); have n2_ := Aside0.mk (below_step (by repeat (first | (with_reducible first | exact HB.out | apply below_alloc | apply pw_below_drewN | apply below_drew1 | refine below_set ?_ GE339.out | refine below_set ?_ GE340.out) | exact HB.out)) hb); clear BK339; clear BK340; clear HB; have BK339 := n0_; have BK340 := n1_; have HB := n2_; clear n0_ n1_ n2_; (try clear hb); (try clear hb2); (try clear hk); (try clear hi); (try clear A17)) | ((with_reducible refine gate_callee (f := 15) rfl ?_); refine goesL_ (some 36) rfl rfl Try.func15 (by kernel_rfl) rfl #[.slice A2 l2.length c2] rfl (by (try simp only [List.map_toArray, List.map_cons, List.map_nil]); first | done | rfl | (simp only [List.length_drop, List.length_take]; rfl) | (simp (disch := omega) only [IntWalk.u64_in, IntWalk.i64_in, IntWalk.u8_in]; rfl)) ?_; (with_reducible refine (col_Leases.calls kj5 _ _ l2 t346 t347 _ ?side1 ?side2 A18.out).mono ?_); (case side1 => repeat (first | exact (Kd.C_below HR2.out HB.out) | (with_reducible refine Kd.C_alloc ?_ _) | (with_reducible refine Kd.C_drewN ?_ _) | (with_reducible refine Kd.C_drew ?_))); (case side2 => exact HC2.out); rintro e w107 ⟨rfl, hb⟩; refine ⟨_, rfl, ?_⟩; have n0_ := Aside0.mk (blk_below (g := gb339) (o := .cells #[.string a0_0, .int .u64 a0_1, .int .i64 a0_2, .int .u64 a0_3] 24 (0, 0)) (by (with_reducible repeat (first | refine blk_drewN ?_ _ | refine blk_drew ?_ | refine blk_alloc ?_ _)); exact BK339.out) hb); have n1_ := Aside0.mk (blk_below (g := gb340) (o := .cells #[.int .u64 a1_0, .int .i64 a1_1] 26 (0, 0)) (by (with_reducible repeat (first | refine blk_drewN ?_ _ | refine blk_drew ?_ | refine blk_alloc ?_ _)); exact BK340.out) hb); have n2_ := Aside0.mk (below_step (by repeat (first | (with_reducible first | exact HB.out | apply below_alloc | apply pw_below_drewN | apply below_drew1 | refine below_set ?_ GE339.out | refine below_set ?_ GE340.out) | exact HB.out)) hb); clear BK339; clear BK340; clear HB; have BK339 := n0_; have BK340 := n1_; have HB := n2_; clear n0_ n1_ n2_; (try clear hb); (try clear hb2); (try clear hk); (try clear hi); (try clear A18)))
                    go_ret
                    exact ⟨by first | rfl | (simp [errW_none, errW_some] <;> rfl) | (simp (disch := omega) only [← i64_w, IntWalk.i64_in]; rfl) | (simp [*, errW_none, errW_some] <;> rfl), by repeat (first | (with_reducible first | exact HB.out | apply below_alloc | apply pw_below_drewN | apply below_drew1 | refine below_set ?_ GE339.out | refine below_set ?_ GE340.out) | exact HB.out)⟩
                  · rw [if_neg c101] at H
                    exact absurd H (by simp)
                · rw [if_neg c100] at H
                  exact absurd H (by simp)
  · replace c5 := Bool.eq_false_iff.mpr c5
    subst c5
    have H1 : (none) = some r := by rw [if_neg (show ¬ (false = true) by decide)] at H; exact H
    clear H
    have H := H1
    clear H1
    exact absurd H (by simp)

/-! ### screelaw15_ColAlone: function 9 -/
def screelaw15_ColAlone.f (k : Nat) (l0 : List (S51)) (a1 : Int) : Option (Bool) := (screelaw15_awake.f k).bind fun t348 => (if t348 = true then (if (l0.length : Int) > 40 then (some true) else ((col_Leases.f k l0).bind fun bt349 => (if (wrap64 ((l0.length : Int) + 1)) = 0 then (none) else (if 0 ≤ (Int.tmod (wrap64 (a1)) (wrap64 ((l0.length : Int) + 1))) then (if (Int.tmod (wrap64 (a1)) (wrap64 ((l0.length : Int) + 1))) ≤ (l0.length : Int) then ((col_Leases.f k (l0.take ((Int.tmod (wrap64 (a1)) (wrap64 ((l0.length : Int) + 1))) : Int).toNat)).bind fun bt355 => ((col_Leases.f k (l0.drop ((Int.tmod (wrap64 (a1)) (wrap64 ((l0.length : Int) + 1))) : Int).toNat)).bind fun bt361 => (if bt349.2 = 0 then ((col_Unlease.f k bt355.1).bind fun bt363 => (if bt355.2 = 0 then (if bt361.2 = 0 then (if bt355.1.size + bt361.1.size ≤ 9223372036854775807 then (if bt349.1.toList = (bt355.1 ++ bt361.1).toList then (if bt363.2 = 0 then (some ((bt363.1.length : Int) == (Int.tmod (wrap64 (a1)) (wrap64 ((l0.length : Int) + 1))))) else (none)) else (none)) else (none)) else (none)) else (none))) else (some (bt349.1.toList == ([] : List UInt8)))))) else (none)) else (none))))) else (none))
theorem screelaw15_ColAlone.mono : ∀ a0 a1 k, LeO (screelaw15_ColAlone.f k a0 a1) (screelaw15_ColAlone.f (k + 1) a0 a1) := by
  intro a0 a1 k
  unfold screelaw15_ColAlone.f
  repeat' first
      | (with_reducible exact col_Leases.mono _ _)
      | (with_reducible exact col_Unlease.mono _ _)
      | (with_reducible exact screelaw15_awake.mono _)
      | (with_reducible exact LeO.refl _)
      | (with_reducible exact LeO.none _)
      | (with_reducible refine LeO.ite ?_ ?_)
      | (with_reducible refine LeO.bind ?_ (fun _ => ?_))
      | exact col_Leases.mono _ _
      | exact col_Unlease.mono _ _
      | exact screelaw15_awake.mono _
      | exact LeO.none _
      | refine LeO.ite ?_ ?_
      | refine LeO.bind ?_ (fun _ => ?_)
set_option maxHeartbeats 8000000 in
set_option maxRecDepth 100000 in
theorem screelaw15_ColAlone.calls (k : Nat) (A0 : Option Addr) (c0 : Nat) (l0 : List (S51)) (a1 : Int) (r : Bool) (w : World) (hr0 : Kd.C k51 w A0 l0.length l0) (hc0 : l0.length ≤ c0) (h : screelaw15_ColAlone.f k l0 a1 = some r) :
    Calls Try.prog 9 #[.slice A0 l0.length c0, .int .u8 a1] w fun e w' => e = .returned (.bool r) ∧ Below w.heap.size w w' := by
  have HR0 := Aside0.mk hr0
  have HC0 := Aside0.mk hc0
  clear hr0 hc0
  have HB := Aside0.mk (Below.refl w.heap.size w)
  have H : ((screelaw15_awake.f k).bind fun t348 => (if t348 = true then (if (l0.length : Int) > 40 then (some true) else ((col_Leases.f k l0).bind fun bt349 => (if (wrap64 ((l0.length : Int) + 1)) = 0 then (none) else (if 0 ≤ (Int.tmod (wrap64 (a1)) (wrap64 ((l0.length : Int) + 1))) then (if (Int.tmod (wrap64 (a1)) (wrap64 ((l0.length : Int) + 1))) ≤ (l0.length : Int) then ((col_Leases.f k (l0.take ((Int.tmod (wrap64 (a1)) (wrap64 ((l0.length : Int) + 1))) : Int).toNat)).bind fun bt355 => ((col_Leases.f k (l0.drop ((Int.tmod (wrap64 (a1)) (wrap64 ((l0.length : Int) + 1))) : Int).toNat)).bind fun bt361 => (if bt349.2 = 0 then ((col_Unlease.f k bt355.1).bind fun bt363 => (if bt355.2 = 0 then (if bt361.2 = 0 then (if bt355.1.size + bt361.1.size ≤ 9223372036854775807 then (if bt349.1.toList = (bt355.1 ++ bt361.1).toList then (if bt363.2 = 0 then (some ((bt363.1.length : Int) == (Int.tmod (wrap64 (a1)) (wrap64 ((l0.length : Int) + 1))))) else (none)) else (none)) else (none)) else (none)) else (none))) else (some (bt349.1.toList == ([] : List UInt8)))))) else (none)) else (none))))) else (none))) = some r := h
  clear h
  replace H := Option.bind_eq_some_iff.mp H
  obtain ⟨t348, A30, H⟩ := H
  replace H : (if t348 = true then (if (l0.length : Int) > 40 then (some true) else ((col_Leases.f k l0).bind fun bt349 => (if (wrap64 ((l0.length : Int) + 1)) = 0 then (none) else (if 0 ≤ (Int.tmod (wrap64 (a1)) (wrap64 ((l0.length : Int) + 1))) then (if (Int.tmod (wrap64 (a1)) (wrap64 ((l0.length : Int) + 1))) ≤ (l0.length : Int) then ((col_Leases.f k (l0.take ((Int.tmod (wrap64 (a1)) (wrap64 ((l0.length : Int) + 1))) : Int).toNat)).bind fun bt355 => ((col_Leases.f k (l0.drop ((Int.tmod (wrap64 (a1)) (wrap64 ((l0.length : Int) + 1))) : Int).toNat)).bind fun bt361 => (if bt349.2 = 0 then ((col_Unlease.f k bt355.1).bind fun bt363 => (if bt355.2 = 0 then (if bt361.2 = 0 then (if bt355.1.size + bt361.1.size ≤ 9223372036854775807 then (if bt349.1.toList = (bt355.1 ++ bt361.1).toList then (if bt363.2 = 0 then (some ((bt363.1.length : Int) == (Int.tmod (wrap64 (a1)) (wrap64 ((l0.length : Int) + 1))))) else (none)) else (none)) else (none)) else (none)) else (none))) else (some (bt349.1.toList == ([] : List UInt8)))))) else (none)) else (none))))) else (none)) = some r := H
  have A3 := Aside0.mk A30
  clear A30
  by_cases c4 : t348 = true
  · subst c4
    have H1 : (if (l0.length : Int) > 40 then (some true) else ((col_Leases.f k l0).bind fun bt349 => (if (wrap64 ((l0.length : Int) + 1)) = 0 then (none) else (if 0 ≤ (Int.tmod (wrap64 (a1)) (wrap64 ((l0.length : Int) + 1))) then (if (Int.tmod (wrap64 (a1)) (wrap64 ((l0.length : Int) + 1))) ≤ (l0.length : Int) then ((col_Leases.f k (l0.take ((Int.tmod (wrap64 (a1)) (wrap64 ((l0.length : Int) + 1))) : Int).toNat)).bind fun bt355 => ((col_Leases.f k (l0.drop ((Int.tmod (wrap64 (a1)) (wrap64 ((l0.length : Int) + 1))) : Int).toNat)).bind fun bt361 => (if bt349.2 = 0 then ((col_Unlease.f k bt355.1).bind fun bt363 => (if bt355.2 = 0 then (if bt361.2 = 0 then (if bt355.1.size + bt361.1.size ≤ 9223372036854775807 then (if bt349.1.toList = (bt355.1 ++ bt361.1).toList then (if bt363.2 = 0 then (some ((bt363.1.length : Int) == (Int.tmod (wrap64 (a1)) (wrap64 ((l0.length : Int) + 1))))) else (none)) else (none)) else (none)) else (none)) else (none))) else (some (bt349.1.toList == ([] : List UInt8)))))) else (none)) else (none))))) = some r := by rw [if_pos rfl] at H; exact H
    clear H
    have H := H1
    clear H1
    by_cases c5 : (l0.length : Int) > 40
    · rw [if_pos c5] at H
      have c5b0 : decide (40 < (l0.length : Int)) = true := decide_eq_true c5
      have c5b1 : decide (40 < l0.length) = true := decide_eq_true (by omega)
      clear c5
      obtain rfl := Option.some.inj H
      go_enter Try.func9, Try.ntmps9
      go_wp2_with (first | ((with_reducible refine gate_callee (f := 10) rfl ?_); refine goesL_ (some 14) rfl rfl Try.func10 (by kernel_rfl) rfl #[] rfl (by (try simp only [List.map_toArray, List.map_cons, List.map_nil]); first | done | rfl | (simp only [List.length_drop, List.length_take]; rfl) | (simp (disch := omega) only [IntWalk.u64_in, IntWalk.i64_in, IntWalk.u8_in]; rfl)) ?_; (with_reducible refine (screelaw15_awake.calls k  true _ A3.out).mono ?_); rintro e w6 ⟨rfl, hb⟩; refine ⟨_, rfl, ?_⟩; have n0_ := Aside0.mk (below_step (by repeat (first | (with_reducible first | exact HB.out | apply below_alloc | apply pw_below_drewN | apply below_drew1) | exact HB.out)) hb); clear HB; have HB := n0_; clear n0_; (try clear hb); (try clear hb2); (try clear hk); (try clear hi); (try clear A3)))
      go_ret
      exact ⟨by first | rfl | (simp [errW_none, errW_some] <;> rfl) | (simp (disch := omega) only [← i64_w, IntWalk.i64_in]; rfl) | (simp [*, errW_none, errW_some] <;> rfl), by repeat (first | (with_reducible first | exact HB.out | apply below_alloc | apply pw_below_drewN | apply below_drew1) | exact HB.out)⟩
    · rw [if_neg c5] at H
      have c5b0 : decide (40 < (l0.length : Int)) = false := decide_eq_false c5
      have c5b1 : decide (40 < l0.length) = false := decide_eq_false (by omega)
      clear c5
      replace H := Option.bind_eq_some_iff.mp H
      obtain ⟨⟨t349, t350⟩, A70, H⟩ := H
      replace H : (if (wrap64 ((l0.length : Int) + 1)) = 0 then (none) else (if 0 ≤ (Int.tmod (wrap64 (a1)) (wrap64 ((l0.length : Int) + 1))) then (if (Int.tmod (wrap64 (a1)) (wrap64 ((l0.length : Int) + 1))) ≤ (l0.length : Int) then ((col_Leases.f k (l0.take ((Int.tmod (wrap64 (a1)) (wrap64 ((l0.length : Int) + 1))) : Int).toNat)).bind fun bt355 => ((col_Leases.f k (l0.drop ((Int.tmod (wrap64 (a1)) (wrap64 ((l0.length : Int) + 1))) : Int).toNat)).bind fun bt361 => (if t350 = 0 then ((col_Unlease.f k bt355.1).bind fun bt363 => (if bt355.2 = 0 then (if bt361.2 = 0 then (if bt355.1.size + bt361.1.size ≤ 9223372036854775807 then (if t349.toList = (bt355.1 ++ bt361.1).toList then (if bt363.2 = 0 then (some ((bt363.1.length : Int) == (Int.tmod (wrap64 (a1)) (wrap64 ((l0.length : Int) + 1))))) else (none)) else (none)) else (none)) else (none)) else (none))) else (some (t349.toList == ([] : List UInt8)))))) else (none)) else (none))) = some r := H
      have A7 := Aside0.mk A70
      clear A70
      by_cases c8 : (wrap64 ((l0.length : Int) + 1)) = 0
      · rw [if_pos c8] at H
        exact absurd H (by simp)
      · rw [if_neg c8] at H
        have c8b0 : ((wrap64 ((l0.length : Int) + 1)) == 0) = false := beq_eq_false_iff_ne.mpr c8
        have c8b1 : ((wrap64 ((l0.length : Int) + 1)) != 0) = true := bne_iff_ne.mpr c8
        obtain ⟨ji9, hji9⟩ : ∃ j_ : Int, (Int.tmod (wrap64 (a1)) (wrap64 ((l0.length : Int) + 1))) = j_ := ⟨_, rfl⟩
        replace H : (if 0 ≤ (ji9) then (if (ji9) ≤ (l0.length : Int) then ((col_Leases.f k (l0.take ((ji9) : Int).toNat)).bind fun bt355 => ((col_Leases.f k (l0.drop ((ji9) : Int).toNat)).bind fun bt361 => (if t350 = 0 then ((col_Unlease.f k bt355.1).bind fun bt363 => (if bt355.2 = 0 then (if bt361.2 = 0 then (if bt355.1.size + bt361.1.size ≤ 9223372036854775807 then (if t349.toList = (bt355.1 ++ bt361.1).toList then (if bt363.2 = 0 then (some ((bt363.1.length : Int) == (ji9))) else (none)) else (none)) else (none)) else (none)) else (none))) else (some (t349.toList == ([] : List UInt8)))))) else (none)) else (none)) = some r := by first | (rw [hji9] at H; exact H) | (simp only [hji9] at H ⊢; exact H)
        (try rw [hji9])
        (try rw [hji9] at A3)
        (try rw [hji9] at A7)
        by_cases c10 : 0 ≤ (ji9)
        · rw [if_pos c10] at H
          have c10b0 := eq_true c10
          have c10b1 : decide (0 ≤ (ji9)) = true := decide_eq_true c10
          clear c10
          by_cases c11 : (ji9) ≤ (l0.length : Int)
          · rw [if_pos c11] at H
            have c11b0 := eq_true c11
            have c11b1 : decide ((ji9) ≤ (l0.length : Int)) = true := decide_eq_true c11
            clear c11
            obtain ⟨y351, hy351⟩ : ∃ y_ : List (S51), y_ = (l0.take ((ji9) : Int).toNat) := ⟨_, rfl⟩
            replace H : ((col_Leases.f k y351).bind fun bt355 => ((col_Leases.f k (l0.drop ((ji9) : Int).toNat)).bind fun bt361 => (if t350 = 0 then ((col_Unlease.f k bt355.1).bind fun bt363 => (if bt355.2 = 0 then (if bt361.2 = 0 then (if bt355.1.size + bt361.1.size ≤ 9223372036854775807 then (if t349.toList = (bt355.1 ++ bt361.1).toList then (if bt363.2 = 0 then (some ((bt363.1.length : Int) == (ji9))) else (none)) else (none)) else (none)) else (none)) else (none))) else (some (t349.toList == ([] : List UInt8)))))) = some r := by first | (rw [hy351]; with_reducible exact H) | (have H2_ := (Option.bind_some _ _).symm.trans H; rw [hy351]; with_reducible exact H2_) | (have H2_ := (Option.bind_some _ _).symm.trans H; with_reducible exact H2_) | with_reducible exact H | (rw [hy351]; exact H) | exact H
            have Ny351 := Aside0.mk hy351
            clear hy351
            replace H := Option.bind_eq_some_iff.mp H
            obtain ⟨⟨t355, t356⟩, A120, H⟩ := H
            replace H : ((col_Leases.f k (l0.drop ((ji9) : Int).toNat)).bind fun bt361 => (if t350 = 0 then ((col_Unlease.f k t355).bind fun bt363 => (if t356 = 0 then (if bt361.2 = 0 then (if t355.size + bt361.1.size ≤ 9223372036854775807 then (if t349.toList = (t355 ++ bt361.1).toList then (if bt363.2 = 0 then (some ((bt363.1.length : Int) == (ji9))) else (none)) else (none)) else (none)) else (none)) else (none))) else (some (t349.toList == ([] : List UInt8))))) = some r := H
            have A12 := Aside0.mk A120
            clear A120
            have c13b0 := eq_true (of_decide_eq_true (by first | (with_reducible assumption) | assumption) : 0 ≤ (ji9))
            have c14b0 := eq_true (of_decide_eq_true (by first | (with_reducible assumption) | assumption) : (ji9) ≤ (l0.length : Int))
            obtain ⟨y357, hy357⟩ : ∃ y_ : List (S51), y_ = (l0.drop ((ji9) : Int).toNat) := ⟨_, rfl⟩
            replace H : ((col_Leases.f k y357).bind fun bt361 => (if t350 = 0 then ((col_Unlease.f k t355).bind fun bt363 => (if t356 = 0 then (if bt361.2 = 0 then (if t355.size + bt361.1.size ≤ 9223372036854775807 then (if t349.toList = (t355 ++ bt361.1).toList then (if bt363.2 = 0 then (some ((bt363.1.length : Int) == (ji9))) else (none)) else (none)) else (none)) else (none)) else (none))) else (some (t349.toList == ([] : List UInt8))))) = some r := by first | (rw [hy357]; with_reducible exact H) | (have H2_ := (Option.bind_some _ _).symm.trans H; rw [hy357]; with_reducible exact H2_) | (have H2_ := (Option.bind_some _ _).symm.trans H; with_reducible exact H2_) | with_reducible exact H | (rw [hy357]; exact H) | exact H
            have Ny357 := Aside0.mk hy357
            clear hy357
            replace H := Option.bind_eq_some_iff.mp H
            obtain ⟨⟨t361, t362⟩, A150, H⟩ := H
            replace H : (if t350 = 0 then ((col_Unlease.f k t355).bind fun bt363 => (if t356 = 0 then (if t362 = 0 then (if t355.size + t361.size ≤ 9223372036854775807 then (if t349.toList = (t355 ++ t361).toList then (if bt363.2 = 0 then (some ((bt363.1.length : Int) == (ji9))) else (none)) else (none)) else (none)) else (none)) else (none))) else (some (t349.toList == ([] : List UInt8)))) = some r := H
            have A15 := Aside0.mk A150
            clear A150
            by_cases c16 : t350 = 0
            · rw [if_pos c16] at H
              have c16b0 : (t350 == 0) = true := beq_iff_eq.mpr c16
              have c16b1 : (t350 != 0) = false := bne_eq_false_iff_eq.mpr c16
              clear c16
              replace H := Option.bind_eq_some_iff.mp H
              obtain ⟨⟨t363, t364⟩, A170, H⟩ := H
              replace H : (if t356 = 0 then (if t362 = 0 then (if t355.size + t361.size ≤ 9223372036854775807 then (if t349.toList = (t355 ++ t361).toList then (if t364 = 0 then (some ((t363.length : Int) == (ji9))) else (none)) else (none)) else (none)) else (none)) else (none)) = some r := H
              have A17 := Aside0.mk A170
              clear A170
              by_cases c18 : t356 = 0
              · rw [if_pos c18] at H
                have c18b0 : (t356 == 0) = true := beq_iff_eq.mpr c18
                have c18b1 : (t356 != 0) = false := bne_eq_false_iff_eq.mpr c18
                clear c18
                by_cases c19 : t362 = 0
                · rw [if_pos c19] at H
                  have c19b0 : (t362 == 0) = true := beq_iff_eq.mpr c19
                  have c19b1 : (t362 != 0) = false := bne_eq_false_iff_eq.mpr c19
                  clear c19
                  by_cases c20 : t355.size + t361.size ≤ 9223372036854775807
                  · rw [if_pos c20] at H
                    have c20b0 := eq_true c20
                    have c20b1 : decide (t355.size + t361.size ≤ 9223372036854775807) = true := decide_eq_true c20
                    try have c20b2 : (9223372036854775807 < t355.size + t361.size) = False := eq_false (Nat.not_lt.2 c20)
                    try (have c20b3 := c20b2; simp only [ByteArray.size_append] at c20b3)
                    try (have c20b4 := c20b2; simp only [ByteArray.size_extract, ByteArray.size_append, Nat.sub_zero] at c20b4)
                    by_cases c21 : t349.toList = (t355 ++ t361).toList
                    · rw [if_pos c21] at H
                      have c21b0 : (t349.toList == (t355 ++ t361).toList) = true := beq_iff_eq.mpr c21
                      have c21b1 : (t349.toList != (t355 ++ t361).toList) = false := bne_eq_false_iff_eq.mpr c21
                      clear c21
                      by_cases c22 : t364 = 0
                      · rw [if_pos c22] at H
                        have c22b0 : (t364 == 0) = true := beq_iff_eq.mpr c22
                        have c22b1 : (t364 != 0) = false := bne_eq_false_iff_eq.mpr c22
                        clear c22
                        obtain rfl := Option.some.inj H
                        go_enter Try.func9, Try.ntmps9
                        go_wp2_with (first | ((with_reducible refine gate_callee (f := 10) rfl ?_); refine goesL_ (some 14) rfl rfl Try.func10 (by kernel_rfl) rfl #[] rfl (by (try simp only [List.map_toArray, List.map_cons, List.map_nil]); first | done | rfl | (simp only [List.length_drop, List.length_take]; rfl) | (simp (disch := omega) only [IntWalk.u64_in, IntWalk.i64_in, IntWalk.u8_in]; rfl)) ?_; (with_reducible refine (screelaw15_awake.calls k  true _ A3.out).mono ?_); rintro e w23 ⟨rfl, hb⟩; refine ⟨_, rfl, ?_⟩; have n0_ := Aside0.mk (below_step (by repeat (first | (with_reducible first | exact HB.out | apply below_alloc | apply pw_below_drewN | apply below_drew1) | exact HB.out)) hb); clear HB; have HB := n0_; clear n0_; (try clear hb); (try clear hb2); (try clear hk); (try clear hi); (try clear A3)) | ((with_reducible refine gate_callee (f := 15) rfl ?_); refine goesL_ (some 21) rfl rfl Try.func15 (by kernel_rfl) rfl #[.slice A0 l0.length c0] rfl (by (try simp only [List.map_toArray, List.map_cons, List.map_nil]); first | done | rfl | (simp only [List.length_drop, List.length_take]; rfl) | (simp (disch := omega) only [IntWalk.u64_in, IntWalk.i64_in, IntWalk.u8_in]; rfl)) ?_; (with_reducible refine (col_Leases.calls k _ _ l0 t349 t350 _ ?side1 ?side2 A7.out).mono ?_); (case side1 => repeat (first | exact (Kd.C_below HR0.out HB.out) | (with_reducible refine Kd.C_alloc ?_ _) | (with_reducible refine Kd.C_drewN ?_ _) | (with_reducible refine Kd.C_drew ?_))); (case side2 => exact HC0.out); rintro e w24 ⟨rfl, hb⟩; refine ⟨_, rfl, ?_⟩; have n0_ := Aside0.mk (below_step (by repeat (first | (with_reducible first | exact HB.out | apply below_alloc | apply pw_below_drewN | apply below_drew1) | exact HB.out)) hb); clear HB; have HB := n0_; clear n0_; (try clear hb); (try clear hb2); (try clear hk); (try clear hi); (try clear A7); have q25 : ((ji9) : Int) ≤ ((l0.length : Int) : Int) := of_decide_eq_true (by first | (with_reducible assumption) | assumption); obtain ⟨i025, hi025, _, hsz25, _⟩ := info_parts info51; have hroom25 : l0.length ≤ c0 := HC0.out; have hC25 : Kd.C k51 _ A0 l0.length l0 := HR0.out; have hcut25 := cut_to (P := Try.prog) 27 51 .i64 Try.underlying27 hi025 A0 l0.length c0 (ji9) (of_decide_eq_true (by first | (with_reducible assumption) | assumption)) q25 hroom25; have hr25 := Kd.C_take (m := ((ji9) : Int).toNat) hC25 (by omega); have hy25 : y351.length = ((ji9) : Int).toNat := (by rw [Ny351.out, List.length_take]; omega); rw [← Ny351.out] at hr25; rw [← hy25] at hcut25; have HR354 := Aside0.mk hr25; have HC354 := Aside0.mk (show y351.length ≤ c0 from by omega); clear hr25 hC25 hroom25 hi025 hsz25; have KY25 := Aside0.mk hy25; clear hy25; replace q25 := eq_true q25) | ((with_reducible refine gate_callee (f := 15) rfl ?_); refine goesL_ (some 34) rfl rfl Try.func15 (by kernel_rfl) rfl #[.slice A0 y351.length c0] rfl (by (try simp only [List.map_toArray, List.map_cons, List.map_nil]); first | done | rfl | (simp only [List.length_drop, List.length_take]; rfl) | (simp (disch := omega) only [IntWalk.u64_in, IntWalk.i64_in, IntWalk.u8_in]; rfl)) ?_; (with_reducible refine (col_Leases.calls k _ _ y351 t355 t356 _ ?side1 ?side2 A12.out).mono ?_); (case side1 => repeat (first | exact (Kd.C_below HR354.out HB.out) | (with_reducible refine Kd.C_alloc ?_ _) | (with_reducible refine Kd.C_drewN ?_ _) | (with_reducible refine Kd.C_drew ?_))); (case side2 => exact HC354.out); rintro e w26 ⟨rfl, hb⟩; refine ⟨_, rfl, ?_⟩; have n0_ := Aside0.mk (below_step (by repeat (first | (with_reducible first | exact HB.out | apply below_alloc | apply pw_below_drewN | apply below_drew1) | exact HB.out)) hb); clear HB; have HB := n0_; clear n0_; (try clear hb); (try clear hb2); (try clear hk); (try clear hi); (try clear A12); have q27 : ((ji9) : Int) ≤ ((l0.length : Int) : Int) := of_decide_eq_true (by first | (with_reducible assumption) | assumption); obtain ⟨i027, hi027, _, hsz27, _⟩ := info_parts info51; have hroom27 : l0.length ≤ c0 := HC0.out; have hC27 : Kd.C k51 _ A0 l0.length l0 := HR0.out; have q027 : (0 : Int) ≤ ((ji9) : Int) := of_decide_eq_true (by first | (with_reducible assumption) | assumption); have hcut27 := cut_from (P := Try.prog) 27 51 .i64 Try.underlying27 hi027 3 hsz27 A0 l0.length c0 (ji9) q027 q27; have hr27 := Kd.C_drop (m := ((ji9) : Int).toNat) (c := c0) hC27 (by omega) hroom27; obtain ⟨A27, hA27⟩ : ∃ A1, A1 = (if c0 = ((ji9) : Int).toNat then A0 else (A0 : Option Addr).map (·.add (((ji9) : Int).toNat * 3))) := ⟨_, rfl⟩; obtain ⟨c27, hc27⟩ : ∃ c1, c1 = c0 - ((ji9) : Int).toNat := ⟨_, rfl⟩; have hy27 : y357.length = l0.length - ((ji9) : Int).toNat := (by rw [Ny357.out, List.length_drop] <;> omega); rw [show (l0).drop ((ji9) : Int).toNat = y357 from Ny357.out.symm] at hr27; replace hr27 : Kd.C k51 _ A27 y357.length y357 := (by rw [hA27]; exact hr27); rw [← hy27, ← hA27, ← hc27] at hcut27; have HR360 := Aside0.mk hr27; have HC360 := Aside0.mk (show y357.length ≤ c27 from by rw [hy27, hc27]; exact Nat.sub_le_sub_right hroom27 _); clear hr27 hC27 hroom27 hi027 hsz27 hc27; have KY27 := Aside0.mk hy27; have KA27 := Aside0.mk hA27; clear hy27 hA27; replace q27 := eq_true q27) | ((with_reducible refine gate_callee (f := 15) rfl ?_); refine goesL_ (some 41) rfl rfl Try.func15 (by kernel_rfl) rfl #[.slice A27 y357.length c27] rfl (by (try simp only [List.map_toArray, List.map_cons, List.map_nil]); first | done | rfl | (simp only [List.length_drop, List.length_take]; rfl) | (simp (disch := omega) only [IntWalk.u64_in, IntWalk.i64_in, IntWalk.u8_in]; rfl)) ?_; (with_reducible refine (col_Leases.calls k _ _ y357 t361 t362 _ ?side1 ?side2 A15.out).mono ?_); (case side1 => repeat (first | exact (Kd.C_below HR360.out HB.out) | (with_reducible refine Kd.C_alloc ?_ _) | (with_reducible refine Kd.C_drewN ?_ _) | (with_reducible refine Kd.C_drew ?_))); (case side2 => exact HC360.out); rintro e w28 ⟨rfl, hb⟩; refine ⟨_, rfl, ?_⟩; have n0_ := Aside0.mk (below_step (by repeat (first | (with_reducible first | exact HB.out | apply below_alloc | apply pw_below_drewN | apply below_drew1) | exact HB.out)) hb); clear HB; have HB := n0_; clear n0_; (try clear hb); (try clear hb2); (try clear hk); (try clear hi); (try clear A15)) | ((with_reducible refine gate_callee (f := 22) rfl ?_); refine goesL_ (some 50) rfl rfl Try.func22 (by kernel_rfl) rfl #[.string t355] rfl (by (try simp only [List.map_toArray, List.map_cons, List.map_nil]); first | done | rfl | (simp only [List.length_drop, List.length_take]; rfl) | (simp (disch := omega) only [IntWalk.u64_in, IntWalk.i64_in, IntWalk.u8_in]; rfl)) ?_; (with_reducible refine (col_Unlease.calls k t355 t363 t364 _ A17.out).mono ?_); rintro e w29 ⟨v365, rfl, ho0, hb⟩; refine ⟨_, rfl, ?_⟩; have n0_ := Aside0.mk (Kd.R_lower ho0 (below_size (by repeat (first | (with_reducible first | exact HB.out | apply below_alloc | apply pw_below_drewN | apply below_drew1) | exact HB.out)))); have n1_ := Aside0.mk (below_step (by repeat (first | (with_reducible first | exact HB.out | apply below_alloc | apply pw_below_drewN | apply below_drew1) | exact HB.out)) hb); clear HB; have HO366 := n0_; have HB := n1_; clear n0_ n1_; (try clear hb); (try clear hb2); (try clear hk); (try clear hi); (try clear ho0); (try clear A17); obtain ⟨Ao30, co30, eo30⟩ := Kd.R_slice HO366.out; subst eo30))
                        go_ret
                        exact ⟨by first | rfl | (simp [errW_none, errW_some] <;> rfl) | (simp (disch := omega) only [← i64_w, IntWalk.i64_in]; rfl) | (simp only [← hji9]; first | rfl | (simp [errW_none, errW_some] <;> rfl)) | (simp [*, errW_none, errW_some] <;> rfl), by repeat (first | (with_reducible first | exact HB.out | apply below_alloc | apply pw_below_drewN | apply below_drew1) | exact HB.out)⟩
                      · rw [if_neg c22] at H
                        exact absurd H (by simp)
                    · rw [if_neg c21] at H
                      exact absurd H (by simp)
                  · rw [if_neg c20] at H
                    exact absurd H (by simp)
                · rw [if_neg c19] at H
                  exact absurd H (by simp)
              · rw [if_neg c18] at H
                exact absurd H (by simp)
            · rw [if_neg c16] at H
              have c16b0 : (t350 == 0) = false := beq_eq_false_iff_ne.mpr c16
              have c16b1 : (t350 != 0) = true := bne_iff_ne.mpr c16
              obtain rfl := Option.some.inj H
              go_enter Try.func9, Try.ntmps9
              go_wp2_with (first | ((with_reducible refine gate_callee (f := 10) rfl ?_); refine goesL_ (some 14) rfl rfl Try.func10 (by kernel_rfl) rfl #[] rfl (by (try simp only [List.map_toArray, List.map_cons, List.map_nil]); first | done | rfl | (simp only [List.length_drop, List.length_take]; rfl) | (simp (disch := omega) only [IntWalk.u64_in, IntWalk.i64_in, IntWalk.u8_in]; rfl)) ?_; (with_reducible refine (screelaw15_awake.calls k  true _ A3.out).mono ?_); rintro e w31 ⟨rfl, hb⟩; refine ⟨_, rfl, ?_⟩; have n0_ := Aside0.mk (below_step (by repeat (first | (with_reducible first | exact HB.out | apply below_alloc | apply pw_below_drewN | apply below_drew1) | exact HB.out)) hb); clear HB; have HB := n0_; clear n0_; (try clear hb); (try clear hb2); (try clear hk); (try clear hi); (try clear A3)) | ((with_reducible refine gate_callee (f := 15) rfl ?_); refine goesL_ (some 21) rfl rfl Try.func15 (by kernel_rfl) rfl #[.slice A0 l0.length c0] rfl (by (try simp only [List.map_toArray, List.map_cons, List.map_nil]); first | done | rfl | (simp only [List.length_drop, List.length_take]; rfl) | (simp (disch := omega) only [IntWalk.u64_in, IntWalk.i64_in, IntWalk.u8_in]; rfl)) ?_; (with_reducible refine (col_Leases.calls k _ _ l0 t349 t350 _ ?side1 ?side2 A7.out).mono ?_); (case side1 => repeat (first | exact (Kd.C_below HR0.out HB.out) | (with_reducible refine Kd.C_alloc ?_ _) | (with_reducible refine Kd.C_drewN ?_ _) | (with_reducible refine Kd.C_drew ?_))); (case side2 => exact HC0.out); rintro e w32 ⟨rfl, hb⟩; refine ⟨_, rfl, ?_⟩; have n0_ := Aside0.mk (below_step (by repeat (first | (with_reducible first | exact HB.out | apply below_alloc | apply pw_below_drewN | apply below_drew1) | exact HB.out)) hb); clear HB; have HB := n0_; clear n0_; (try clear hb); (try clear hb2); (try clear hk); (try clear hi); (try clear A7); have q33 : ((ji9) : Int) ≤ ((l0.length : Int) : Int) := of_decide_eq_true (by first | (with_reducible assumption) | assumption); obtain ⟨i033, hi033, _, hsz33, _⟩ := info_parts info51; have hroom33 : l0.length ≤ c0 := HC0.out; have hC33 : Kd.C k51 _ A0 l0.length l0 := HR0.out; have hcut33 := cut_to (P := Try.prog) 27 51 .i64 Try.underlying27 hi033 A0 l0.length c0 (ji9) (of_decide_eq_true (by first | (with_reducible assumption) | assumption)) q33 hroom33; have hr33 := Kd.C_take (m := ((ji9) : Int).toNat) hC33 (by omega); have hy33 : y351.length = ((ji9) : Int).toNat := (by rw [Ny351.out, List.length_take]; omega); rw [← Ny351.out] at hr33; rw [← hy33] at hcut33; have HR354 := Aside0.mk hr33; have HC354 := Aside0.mk (show y351.length ≤ c0 from by omega); clear hr33 hC33 hroom33 hi033 hsz33; have KY33 := Aside0.mk hy33; clear hy33; replace q33 := eq_true q33) | ((with_reducible refine gate_callee (f := 15) rfl ?_); refine goesL_ (some 34) rfl rfl Try.func15 (by kernel_rfl) rfl #[.slice A0 y351.length c0] rfl (by (try simp only [List.map_toArray, List.map_cons, List.map_nil]); first | done | rfl | (simp only [List.length_drop, List.length_take]; rfl) | (simp (disch := omega) only [IntWalk.u64_in, IntWalk.i64_in, IntWalk.u8_in]; rfl)) ?_; (with_reducible refine (col_Leases.calls k _ _ y351 t355 t356 _ ?side1 ?side2 A12.out).mono ?_); (case side1 => repeat (first | exact (Kd.C_below HR354.out HB.out) | (with_reducible refine Kd.C_alloc ?_ _) | (with_reducible refine Kd.C_drewN ?_ _) | (with_reducible refine Kd.C_drew ?_))); (case side2 => exact HC354.out); rintro e w34 ⟨rfl, hb⟩; refine ⟨_, rfl, ?_⟩; have n0_ := Aside0.mk (below_step (by repeat (first | (with_reducible first | exact HB.out | apply below_alloc | apply pw_below_drewN | apply below_drew1) | exact HB.out)) hb); clear HB; have HB := n0_; clear n0_; (try clear hb); (try clear hb2); (try clear hk); (try clear hi); (try clear A12); have q35 : ((ji9) : Int) ≤ ((l0.length : Int) : Int) := of_decide_eq_true (by first | (with_reducible assumption) | assumption); obtain ⟨i035, hi035, _, hsz35, _⟩ := info_parts info51; have hroom35 : l0.length ≤ c0 := HC0.out; have hC35 : Kd.C k51 _ A0 l0.length l0 := HR0.out; have q035 : (0 : Int) ≤ ((ji9) : Int) := of_decide_eq_true (by first | (with_reducible assumption) | assumption); have hcut35 := cut_from (P := Try.prog) 27 51 .i64 Try.underlying27 hi035 3 hsz35 A0 l0.length c0 (ji9) q035 q35; have hr35 := Kd.C_drop (m := ((ji9) : Int).toNat) (c := c0) hC35 (by omega) hroom35; obtain ⟨A35, hA35⟩ : ∃ A1, A1 = (if c0 = ((ji9) : Int).toNat then A0 else (A0 : Option Addr).map (·.add (((ji9) : Int).toNat * 3))) := ⟨_, rfl⟩; obtain ⟨c35, hc35⟩ : ∃ c1, c1 = c0 - ((ji9) : Int).toNat := ⟨_, rfl⟩; have hy35 : y357.length = l0.length - ((ji9) : Int).toNat := (by rw [Ny357.out, List.length_drop] <;> omega); rw [show (l0).drop ((ji9) : Int).toNat = y357 from Ny357.out.symm] at hr35; replace hr35 : Kd.C k51 _ A35 y357.length y357 := (by rw [hA35]; exact hr35); rw [← hy35, ← hA35, ← hc35] at hcut35; have HR360 := Aside0.mk hr35; have HC360 := Aside0.mk (show y357.length ≤ c35 from by rw [hy35, hc35]; exact Nat.sub_le_sub_right hroom35 _); clear hr35 hC35 hroom35 hi035 hsz35 hc35; have KY35 := Aside0.mk hy35; have KA35 := Aside0.mk hA35; clear hy35 hA35; replace q35 := eq_true q35) | ((with_reducible refine gate_callee (f := 15) rfl ?_); refine goesL_ (some 41) rfl rfl Try.func15 (by kernel_rfl) rfl #[.slice A35 y357.length c35] rfl (by (try simp only [List.map_toArray, List.map_cons, List.map_nil]); first | done | rfl | (simp only [List.length_drop, List.length_take]; rfl) | (simp (disch := omega) only [IntWalk.u64_in, IntWalk.i64_in, IntWalk.u8_in]; rfl)) ?_; (with_reducible refine (col_Leases.calls k _ _ y357 t361 t362 _ ?side1 ?side2 A15.out).mono ?_); (case side1 => repeat (first | exact (Kd.C_below HR360.out HB.out) | (with_reducible refine Kd.C_alloc ?_ _) | (with_reducible refine Kd.C_drewN ?_ _) | (with_reducible refine Kd.C_drew ?_))); (case side2 => exact HC360.out); rintro e w36 ⟨rfl, hb⟩; refine ⟨_, rfl, ?_⟩; have n0_ := Aside0.mk (below_step (by repeat (first | (with_reducible first | exact HB.out | apply below_alloc | apply pw_below_drewN | apply below_drew1) | exact HB.out)) hb); clear HB; have HB := n0_; clear n0_; (try clear hb); (try clear hb2); (try clear hk); (try clear hi); (try clear A15)))
              go_ret
              exact ⟨by first | rfl | (simp [errW_none, errW_some] <;> rfl) | (simp (disch := omega) only [← i64_w, IntWalk.i64_in]; rfl) | (simp only [← hji9]; first | rfl | (simp [errW_none, errW_some] <;> rfl)) | (simp [*, errW_none, errW_some] <;> rfl), by repeat (first | (with_reducible first | exact HB.out | apply below_alloc | apply pw_below_drewN | apply below_drew1) | exact HB.out)⟩
          · rw [if_neg c11] at H
            exact absurd H (by simp)
        · rw [if_neg c10] at H
          exact absurd H (by simp)
  · replace c4 := Bool.eq_false_iff.mpr c4
    subst c4
    have H1 : (none) = some r := by rw [if_neg (show ¬ (false = true) by decide)] at H; exact H
    clear H
    have H := H1
    clear H1
    exact absurd H (by simp)

end Go.Proofs.Yteijlcnjnooiiaa.P
