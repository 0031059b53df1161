-- Printed by a program of this session's own (wip/tools/pprint.sh, over the kit's print, with given contracts): not typed by hand.
import Derived.Test.YtachminlgcndnaaPx0
import Derived.Test.YtachminlgcndnaaPx3
import Derived.Test.YtachminlgcndnaaPx4
import Derived.Test.YtachminlgcndnaaPx5
namespace Go.Proofs.Ytachminlgcndnaa.P
open Go.RowKit Go.Proofs.YtachminlgcndnaaW.PrintWords Go.Proofs.YtachminlgcndnaaW.PrintLast Go.Proofs.YtachminlgcndnaaW.PrintMore
attribute [local go_sem] max2_int min2_int max_two min_two max_three min_three max_four min_four   -- for this text's walks alone
set_option linter.unusedVariables false
set_option linter.unusedSimpArgs false

/-! ### screelaw02_KeyBounds: function 7 -/
mutual
def screelaw02_KeyBounds.j0 : Nat → Bool → Int → ByteArray → Int → Int → ByteArray → Int → Option (Bool)
  | 0, _, _, _, _, _, _, _ => none
  | k + 1, x25, x272000, x272001, x272002, x273000, x273001, x273002 => if x25 = true then (some true) else ((key_First.f x272000 x272001).bind fun bt274 => ((key_Behind.f x272000 x272001).bind fun bt276 => ((key_Family.f x272000).bind fun bt278 => (if x272000 ≥ 1 then (if ((bt278.2.2 == 0) != (decide (x272000 ≤ 4))) = true then (screelaw02_KeyBounds.j1 k bt274.1 bt274.2 bt276.1 bt278.1 bt278.2.1 true x272000 x272001 x272002 x273000 x273001 x273002) else (screelaw02_KeyBounds.j1 k bt274.1 bt274.2 bt276.1 bt278.1 bt278.2.1 (bt274.2 != bt276.2) x272000 x272001 x272002 x273000 x273001 x273002)) else (if ((bt278.2.2 == 0) != false) = true then (screelaw02_KeyBounds.j1 k bt274.1 bt274.2 bt276.1 bt278.1 bt278.2.1 true x272000 x272001 x272002 x273000 x273001 x273002) else (screelaw02_KeyBounds.j1 k bt274.1 bt274.2 bt276.1 bt278.1 bt278.2.1 (bt274.2 != bt276.2) x272000 x272001 x272002 x273000 x273001 x273002))))))
def screelaw02_KeyBounds.j1 : Nat → ByteArray → Int → ByteArray → ByteArray → ByteArray → Bool → Int → ByteArray → Int → Int → ByteArray → Int → Option (Bool)
  | 0, _, _, _, _, _, _, _, _, _, _, _, _ => none
  | k + 1, x5, x6, x7, x9, x10, x64, x272000, x272001, x272002, x273000, x273001, x273002 => if x64 = true then (none) else ((key_Make.f k x273000 x273001 x273002).bind fun bt281 => (if x6 = 0 then (if bt281.2 = 0 then (if ((Op.bytesLess bt281.1.toList x5.toList) = true) then (if x273000 = x272000 then (if (false == (x273001.toList == x272001.toList)) = true then (if ((Op.bytesLess bt281.1.toList x9.toList) = true) then (some (false == (x273000 == x272000))) else (some ((Op.bytesLess bt281.1.toList x10.toList) == (x273000 == x272000)))) else (none)) else (if (false == false) = true then (if ((Op.bytesLess bt281.1.toList x9.toList) = true) then (some (false == (x273000 == x272000))) else (some ((Op.bytesLess bt281.1.toList x10.toList) == (x273000 == x272000)))) else (none))) else (if x273000 = x272000 then (if ((Op.bytesLess bt281.1.toList x7.toList) == (x273001.toList == x272001.toList)) = true then (if ((Op.bytesLess bt281.1.toList x9.toList) = true) then (some (false == (x273000 == x272000))) else (some ((Op.bytesLess bt281.1.toList x10.toList) == (x273000 == x272000)))) else (none)) else (if ((Op.bytesLess bt281.1.toList x7.toList) == false) = true then (if ((Op.bytesLess bt281.1.toList x9.toList) = true) then (some (false == (x273000 == x272000))) else (some ((Op.bytesLess bt281.1.toList x10.toList) == (x273000 == x272000)))) else (none)))) else (some true)) else (if x5.toList = ([] : List UInt8) then (some (x7.toList == ([] : List UInt8))) else (none))))
end
def screelaw02_KeyBounds.f (k : Nat) (a0_0 : Int) (a0_1 : ByteArray) (a0_2 : Int) (a1_0 : Int) (a1_1 : ByteArray) (a1_2 : Int) : Option (Bool) := (screelaw02_awake.f k).bind fun t273 => (if t273 = true then (if (a0_1.size : Int) > 1024 then (screelaw02_KeyBounds.j0 k true a0_0 a0_1 a0_2 a1_0 a1_1 a1_2) else (screelaw02_KeyBounds.j0 k (decide ((a1_1.size : Int) > 1024)) a0_0 a0_1 a0_2 a1_0 a1_1 a1_2)) else (none))
theorem screelaw02_KeyBounds.mono_l : ∀ k, (∀ y0 y1 y2 y3 y4 y5 y6, LeO (screelaw02_KeyBounds.j0 k y0 y1 y2 y3 y4 y5 y6) (screelaw02_KeyBounds.j0 (k + 1) y0 y1 y2 y3 y4 y5 y6)) ∧ (∀ y0 y1 y2 y3 y4 y5 y6 y7 y8 y9 y10 y11, LeO (screelaw02_KeyBounds.j1 k y0 y1 y2 y3 y4 y5 y6 y7 y8 y9 y10 y11) (screelaw02_KeyBounds.j1 (k + 1) y0 y1 y2 y3 y4 y5 y6 y7 y8 y9 y10 y11))
  | 0 => ⟨fun _ _ _ _ _ _ _ r h => by simp [screelaw02_KeyBounds.j0] at h, fun _ _ _ _ _ _ _ _ _ _ _ _ r h => by simp [screelaw02_KeyBounds.j1] at h⟩
  | k + 1 => by
    obtain ⟨ih0, ih1⟩ := screelaw02_KeyBounds.mono_l k
    refine ⟨?_, ?_⟩
    · intro y0 y1 y2 y3 y4 y5 y6
      unfold screelaw02_KeyBounds.j0
      repeat' first
      | (with_reducible exact ih0 _ _ _ _ _ _ _)
      | (with_reducible exact ih1 _ _ _ _ _ _ _ _ _ _ _ _)
      | (with_reducible exact key_Make.mono _ _ _ _)
      | (with_reducible exact screelaw02_awake.mono _)
      | (with_reducible exact LeO.refl _)
      | (with_reducible exact LeO.none _)
      | (with_reducible refine LeO.ite ?_ ?_)
      | (with_reducible refine LeO.bind ?_ (fun _ => ?_))
      | exact ih0 _ _ _ _ _ _ _
      | exact ih1 _ _ _ _ _ _ _ _ _ _ _ _
      | exact key_Make.mono _ _ _ _
      | exact screelaw02_awake.mono _
      | exact LeO.none _
      | refine LeO.ite ?_ ?_
      | refine LeO.bind ?_ (fun _ => ?_)
    · intro y0 y1 y2 y3 y4 y5 y6 y7 y8 y9 y10 y11
      unfold screelaw02_KeyBounds.j1
      repeat' first
      | (with_reducible exact ih0 _ _ _ _ _ _ _)
      | (with_reducible exact ih1 _ _ _ _ _ _ _ _ _ _ _ _)
      | (with_reducible exact key_Make.mono _ _ _ _)
      | (with_reducible exact screelaw02_awake.mono _)
      | (with_reducible exact LeO.refl _)
      | (with_reducible exact LeO.none _)
      | (with_reducible refine LeO.ite ?_ ?_)
      | (with_reducible refine LeO.bind ?_ (fun _ => ?_))
      | exact ih0 _ _ _ _ _ _ _
      | exact ih1 _ _ _ _ _ _ _ _ _ _ _ _
      | exact key_Make.mono _ _ _ _
      | exact screelaw02_awake.mono _
      | exact LeO.none _
      | refine LeO.ite ?_ ?_
      | refine LeO.bind ?_ (fun _ => ?_)
theorem screelaw02_KeyBounds.mono : ∀ a0 a1 a2 a3 a4 a5 k, LeO (screelaw02_KeyBounds.f k a0 a1 a2 a3 a4 a5) (screelaw02_KeyBounds.f (k + 1) a0 a1 a2 a3 a4 a5) := by
  intro a0 a1 a2 a3 a4 a5 k
  obtain ⟨ih0, ih1⟩ := screelaw02_KeyBounds.mono_l k
  unfold screelaw02_KeyBounds.f
  repeat' first
      | (with_reducible exact ih0 _ _ _ _ _ _ _)
      | (with_reducible exact ih1 _ _ _ _ _ _ _ _ _ _ _ _)
      | (with_reducible exact key_Make.mono _ _ _ _)
      | (with_reducible exact screelaw02_awake.mono _)
      | (with_reducible exact LeO.refl _)
      | (with_reducible exact LeO.none _)
      | (with_reducible refine LeO.ite ?_ ?_)
      | (with_reducible refine LeO.bind ?_ (fun _ => ?_))
      | exact ih0 _ _ _ _ _ _ _
      | exact ih1 _ _ _ _ _ _ _ _ _ _ _ _
      | exact key_Make.mono _ _ _ _
      | exact screelaw02_awake.mono _
      | exact LeO.none _
      | refine LeO.ite ?_ ?_
      | refine LeO.bind ?_ (fun _ => ?_)
set_option maxHeartbeats 8000000 in
set_option maxRecDepth 100000 in
theorem screelaw02_KeyBounds.calls (k : Nat) (a0_0 : Int) (a0_1 : ByteArray) (a0_2 : Int) (a1_0 : Int) (a1_1 : ByteArray) (a1_2 : Int) (r : Bool) (w : World) (h : screelaw02_KeyBounds.f k a0_0 a0_1 a0_2 a1_0 a1_1 a1_2 = some r) :
    Calls Try.prog 7 #[.agg #[.int .i64 a0_0, .string a0_1, .int .u64 a0_2], .agg #[.int .i64 a1_0, .string a1_1, .int .u64 a1_2]] w fun e w' => e = .returned (.bool r) ∧ Below w.heap.size w w' := by
  have hu24 := Try.underlying24
  have HB := Aside0.mk (Below.refl w.heap.size w)
  have H : ((screelaw02_awake.f k).bind fun t273 => (if t273 = true then (if (a0_1.size : Int) > 1024 then (screelaw02_KeyBounds.j0 k true a0_0 a0_1 a0_2 a1_0 a1_1 a1_2) else (screelaw02_KeyBounds.j0 k (decide ((a1_1.size : Int) > 1024)) a0_0 a0_1 a0_2 a1_0 a1_1 a1_2)) else (none))) = some r := h
  clear h
  replace H := Option.bind_eq_some_iff.mp H
  obtain ⟨t273, A30, H⟩ := H
  replace H : (if t273 = true then (if (a0_1.size : Int) > 1024 then (screelaw02_KeyBounds.j0 k true a0_0 a0_1 a0_2 a1_0 a1_1 a1_2) else (screelaw02_KeyBounds.j0 k (decide ((a1_1.size : Int) > 1024)) a0_0 a0_1 a0_2 a1_0 a1_1 a1_2)) else (none)) = some r := H
  have A3 := Aside0.mk A30
  clear A30
  by_cases c4 : t273 = true
  · subst c4
    have H1 : (if (a0_1.size : Int) > 1024 then (screelaw02_KeyBounds.j0 k true a0_0 a0_1 a0_2 a1_0 a1_1 a1_2) else (screelaw02_KeyBounds.j0 k (decide ((a1_1.size : Int) > 1024)) a0_0 a0_1 a0_2 a1_0 a1_1 a1_2)) = some r := by rw [if_pos rfl] at H; exact H
    clear H
    have H := H1
    clear H1
    have HC5 := Aside0.mk H
    clear H
    go_enter Try.func7, Try.ntmps7
    go_upto_region 3 with (first | ((with_reducible refine gate_dst (N := 2) rfl ?_); (try (refine gate_guard (by rfl) ?_; dsimp only)); refine box_event ?hg (N := 2) ?hd (cs := #[.int .i64 a0_0, .string a0_1, .int .u64 a0_2]) (t := 24) ?hr ?_; (case hd => rfl); (case hg => rfl); (case hr => first | (go_simp; done) | (go_simp; rfl)); intro gb271 hg w6 hbox hb; have n0_ := Aside0.mk (below_step (by repeat (first | (with_reducible first | exact HB.out | apply below_alloc | apply pw_below_drewN | apply below_drew1) | exact HB.out)) hb); have n1_ := Aside0.mk (hbox); have n2_ := Aside0.mk ((by rw [hg]; exact (below_size (by repeat (first | (with_reducible first | exact HB.out | apply below_alloc | apply pw_below_drewN | apply below_drew1) | exact HB.out))) : w.heap.size ≤ gb271)); have n3_ := Aside0.mk ((by rw [hg]; exact (below_size (by repeat (first | (with_reducible first | exact HB.out | apply below_alloc | apply pw_below_drewN | apply below_drew1) | exact HB.out))) : w.heap.size ≤ gb271)); clear HB; have HB := n0_; have BK271 := n1_; have GW271 := n2_; have GE271 := n3_; clear n0_ n1_ n2_ n3_; clear hb hbox hg) | ((with_reducible refine gate_dst (N := 3) rfl ?_); (try (refine gate_guard (by rfl) ?_; dsimp only)); refine box_event ?hg (N := 3) ?hd (cs := #[.int .i64 a1_0, .string a1_1, .int .u64 a1_2]) (t := 24) ?hr ?_; (case hd => rfl); (case hg => rfl); (case hr => first | (go_simp; done) | (go_simp; rfl)); intro gb272 hg w7 hbox hb; have n0_ := Aside0.mk (blk_below (g := gb271) (o := .cells #[.int .i64 a0_0, .string a0_1, .int .u64 a0_2] 24 (0, 0)) (by (with_reducible repeat (first | refine blk_drewN ?_ _ | refine blk_drew ?_ | refine blk_alloc ?_ _)); exact BK271.out) hb); have n1_ := Aside0.mk (below_step (by repeat (first | (with_reducible first | exact HB.out | apply below_alloc | apply pw_below_drewN | apply below_drew1 | refine below_set ?_ GE271.out) | exact HB.out)) hb); have n2_ := Aside0.mk (hbox); have n3_ := Aside0.mk ((by rw [hg]; exact (below_size (by repeat (first | (with_reducible first | exact HB.out | apply below_alloc | apply pw_below_drewN | apply below_drew1 | refine below_set ?_ GE271.out) | exact HB.out))) : w.heap.size ≤ gb272)); have n4_ := Aside0.mk ((by rw [hg]; exact (below_size (by repeat (first | (with_reducible first | exact HB.out | apply below_alloc | apply pw_below_drewN | apply below_drew1 | refine below_set ?_ GE271.out) | exact HB.out))) : w.heap.size ≤ gb272)); have n5_ := Aside0.mk ((by rw [hg]; exact Nat.ne_of_lt (blk_lt (g := gb271) (o := .cells #[.int .i64 a0_0, .string a0_1, .int .u64 a0_2] 24 (0, 0)) (by (with_reducible repeat (first | refine blk_drewN ?_ _ | refine blk_drew ?_ | refine blk_alloc ?_ _)); exact BK271.out)) : gb271 ≠ gb272)); have n6_ := Aside0.mk ((by rw [hg]; exact Nat.ne_of_gt (blk_lt (g := gb271) (o := .cells #[.int .i64 a0_0, .string a0_1, .int .u64 a0_2] 24 (0, 0)) (by (with_reducible repeat (first | refine blk_drewN ?_ _ | refine blk_drew ?_ | refine blk_alloc ?_ _)); exact BK271.out)) : gb272 ≠ gb271)); clear BK271; clear HB; have BK271 := n0_; have HB := n1_; have BK272 := n2_; have GW272 := n3_; have GE272 := n4_; have NB271_272 := n5_; have NB272_271 := n6_; clear n0_ n1_ n2_ n3_ n4_ n5_ n6_; clear hb hbox hg) | ((with_reducible refine gate_callee (f := 10) rfl ?_); refine goesL_ (some 14) rfl rfl Try.func10 (by kernel_rfl) rfl #[] rfl (by (try simp only [List.map_toArray, List.map_cons, List.map_nil]); first | done | rfl | (simp only [List.length_drop, List.length_take]; rfl) | (simp (disch := omega) only [IntWalk.u64_in, IntWalk.i64_in, IntWalk.u8_in]; rfl)) ?_; (with_reducible refine (screelaw02_awake.calls k  true _ A3.out).mono ?_); rintro e w8 ⟨rfl, hb⟩; refine ⟨_, rfl, ?_⟩; have n0_ := Aside0.mk (blk_below (g := gb271) (o := .cells #[.int .i64 a0_0, .string a0_1, .int .u64 a0_2] 24 (0, 0)) (by (with_reducible repeat (first | refine blk_drewN ?_ _ | refine blk_drew ?_ | refine blk_alloc ?_ _)); exact BK271.out) hb); have n1_ := Aside0.mk (blk_below (g := gb272) (o := .cells #[.int .i64 a1_0, .string a1_1, .int .u64 a1_2] 24 (0, 0)) (by (with_reducible repeat (first | refine blk_drewN ?_ _ | refine blk_drew ?_ | refine blk_alloc ?_ _)); exact BK272.out) hb); have n2_ := Aside0.mk (below_step (by repeat (first | (with_reducible first | exact HB.out | apply below_alloc | apply pw_below_drewN | apply below_drew1 | refine below_set ?_ GE271.out | refine below_set ?_ GE272.out) | exact HB.out)) hb); clear BK271; clear BK272; clear HB; have BK271 := n0_; have BK272 := n1_; have HB := n2_; clear n0_ n1_ n2_; (try clear hb); (try clear hb2); (try clear hk); (try clear hi); (try clear A3)))
    (try simp only [Act.put, List.setIfInBounds_toArray, List.set_cons_zero, List.set_cons_succ])
    go_cut [25] (fun v25 wc => ∃ (kq : Nat) (x25_4 : Bool), v25 = .bool x25_4 ∧ Aside0 (screelaw02_KeyBounds.j0 kq x25_4 a0_0 a0_1 a0_2 a1_0 a1_1 a1_2 = some r) ∧ Aside0 (kq ≤ k) ∧ Aside0 (wc.heap[gb271]? = some (.cells #[.int .i64 a0_0, .string a0_1, .int .u64 a0_2] 24 (0, 0))) ∧ Aside0 (wc.heap[gb272]? = some (.cells #[.int .i64 a1_0, .string a1_1, .int .u64 a1_2] 24 (0, 0))) ∧ Aside0 (Below w.heap.size w wc))
    case first =>
      have H := HC5.out
      clear HC5
      by_cases c9 : (a0_1.size : Int) > 1024
      · rw [if_pos c9] at H
        have c9b0 : decide (1024 < (a0_1.size : Int)) = true := decide_eq_true c9
        have c9b1 : decide (1024 < a0_1.size) = true := decide_eq_true (by omega)
        clear c9
        (first | rw [c9b0] | (simp only [i64_w, i32_w]; rw [c9b0]) | skip)
        have H' := Aside0.mk H
        clear H
        have hnb10 := NB271_272.out
        have hnc10 := NB272_271.out
        have hcz11_0 : w8.cell? ⟨gb271, 0, none⟩ = some (.int .i64 a0_0) := (blk_cell BK271.out 0).trans rfl
        have hcz11_1 : w8.cell? ⟨gb271, 1, none⟩ = some (.string a0_1) := (blk_cell BK271.out 1).trans rfl
        have hcz11_2 : w8.cell? ⟨gb271, 2, none⟩ = some (.int .u64 a0_2) := (blk_cell BK271.out 2).trans rfl
        have hfz11_0 := blk_frozen BK271.out 0
        have hfz11_1 := blk_frozen BK271.out 1
        have hfz11_2 := blk_frozen BK271.out 2
        go_wp2
        go_meet
        case rel => exact ⟨_, (true), (by first | rfl | (simp; done) | (simp [*]; done)), (by first | (with_reducible exact H') | exact H' | (subst_vars; exact H')), ⟨by first | omega | exact Nat.le_refl _⟩, ⟨by (with_reducible repeat (first | refine blk_drewN ?_ _ | refine blk_drew ?_ | refine blk_alloc ?_ _)); exact BK271.out⟩, ⟨by (with_reducible repeat (first | refine blk_drewN ?_ _ | refine blk_drew ?_ | refine blk_alloc ?_ _)); exact BK272.out⟩, ⟨by repeat (first | (with_reducible first | exact HB.out | apply below_alloc | apply pw_below_drewN | apply below_drew1 | refine below_set ?_ GE271.out | refine below_set ?_ GE272.out) | exact HB.out)⟩⟩
      · rw [if_neg c9] at H
        have c9b0 : decide (1024 < (a0_1.size : Int)) = false := decide_eq_false c9
        have c9b1 : decide (1024 < a0_1.size) = false := decide_eq_false (by omega)
        clear c9
        (first | rw [c9b0] | (simp only [i64_w, i32_w]; rw [c9b0]) | skip)
        have H' := Aside0.mk H
        clear H
        have hnb12 := NB271_272.out
        have hnc12 := NB272_271.out
        have hcz13_0 : w8.cell? ⟨gb271, 0, none⟩ = some (.int .i64 a0_0) := (blk_cell BK271.out 0).trans rfl
        have hcz13_1 : w8.cell? ⟨gb271, 1, none⟩ = some (.string a0_1) := (blk_cell BK271.out 1).trans rfl
        have hcz13_2 : w8.cell? ⟨gb271, 2, none⟩ = some (.int .u64 a0_2) := (blk_cell BK271.out 2).trans rfl
        have hfz13_0 := blk_frozen BK271.out 0
        have hfz13_1 := blk_frozen BK271.out 1
        have hfz13_2 := blk_frozen BK271.out 2
        have hcz14_0 : w8.cell? ⟨gb272, 0, none⟩ = some (.int .i64 a1_0) := (blk_cell BK272.out 0).trans rfl
        have hcz14_1 : w8.cell? ⟨gb272, 1, none⟩ = some (.string a1_1) := (blk_cell BK272.out 1).trans rfl
        have hcz14_2 : w8.cell? ⟨gb272, 2, none⟩ = some (.int .u64 a1_2) := (blk_cell BK272.out 2).trans rfl
        have hfz14_0 := blk_frozen BK272.out 0
        have hfz14_1 := blk_frozen BK272.out 1
        have hfz14_2 := blk_frozen BK272.out 2
        go_wp2
        go_meet
        case rel => exact ⟨_, (decide ((a1_1.size : Int) > 1024)), (by first | rfl | (simp; done) | (simp [*]; done)), (by first | (with_reducible exact H') | exact H' | (subst_vars; exact H')), ⟨by first | omega | exact Nat.le_refl _⟩, ⟨by (with_reducible repeat (first | refine blk_drewN ?_ _ | refine blk_drew ?_ | refine blk_alloc ?_ _)); exact BK271.out⟩, ⟨by (with_reducible repeat (first | refine blk_drewN ?_ _ | refine blk_drew ?_ | refine blk_alloc ?_ _)); exact BK272.out⟩, ⟨by repeat (first | (with_reducible first | exact HB.out | apply below_alloc | apply pw_below_drewN | apply below_drew1 | refine below_set ?_ GE271.out | refine below_set ?_ GE272.out) | exact HB.out)⟩⟩
    case rest =>
      clear HC5
      try clear c1
      try clear p2
      try clear c4
      try clear c7
      try clear c9
      try clear c9b0
      try clear c9b1
      try clear c10
      try clear c12
      try clear hcz11_0
      try clear hcz11_1
      try clear hcz11_2
      try clear hcz13_0
      try clear hcz13_1
      try clear hcz13_2
      try clear hcz14_0
      try clear hcz14_1
      try clear hcz14_2
      try clear hfz11_0
      try clear hfz11_1
      try clear hfz11_2
      try clear hfz13_0
      try clear hfz13_1
      try clear hfz13_2
      try clear hfz14_0
      try clear hfz14_1
      try clear hfz14_2
      obtain ⟨kq, x25_4, rfl, HA, HJ4, BK271, BK272, HB⟩ := hcut
      cases kq with
      | zero => exact absurd HA.out (by simp [screelaw02_KeyBounds.j0])
      | succ kj4 =>
        have H := HA.out
        clear HA
        simp only [screelaw02_KeyBounds.j0] at H
        by_cases c15 : x25_4 = true
        · subst c15
          have H1 : (some true) = some r := by rw [if_pos rfl] at H; exact H
          clear H
          have H := H1
          clear H1
          obtain rfl := Option.some.inj H
          go_wp2
          go_ret
          exact ⟨by first | rfl | (simp [errW_none, errW_some] <;> rfl) | (simp (disch := omega) only [← i64_w, IntWalk.i64_in]; rfl) | (simp [*, errW_none, errW_some] <;> rfl), by repeat (first | (with_reducible first | exact HB.out | apply below_alloc | apply pw_below_drewN | apply below_drew1 | refine below_set ?_ GE271.out | refine below_set ?_ GE272.out) | exact HB.out)⟩
        · replace c15 := Bool.eq_false_iff.mpr c15
          subst c15
          have H1 : ((key_First.f a0_0 a0_1).bind fun bt274 => ((key_Behind.f a0_0 a0_1).bind fun bt276 => ((key_Family.f a0_0).bind fun bt278 => (if a0_0 ≥ 1 then (if ((bt278.2.2 == 0) != (decide (a0_0 ≤ 4))) = true then (screelaw02_KeyBounds.j1 kj4 bt274.1 bt274.2 bt276.1 bt278.1 bt278.2.1 true a0_0 a0_1 a0_2 a1_0 a1_1 a1_2) else (screelaw02_KeyBounds.j1 kj4 bt274.1 bt274.2 bt276.1 bt278.1 bt278.2.1 (bt274.2 != bt276.2) a0_0 a0_1 a0_2 a1_0 a1_1 a1_2)) else (if ((bt278.2.2 == 0) != false) = true then (screelaw02_KeyBounds.j1 kj4 bt274.1 bt274.2 bt276.1 bt278.1 bt278.2.1 true a0_0 a0_1 a0_2 a1_0 a1_1 a1_2) else (screelaw02_KeyBounds.j1 kj4 bt274.1 bt274.2 bt276.1 bt278.1 bt278.2.1 (bt274.2 != bt276.2) a0_0 a0_1 a0_2 a1_0 a1_1 a1_2)))))) = some r := by rw [if_neg (show ¬ (false = true) by decide)] at H; exact H
          clear H
          have H := H1
          clear H1
          replace H := Option.bind_eq_some_iff.mp H
          obtain ⟨⟨t274, t275⟩, A160, H⟩ := H
          replace H : ((key_Behind.f a0_0 a0_1).bind fun bt276 => ((key_Family.f a0_0).bind fun bt278 => (if a0_0 ≥ 1 then (if ((bt278.2.2 == 0) != (decide (a0_0 ≤ 4))) = true then (screelaw02_KeyBounds.j1 kj4 t274 t275 bt276.1 bt278.1 bt278.2.1 true a0_0 a0_1 a0_2 a1_0 a1_1 a1_2) else (screelaw02_KeyBounds.j1 kj4 t274 t275 bt276.1 bt278.1 bt278.2.1 (t275 != bt276.2) a0_0 a0_1 a0_2 a1_0 a1_1 a1_2)) else (if ((bt278.2.2 == 0) != false) = true then (screelaw02_KeyBounds.j1 kj4 t274 t275 bt276.1 bt278.1 bt278.2.1 true a0_0 a0_1 a0_2 a1_0 a1_1 a1_2) else (screelaw02_KeyBounds.j1 kj4 t274 t275 bt276.1 bt278.1 bt278.2.1 (t275 != bt276.2) a0_0 a0_1 a0_2 a1_0 a1_1 a1_2))))) = some r := H
          have A16 := Aside0.mk A160
          clear A160
          replace H := Option.bind_eq_some_iff.mp H
          obtain ⟨⟨t276, t277⟩, A170, H⟩ := H
          replace H : ((key_Family.f a0_0).bind fun bt278 => (if a0_0 ≥ 1 then (if ((bt278.2.2 == 0) != (decide (a0_0 ≤ 4))) = true then (screelaw02_KeyBounds.j1 kj4 t274 t275 t276 bt278.1 bt278.2.1 true a0_0 a0_1 a0_2 a1_0 a1_1 a1_2) else (screelaw02_KeyBounds.j1 kj4 t274 t275 t276 bt278.1 bt278.2.1 (t275 != t277) a0_0 a0_1 a0_2 a1_0 a1_1 a1_2)) else (if ((bt278.2.2 == 0) != false) = true then (screelaw02_KeyBounds.j1 kj4 t274 t275 t276 bt278.1 bt278.2.1 true a0_0 a0_1 a0_2 a1_0 a1_1 a1_2) else (screelaw02_KeyBounds.j1 kj4 t274 t275 t276 bt278.1 bt278.2.1 (t275 != t277) a0_0 a0_1 a0_2 a1_0 a1_1 a1_2)))) = some r := H
          have A17 := Aside0.mk A170
          clear A170
          replace H := Option.bind_eq_some_iff.mp H
          obtain ⟨⟨t278, t279, t280⟩, A180, H⟩ := H
          replace H : (if a0_0 ≥ 1 then (if ((t280 == 0) != (decide (a0_0 ≤ 4))) = true then (screelaw02_KeyBounds.j1 kj4 t274 t275 t276 t278 t279 true a0_0 a0_1 a0_2 a1_0 a1_1 a1_2) else (screelaw02_KeyBounds.j1 kj4 t274 t275 t276 t278 t279 (t275 != t277) a0_0 a0_1 a0_2 a1_0 a1_1 a1_2)) else (if ((t280 == 0) != false) = true then (screelaw02_KeyBounds.j1 kj4 t274 t275 t276 t278 t279 true a0_0 a0_1 a0_2 a1_0 a1_1 a1_2) else (screelaw02_KeyBounds.j1 kj4 t274 t275 t276 t278 t279 (t275 != t277) a0_0 a0_1 a0_2 a1_0 a1_1 a1_2))) = some r := H
          have A18 := Aside0.mk A180
          clear A180
          have HC19 := Aside0.mk H
          clear H
          have hnb20 := NB271_272.out
          have hnc20 := NB272_271.out
          have hcz21_0 : wc.cell? ⟨gb271, 0, none⟩ = some (.int .i64 a0_0) := (blk_cell BK271.out 0).trans rfl
          have hcz21_1 : wc.cell? ⟨gb271, 1, none⟩ = some (.string a0_1) := (blk_cell BK271.out 1).trans rfl
          have hcz21_2 : wc.cell? ⟨gb271, 2, none⟩ = some (.int .u64 a0_2) := (blk_cell BK271.out 2).trans rfl
          have hfz21_0 := blk_frozen BK271.out 0
          have hfz21_1 := blk_frozen BK271.out 1
          have hfz21_2 := blk_frozen BK271.out 2
          go_upto_region 8 with (first | ((with_reducible refine gate_callee (f := 16) rfl ?_); refine goesL_ (some 31) rfl rfl Try.func16 (by kernel_rfl) rfl #[.int .i64 a0_0, .string a0_1] rfl (by (try simp only [List.map_toArray, List.map_cons, List.map_nil]); first | done | rfl | (simp only [List.length_drop, List.length_take]; rfl) | (simp (disch := omega) only [IntWalk.u64_in, IntWalk.i64_in, IntWalk.u8_in]; rfl)) ?_; (with_reducible refine (key_First.calls a0_0 a0_1 t274 t275 _ A16.out).mono ?_); rintro e w22 ⟨rfl, hb⟩; refine ⟨_, rfl, ?_⟩; have n0_ := Aside0.mk (blk_below (g := gb271) (o := .cells #[.int .i64 a0_0, .string a0_1, .int .u64 a0_2] 24 (0, 0)) (by (with_reducible repeat (first | refine blk_drewN ?_ _ | refine blk_drew ?_ | refine blk_alloc ?_ _)); exact BK271.out) hb); have n1_ := Aside0.mk (blk_below (g := gb272) (o := .cells #[.int .i64 a1_0, .string a1_1, .int .u64 a1_2] 24 (0, 0)) (by (with_reducible repeat (first | refine blk_drewN ?_ _ | refine blk_drew ?_ | refine blk_alloc ?_ _)); exact BK272.out) hb); have n2_ := Aside0.mk (below_step (by repeat (first | (with_reducible first | exact HB.out | apply below_alloc | apply pw_below_drewN | apply below_drew1 | refine below_set ?_ GE271.out | refine below_set ?_ GE272.out) | exact HB.out)) hb); clear BK271; clear BK272; clear HB; have BK271 := n0_; have BK272 := n1_; have HB := n2_; clear n0_ n1_ n2_; (try clear hb); (try clear hb2); (try clear hk); (try clear hi); (try clear A16); have hcz23_0 : w22.cell? ⟨gb271, 0, none⟩ = some (.int .i64 a0_0) := (blk_cell BK271.out 0).trans rfl; have hcz23_1 : w22.cell? ⟨gb271, 1, none⟩ = some (.string a0_1) := (blk_cell BK271.out 1).trans rfl; have hcz23_2 : w22.cell? ⟨gb271, 2, none⟩ = some (.int .u64 a0_2) := (blk_cell BK271.out 2).trans rfl; have hfz23_0 := blk_frozen BK271.out 0; have hfz23_1 := blk_frozen BK271.out 1; have hfz23_2 := blk_frozen BK271.out 2) | ((with_reducible refine gate_callee (f := 18) rfl ?_); refine goesL_ (some 39) rfl rfl Try.func18 (by kernel_rfl) rfl #[.int .i64 a0_0, .string a0_1] rfl (by (try simp only [List.map_toArray, List.map_cons, List.map_nil]); first | done | rfl | (simp only [List.length_drop, List.length_take]; rfl) | (simp (disch := omega) only [IntWalk.u64_in, IntWalk.i64_in, IntWalk.u8_in]; rfl)) ?_; (with_reducible refine (key_Behind.calls a0_0 a0_1 t276 t277 _ A17.out).mono ?_); rintro e w24 ⟨rfl, hb⟩; refine ⟨_, rfl, ?_⟩; have n0_ := Aside0.mk (blk_below (g := gb271) (o := .cells #[.int .i64 a0_0, .string a0_1, .int .u64 a0_2] 24 (0, 0)) (by (with_reducible repeat (first | refine blk_drewN ?_ _ | refine blk_drew ?_ | refine blk_alloc ?_ _)); exact BK271.out) hb); have n1_ := Aside0.mk (blk_below (g := gb272) (o := .cells #[.int .i64 a1_0, .string a1_1, .int .u64 a1_2] 24 (0, 0)) (by (with_reducible repeat (first | refine blk_drewN ?_ _ | refine blk_drew ?_ | refine blk_alloc ?_ _)); exact BK272.out) hb); have n2_ := Aside0.mk (below_step (by repeat (first | (with_reducible first | exact HB.out | apply below_alloc | apply pw_below_drewN | apply below_drew1 | refine below_set ?_ GE271.out | refine below_set ?_ GE272.out) | exact HB.out)) hb); clear BK271; clear BK272; clear HB; have BK271 := n0_; have BK272 := n1_; have HB := n2_; clear n0_ n1_ n2_; (try clear hb); (try clear hb2); (try clear hk); (try clear hi); (try clear A17); have hcz25_0 : w24.cell? ⟨gb271, 0, none⟩ = some (.int .i64 a0_0) := (blk_cell BK271.out 0).trans rfl; have hcz25_1 : w24.cell? ⟨gb271, 1, none⟩ = some (.string a0_1) := (blk_cell BK271.out 1).trans rfl; have hcz25_2 : w24.cell? ⟨gb271, 2, none⟩ = some (.int .u64 a0_2) := (blk_cell BK271.out 2).trans rfl; have hfz25_0 := blk_frozen BK271.out 0; have hfz25_1 := blk_frozen BK271.out 1; have hfz25_2 := blk_frozen BK271.out 2) | ((with_reducible refine gate_callee (f := 26) rfl ?_); refine goesL_ (some 45) rfl rfl Try.func26 (by kernel_rfl) rfl #[.int .i64 a0_0] rfl (by (try simp only [List.map_toArray, List.map_cons, List.map_nil]); first | done | rfl | (simp only [List.length_drop, List.length_take]; rfl) | (simp (disch := omega) only [IntWalk.u64_in, IntWalk.i64_in, IntWalk.u8_in]; rfl)) ?_; (with_reducible refine (key_Family.calls a0_0 t278 t279 t280 _ A18.out).mono ?_); rintro e w26 ⟨rfl, hb⟩; refine ⟨_, rfl, ?_⟩; have n0_ := Aside0.mk (blk_below (g := gb271) (o := .cells #[.int .i64 a0_0, .string a0_1, .int .u64 a0_2] 24 (0, 0)) (by (with_reducible repeat (first | refine blk_drewN ?_ _ | refine blk_drew ?_ | refine blk_alloc ?_ _)); exact BK271.out) hb); have n1_ := Aside0.mk (blk_below (g := gb272) (o := .cells #[.int .i64 a1_0, .string a1_1, .int .u64 a1_2] 24 (0, 0)) (by (with_reducible repeat (first | refine blk_drewN ?_ _ | refine blk_drew ?_ | refine blk_alloc ?_ _)); exact BK272.out) hb); have n2_ := Aside0.mk (below_step (by repeat (first | (with_reducible first | exact HB.out | apply below_alloc | apply pw_below_drewN | apply below_drew1 | refine below_set ?_ GE271.out | refine below_set ?_ GE272.out) | exact HB.out)) hb); clear BK271; clear BK272; clear HB; have BK271 := n0_; have BK272 := n1_; have HB := n2_; clear n0_ n1_ n2_; (try clear hb); (try clear hb2); (try clear hk); (try clear hi); (try clear A18)))
          (try simp only [Act.put, List.setIfInBounds_toArray, List.set_cons_zero, List.set_cons_succ])
          go_cut [64] (fun v64 wc => ∃ (kq : Nat) (x64_18 : Bool), v64 = .bool x64_18 ∧ Aside0 (screelaw02_KeyBounds.j1 kq t274 t275 t276 t278 t279 x64_18 a0_0 a0_1 a0_2 a1_0 a1_1 a1_2 = some r) ∧ Aside0 (kq ≤ kj4) ∧ Aside0 (wc.heap[gb271]? = some (.cells #[.int .i64 a0_0, .string a0_1, .int .u64 a0_2] 24 (0, 0))) ∧ Aside0 (wc.heap[gb272]? = some (.cells #[.int .i64 a1_0, .string a1_1, .int .u64 a1_2] 24 (0, 0))) ∧ Aside0 (Below w.heap.size w wc))
          case first =>
            have H := HC19.out
            clear HC19
            by_cases c27 : a0_0 ≥ 1
            · rw [if_pos c27] at H
              have c27b0 : decide (1 ≤ a0_0) = true := decide_eq_true c27
              clear c27
              (first | rw [c27b0] | (simp only [i64_w, i32_w]; rw [c27b0]) | skip)
              by_cases c28 : ((t280 == 0) != (decide (a0_0 ≤ 4))) = true
              · rw [if_pos c28] at H
                have c28b0 : ((t280 == 0) != (decide (a0_0 ≤ 4))) = true := c28
                (try (have c28b1 : decide ((t280 == 0) = (decide (a0_0 ≤ 4))) = false := by simpa using c28))
                (try (have c28b2 : ((t280 == 0) == (decide (a0_0 ≤ 4))) = false := by simpa using c28))
                (try (have c28b3 : ¬ ((t280 == 0) = (decide (a0_0 ≤ 4))) := by simpa using c28))
                clear c28
                have H' := Aside0.mk H
                clear H
                have hnb29 := NB271_272.out
                have hnc29 := NB272_271.out
                have hcz30_0 : w26.cell? ⟨gb271, 0, none⟩ = some (.int .i64 a0_0) := (blk_cell BK271.out 0).trans rfl
                have hcz30_1 : w26.cell? ⟨gb271, 1, none⟩ = some (.string a0_1) := (blk_cell BK271.out 1).trans rfl
                have hcz30_2 : w26.cell? ⟨gb271, 2, none⟩ = some (.int .u64 a0_2) := (blk_cell BK271.out 2).trans rfl
                have hfz30_0 := blk_frozen BK271.out 0
                have hfz30_1 := blk_frozen BK271.out 1
                have hfz30_2 := blk_frozen BK271.out 2
                go_wp2
                go_meet
                case rel => exact ⟨_, (true), (by first | rfl | (simp; done) | (simp [*]; done)), (by first | (with_reducible exact H') | exact H' | (subst_vars; exact H')), ⟨by have := HJ4.out; first | omega | exact Nat.le_refl _⟩, ⟨by (with_reducible repeat (first | refine blk_drewN ?_ _ | refine blk_drew ?_ | refine blk_alloc ?_ _)); exact BK271.out⟩, ⟨by (with_reducible repeat (first | refine blk_drewN ?_ _ | refine blk_drew ?_ | refine blk_alloc ?_ _)); exact BK272.out⟩, ⟨by repeat (first | (with_reducible first | exact HB.out | apply below_alloc | apply pw_below_drewN | apply below_drew1 | refine below_set ?_ GE271.out | refine below_set ?_ GE272.out) | exact HB.out)⟩⟩
              · rw [if_neg c28] at H
                have c28b0 : ((t280 == 0) != (decide (a0_0 ≤ 4))) = false := by simpa using c28
                (try (have c28b1 : decide ((t280 == 0) = (decide (a0_0 ≤ 4))) = true := by simpa using c28))
                (try (have c28b2 : ((t280 == 0) == (decide (a0_0 ≤ 4))) = true := by simpa using c28))
                clear c28
                have H' := Aside0.mk H
                clear H
                have hnb31 := NB271_272.out
                have hnc31 := NB272_271.out
                have hcz32_0 : w26.cell? ⟨gb271, 0, none⟩ = some (.int .i64 a0_0) := (blk_cell BK271.out 0).trans rfl
                have hcz32_1 : w26.cell? ⟨gb271, 1, none⟩ = some (.string a0_1) := (blk_cell BK271.out 1).trans rfl
                have hcz32_2 : w26.cell? ⟨gb271, 2, none⟩ = some (.int .u64 a0_2) := (blk_cell BK271.out 2).trans rfl
                have hfz32_0 := blk_frozen BK271.out 0
                have hfz32_1 := blk_frozen BK271.out 1
                have hfz32_2 := blk_frozen BK271.out 2
                go_wp2
                go_meet
                case rel => exact ⟨_, ((t275 != t277)), (by first | rfl | (simp; done) | (simp [*]; done)), (by first | (with_reducible exact H') | exact H' | (subst_vars; exact H')), ⟨by have := HJ4.out; first | omega | exact Nat.le_refl _⟩, ⟨by (with_reducible repeat (first | refine blk_drewN ?_ _ | refine blk_drew ?_ | refine blk_alloc ?_ _)); exact BK271.out⟩, ⟨by (with_reducible repeat (first | refine blk_drewN ?_ _ | refine blk_drew ?_ | refine blk_alloc ?_ _)); exact BK272.out⟩, ⟨by repeat (first | (with_reducible first | exact HB.out | apply below_alloc | apply pw_below_drewN | apply below_drew1 | refine below_set ?_ GE271.out | refine below_set ?_ GE272.out) | exact HB.out)⟩⟩
            · rw [if_neg c27] at H
              have c27b0 : decide (1 ≤ a0_0) = false := decide_eq_false c27
              clear c27
              (first | rw [c27b0] | (simp only [i64_w, i32_w]; rw [c27b0]) | skip)
              by_cases c33 : ((t280 == 0) != false) = true
              · rw [if_pos c33] at H
                have c33b0 : ((t280 == 0) != false) = true := c33
                (try (have c33b1 : decide ((t280 == 0) = false) = false := by simpa using c33))
                (try (have c33b2 : ((t280 == 0) == false) = false := by simpa using c33))
                (try (have c33b3 : ¬ ((t280 == 0) = false) := by simpa using c33))
                clear c33
                have H' := Aside0.mk H
                clear H
                have hnb34 := NB271_272.out
                have hnc34 := NB272_271.out
                have hcz35_0 : w26.cell? ⟨gb271, 0, none⟩ = some (.int .i64 a0_0) := (blk_cell BK271.out 0).trans rfl
                have hcz35_1 : w26.cell? ⟨gb271, 1, none⟩ = some (.string a0_1) := (blk_cell BK271.out 1).trans rfl
                have hcz35_2 : w26.cell? ⟨gb271, 2, none⟩ = some (.int .u64 a0_2) := (blk_cell BK271.out 2).trans rfl
                have hfz35_0 := blk_frozen BK271.out 0
                have hfz35_1 := blk_frozen BK271.out 1
                have hfz35_2 := blk_frozen BK271.out 2
                go_wp2
                go_meet
                case rel => exact ⟨_, (true), (by first | rfl | (simp; done) | (simp [*]; done)), (by first | (with_reducible exact H') | exact H' | (subst_vars; exact H')), ⟨by have := HJ4.out; first | omega | exact Nat.le_refl _⟩, ⟨by (with_reducible repeat (first | refine blk_drewN ?_ _ | refine blk_drew ?_ | refine blk_alloc ?_ _)); exact BK271.out⟩, ⟨by (with_reducible repeat (first | refine blk_drewN ?_ _ | refine blk_drew ?_ | refine blk_alloc ?_ _)); exact BK272.out⟩, ⟨by repeat (first | (with_reducible first | exact HB.out | apply below_alloc | apply pw_below_drewN | apply below_drew1 | refine below_set ?_ GE271.out | refine below_set ?_ GE272.out) | exact HB.out)⟩⟩
              · rw [if_neg c33] at H
                have c33b0 : ((t280 == 0) != false) = false := by simpa using c33
                (try (have c33b1 : decide ((t280 == 0) = false) = true := by simpa using c33))
                (try (have c33b2 : ((t280 == 0) == false) = true := by simpa using c33))
                clear c33
                have H' := Aside0.mk H
                clear H
                have hnb36 := NB271_272.out
                have hnc36 := NB272_271.out
                have hcz37_0 : w26.cell? ⟨gb271, 0, none⟩ = some (.int .i64 a0_0) := (blk_cell BK271.out 0).trans rfl
                have hcz37_1 : w26.cell? ⟨gb271, 1, none⟩ = some (.string a0_1) := (blk_cell BK271.out 1).trans rfl
                have hcz37_2 : w26.cell? ⟨gb271, 2, none⟩ = some (.int .u64 a0_2) := (blk_cell BK271.out 2).trans rfl
                have hfz37_0 := blk_frozen BK271.out 0
                have hfz37_1 := blk_frozen BK271.out 1
                have hfz37_2 := blk_frozen BK271.out 2
                go_wp2
                go_meet
                case rel => exact ⟨_, ((t275 != t277)), (by first | rfl | (simp; done) | (simp [*]; done)), (by first | (with_reducible exact H') | exact H' | (subst_vars; exact H')), ⟨by have := HJ4.out; first | omega | exact Nat.le_refl _⟩, ⟨by (with_reducible repeat (first | refine blk_drewN ?_ _ | refine blk_drew ?_ | refine blk_alloc ?_ _)); exact BK271.out⟩, ⟨by (with_reducible repeat (first | refine blk_drewN ?_ _ | refine blk_drew ?_ | refine blk_alloc ?_ _)); exact BK272.out⟩, ⟨by repeat (first | (with_reducible first | exact HB.out | apply below_alloc | apply pw_below_drewN | apply below_drew1 | refine below_set ?_ GE271.out | refine below_set ?_ GE272.out) | exact HB.out)⟩⟩
          case rest =>
            clear HC19
            try clear c1
            try clear c2
            try clear p2
            try clear c3
            try clear c4
            try clear c7
            try clear c9
            try clear c9b0
            try clear c9b1
            try clear c10
            try clear c12
            try clear c15
            try clear c16
            try clear c18
            try clear c20
            try clear c26
            try clear c27
            try clear c27b0
            try clear c28
            try clear c28b0
            try clear c28b1
            try clear c28b2
            try clear c29
            try clear c31
            try clear c33
            try clear c33b0
            try clear c33b1
            try clear c33b2
            try clear c34
            try clear c36
            try clear hcz11_0
            try clear hcz11_1
            try clear hcz11_2
            try clear hcz13_0
            try clear hcz13_1
            try clear hcz13_2
            try clear hcz14_0
            try clear hcz14_1
            try clear hcz14_2
            try clear hcz21_0
            try clear hcz21_1
            try clear hcz21_2
            try clear hcz23_0
            try clear hcz23_1
            try clear hcz23_2
            try clear hcz25_0
            try clear hcz25_1
            try clear hcz25_2
            try clear hcz30_0
            try clear hcz30_1
            try clear hcz30_2
            try clear hcz32_0
            try clear hcz32_1
            try clear hcz32_2
            try clear hcz35_0
            try clear hcz35_1
            try clear hcz35_2
            try clear hcz37_0
            try clear hcz37_1
            try clear hcz37_2
            try clear hfz11_0
            try clear hfz11_1
            try clear hfz11_2
            try clear hfz13_0
            try clear hfz13_1
            try clear hfz13_2
            try clear hfz14_0
            try clear hfz14_1
            try clear hfz14_2
            try clear hfz21_0
            try clear hfz21_1
            try clear hfz21_2
            try clear hfz23_0
            try clear hfz23_1
            try clear hfz23_2
            try clear hfz25_0
            try clear hfz25_1
            try clear hfz25_2
            try clear hfz30_0
            try clear hfz30_1
            try clear hfz30_2
            try clear hfz32_0
            try clear hfz32_1
            try clear hfz32_2
            try clear hfz35_0
            try clear hfz35_1
            try clear hfz35_2
            try clear hfz37_0
            try clear hfz37_1
            try clear hfz37_2
            try clear p2
            obtain ⟨kq, x64_18, rfl, HA, HJ18, BK271, BK272, HB⟩ := hcut
            cases kq with
            | zero => exact absurd HA.out (by simp [screelaw02_KeyBounds.j1])
            | succ kj18 =>
              have H := HA.out
              clear HA
              simp only [screelaw02_KeyBounds.j1] at H
              by_cases c38 : x64_18 = true
              · subst c38
                have H1 : (none) = some r := by rw [if_pos rfl] at H; exact H
                clear H
                have H := H1
                clear H1
                exact absurd H (by simp)
              · replace c38 := Bool.eq_false_iff.mpr c38
                subst c38
                have H1 : ((key_Make.f kj18 a1_0 a1_1 a1_2).bind fun bt281 => (if t275 = 0 then (if bt281.2 = 0 then (if ((Op.bytesLess bt281.1.toList t274.toList) = true) then (if a1_0 = a0_0 then (if (false == (a1_1.toList == a0_1.toList)) = true then (if ((Op.bytesLess bt281.1.toList t278.toList) = true) then (some (false == (a1_0 == a0_0))) else (some ((Op.bytesLess bt281.1.toList t279.toList) == (a1_0 == a0_0)))) else (none)) else (if (false == false) = true then (if ((Op.bytesLess bt281.1.toList t278.toList) = true) then (some (false == (a1_0 == a0_0))) else (some ((Op.bytesLess bt281.1.toList t279.toList) == (a1_0 == a0_0)))) else (none))) else (if a1_0 = a0_0 then (if ((Op.bytesLess bt281.1.toList t276.toList) == (a1_1.toList == a0_1.toList)) = true then (if ((Op.bytesLess bt281.1.toList t278.toList) = true) then (some (false == (a1_0 == a0_0))) else (some ((Op.bytesLess bt281.1.toList t279.toList) == (a1_0 == a0_0)))) else (none)) else (if ((Op.bytesLess bt281.1.toList t276.toList) == false) = true then (if ((Op.bytesLess bt281.1.toList t278.toList) = true) then (some (false == (a1_0 == a0_0))) else (some ((Op.bytesLess bt281.1.toList t279.toList) == (a1_0 == a0_0)))) else (none)))) else (some true)) else (if t274.toList = ([] : List UInt8) then (some (t276.toList == ([] : List UInt8))) else (none)))) = some r := by rw [if_neg (show ¬ (false = true) by decide)] at H; exact H
                clear H
                have H := H1
                clear H1
                replace H := Option.bind_eq_some_iff.mp H
                obtain ⟨⟨t281, t282⟩, A390, H⟩ := H
                replace H : (if t275 = 0 then (if t282 = 0 then (if ((Op.bytesLess t281.toList t274.toList) = true) then (if a1_0 = a0_0 then (if (false == (a1_1.toList == a0_1.toList)) = true then (if ((Op.bytesLess t281.toList t278.toList) = true) then (some (false == (a1_0 == a0_0))) else (some ((Op.bytesLess t281.toList t279.toList) == (a1_0 == a0_0)))) else (none)) else (if (false == false) = true then (if ((Op.bytesLess t281.toList t278.toList) = true) then (some (false == (a1_0 == a0_0))) else (some ((Op.bytesLess t281.toList t279.toList) == (a1_0 == a0_0)))) else (none))) else (if a1_0 = a0_0 then (if ((Op.bytesLess t281.toList t276.toList) == (a1_1.toList == a0_1.toList)) = true then (if ((Op.bytesLess t281.toList t278.toList) = true) then (some (false == (a1_0 == a0_0))) else (some ((Op.bytesLess t281.toList t279.toList) == (a1_0 == a0_0)))) else (none)) else (if ((Op.bytesLess t281.toList t276.toList) == false) = true then (if ((Op.bytesLess t281.toList t278.toList) = true) then (some (false == (a1_0 == a0_0))) else (some ((Op.bytesLess t281.toList t279.toList) == (a1_0 == a0_0)))) else (none)))) else (some true)) else (if t274.toList = ([] : List UInt8) then (some (t276.toList == ([] : List UInt8))) else (none))) = some r := H
                have A39 := Aside0.mk A390
                clear A390
                by_cases c40 : t275 = 0
                · rw [if_pos c40] at H
                  have c40b0 : (t275 == 0) = true := beq_iff_eq.mpr c40
                  have c40b1 : (t275 != 0) = false := bne_eq_false_iff_eq.mpr c40
                  clear c40
                  by_cases c41 : t282 = 0
                  · rw [if_pos c41] at H
                    have c41b0 : (t282 == 0) = true := beq_iff_eq.mpr c41
                    have c41b1 : (t282 != 0) = false := bne_eq_false_iff_eq.mpr c41
                    clear c41
                    by_cases c42 : ((Op.bytesLess t281.toList t274.toList) = true)
                    · rw [if_pos c42] at H
                      have c42b0 : (Op.bytesLess t281.toList t274.toList) = true := c42
                      clear c42
                      by_cases c43 : a1_0 = a0_0
                      · rw [if_pos c43] at H
                        have c43b0 : (a1_0 == a0_0) = true := beq_iff_eq.mpr c43
                        have c43b1 : (a1_0 != a0_0) = false := bne_eq_false_iff_eq.mpr c43
                        clear c43
                        by_cases c44 : (false == (a1_1.toList == a0_1.toList)) = true
                        · rw [if_pos c44] at H
                          have c44b0 : (false == (a1_1.toList == a0_1.toList)) = true := c44
                          (try (have c44b1 : decide (false = (a1_1.toList == a0_1.toList)) = true := by simpa using c44))
                          (try (have c44b2 : (false == (a1_1.toList == a0_1.toList)) = true := by simpa using c44))
                          clear c44
                          by_cases c45 : ((Op.bytesLess t281.toList t278.toList) = true)
                          · rw [if_pos c45] at H
                            have c45b0 : (Op.bytesLess t281.toList t278.toList) = true := c45
                            clear c45
                            obtain rfl := Option.some.inj H
                            have hnb46 := NB272_271.out
                            have hnc46 := NB271_272.out
                            have hcz47_0 : wc.cell? ⟨gb272, 0, none⟩ = some (.int .i64 a1_0) := (blk_cell BK272.out 0).trans rfl
                            have hcz47_1 : wc.cell? ⟨gb272, 1, none⟩ = some (.string a1_1) := (blk_cell BK272.out 1).trans rfl
                            have hcz47_2 : wc.cell? ⟨gb272, 2, none⟩ = some (.int .u64 a1_2) := (blk_cell BK272.out 2).trans rfl
                            have hfz47_0 := blk_frozen BK272.out 0
                            have hfz47_1 := blk_frozen BK272.out 1
                            have hfz47_2 := blk_frozen BK272.out 2
                            go_wp2_with (first | ((with_reducible refine gate_callee (f := 11) rfl ?_); refine goesL_ (some 67) rfl rfl Try.func11 (by kernel_rfl) rfl #[.agg #[.int .i64 a1_0, .string a1_1, .int .u64 a1_2]] rfl (by (try simp only [List.map_toArray, List.map_cons, List.map_nil]); first | done | rfl | (simp only [List.length_drop, List.length_take]; rfl) | (simp (disch := omega) only [IntWalk.u64_in, IntWalk.i64_in, IntWalk.u8_in]; rfl)) ?_; (with_reducible refine (key_Make.calls kj18 a1_0 a1_1 a1_2 t281 t282 _ A39.out).mono ?_); rintro e w48 ⟨rfl, hb⟩; refine ⟨_, rfl, ?_⟩; have n0_ := Aside0.mk (blk_below (g := gb271) (o := .cells #[.int .i64 a0_0, .string a0_1, .int .u64 a0_2] 24 (0, 0)) (by (with_reducible repeat (first | refine blk_drewN ?_ _ | refine blk_drew ?_ | refine blk_alloc ?_ _)); exact BK271.out) hb); have n1_ := Aside0.mk (blk_below (g := gb272) (o := .cells #[.int .i64 a1_0, .string a1_1, .int .u64 a1_2] 24 (0, 0)) (by (with_reducible repeat (first | refine blk_drewN ?_ _ | refine blk_drew ?_ | refine blk_alloc ?_ _)); exact BK272.out) hb); have n2_ := Aside0.mk (below_step (by repeat (first | (with_reducible first | exact HB.out | apply below_alloc | apply pw_below_drewN | apply below_drew1 | refine below_set ?_ GE271.out | refine below_set ?_ GE272.out) | exact HB.out)) hb); clear BK271; clear BK272; clear HB; have BK271 := n0_; have BK272 := n1_; have HB := n2_; clear n0_ n1_ n2_; (try clear hb); (try clear hb2); (try clear hk); (try clear hi); (try clear A39); have hcz49_0 : w48.cell? ⟨gb272, 0, none⟩ = some (.int .i64 a1_0) := (blk_cell BK272.out 0).trans rfl; have hcz49_1 : w48.cell? ⟨gb272, 1, none⟩ = some (.string a1_1) := (blk_cell BK272.out 1).trans rfl; have hcz49_2 : w48.cell? ⟨gb272, 2, none⟩ = some (.int .u64 a1_2) := (blk_cell BK272.out 2).trans rfl; have hfz49_0 := blk_frozen BK272.out 0; have hfz49_1 := blk_frozen BK272.out 1; have hfz49_2 := blk_frozen BK272.out 2; have hcz50_0 : w48.cell? ⟨gb271, 0, none⟩ = some (.int .i64 a0_0) := (blk_cell BK271.out 0).trans rfl; have hcz50_1 : w48.cell? ⟨gb271, 1, none⟩ = some (.string a0_1) := (blk_cell BK271.out 1).trans rfl; have hcz50_2 : w48.cell? ⟨gb271, 2, none⟩ = some (.int .u64 a0_2) := (blk_cell BK271.out 2).trans rfl; have hfz50_0 := blk_frozen BK271.out 0; have hfz50_1 := blk_frozen BK271.out 1; have hfz50_2 := blk_frozen BK271.out 2))
                            go_ret
                            exact ⟨by first | rfl | (simp [errW_none, errW_some] <;> rfl) | (simp (disch := omega) only [← i64_w, IntWalk.i64_in]; rfl) | (simp [*, errW_none, errW_some] <;> rfl), by repeat (first | (with_reducible first | exact HB.out | apply below_alloc | apply pw_below_drewN | apply below_drew1 | refine below_set ?_ GE271.out | refine below_set ?_ GE272.out) | exact HB.out)⟩
                          · rw [if_neg c45] at H
                            have c45b0 : (Op.bytesLess t281.toList t278.toList) = false := by simpa using c45
                            clear c45
                            obtain rfl := Option.some.inj H
                            have hnb51 := NB272_271.out
                            have hnc51 := NB271_272.out
                            have hcz52_0 : wc.cell? ⟨gb272, 0, none⟩ = some (.int .i64 a1_0) := (blk_cell BK272.out 0).trans rfl
                            have hcz52_1 : wc.cell? ⟨gb272, 1, none⟩ = some (.string a1_1) := (blk_cell BK272.out 1).trans rfl
                            have hcz52_2 : wc.cell? ⟨gb272, 2, none⟩ = some (.int .u64 a1_2) := (blk_cell BK272.out 2).trans rfl
                            have hfz52_0 := blk_frozen BK272.out 0
                            have hfz52_1 := blk_frozen BK272.out 1
                            have hfz52_2 := blk_frozen BK272.out 2
                            go_wp2_with (first | ((with_reducible refine gate_callee (f := 11) rfl ?_); refine goesL_ (some 67) rfl rfl Try.func11 (by kernel_rfl) rfl #[.agg #[.int .i64 a1_0, .string a1_1, .int .u64 a1_2]] rfl (by (try simp only [List.map_toArray, List.map_cons, List.map_nil]); first | done | rfl | (simp only [List.length_drop, List.length_take]; rfl) | (simp (disch := omega) only [IntWalk.u64_in, IntWalk.i64_in, IntWalk.u8_in]; rfl)) ?_; (with_reducible refine (key_Make.calls kj18 a1_0 a1_1 a1_2 t281 t282 _ A39.out).mono ?_); rintro e w53 ⟨rfl, hb⟩; refine ⟨_, rfl, ?_⟩; have n0_ := Aside0.mk (blk_below (g := gb271) (o := .cells #[.int .i64 a0_0, .string a0_1, .int .u64 a0_2] 24 (0, 0)) (by (with_reducible repeat (first | refine blk_drewN ?_ _ | refine blk_drew ?_ | refine blk_alloc ?_ _)); exact BK271.out) hb); have n1_ := Aside0.mk (blk_below (g := gb272) (o := .cells #[.int .i64 a1_0, .string a1_1, .int .u64 a1_2] 24 (0, 0)) (by (with_reducible repeat (first | refine blk_drewN ?_ _ | refine blk_drew ?_ | refine blk_alloc ?_ _)); exact BK272.out) hb); have n2_ := Aside0.mk (below_step (by repeat (first | (with_reducible first | exact HB.out | apply below_alloc | apply pw_below_drewN | apply below_drew1 | refine below_set ?_ GE271.out | refine below_set ?_ GE272.out) | exact HB.out)) hb); clear BK271; clear BK272; clear HB; have BK271 := n0_; have BK272 := n1_; have HB := n2_; clear n0_ n1_ n2_; (try clear hb); (try clear hb2); (try clear hk); (try clear hi); (try clear A39); have hcz54_0 : w53.cell? ⟨gb272, 0, none⟩ = some (.int .i64 a1_0) := (blk_cell BK272.out 0).trans rfl; have hcz54_1 : w53.cell? ⟨gb272, 1, none⟩ = some (.string a1_1) := (blk_cell BK272.out 1).trans rfl; have hcz54_2 : w53.cell? ⟨gb272, 2, none⟩ = some (.int .u64 a1_2) := (blk_cell BK272.out 2).trans rfl; have hfz54_0 := blk_frozen BK272.out 0; have hfz54_1 := blk_frozen BK272.out 1; have hfz54_2 := blk_frozen BK272.out 2; have hcz55_0 : w53.cell? ⟨gb271, 0, none⟩ = some (.int .i64 a0_0) := (blk_cell BK271.out 0).trans rfl; have hcz55_1 : w53.cell? ⟨gb271, 1, none⟩ = some (.string a0_1) := (blk_cell BK271.out 1).trans rfl; have hcz55_2 : w53.cell? ⟨gb271, 2, none⟩ = some (.int .u64 a0_2) := (blk_cell BK271.out 2).trans rfl; have hfz55_0 := blk_frozen BK271.out 0; have hfz55_1 := blk_frozen BK271.out 1; have hfz55_2 := blk_frozen BK271.out 2))
                            go_ret
                            exact ⟨by first | rfl | (simp [errW_none, errW_some] <;> rfl) | (simp (disch := omega) only [← i64_w, IntWalk.i64_in]; rfl) | (simp [*, errW_none, errW_some] <;> rfl), by repeat (first | (with_reducible first | exact HB.out | apply below_alloc | apply pw_below_drewN | apply below_drew1 | refine below_set ?_ GE271.out | refine below_set ?_ GE272.out) | exact HB.out)⟩
                        · rw [if_neg c44] at H
                          exact absurd H (by simp)
                      · rw [if_neg c43] at H
                        have c43b0 : (a1_0 == a0_0) = false := beq_eq_false_iff_ne.mpr c43
                        have c43b1 : (a1_0 != a0_0) = true := bne_iff_ne.mpr c43
                        by_cases c56 : (false == false) = true
                        · rw [if_pos c56] at H
                          have c56b0 : (false == false) = true := c56
                          clear c56
                          by_cases c57 : ((Op.bytesLess t281.toList t278.toList) = true)
                          · rw [if_pos c57] at H
                            have c57b0 : (Op.bytesLess t281.toList t278.toList) = true := c57
                            clear c57
                            obtain rfl := Option.some.inj H
                            have hnb58 := NB272_271.out
                            have hnc58 := NB271_272.out
                            have hcz59_0 : wc.cell? ⟨gb272, 0, none⟩ = some (.int .i64 a1_0) := (blk_cell BK272.out 0).trans rfl
                            have hcz59_1 : wc.cell? ⟨gb272, 1, none⟩ = some (.string a1_1) := (blk_cell BK272.out 1).trans rfl
                            have hcz59_2 : wc.cell? ⟨gb272, 2, none⟩ = some (.int .u64 a1_2) := (blk_cell BK272.out 2).trans rfl
                            have hfz59_0 := blk_frozen BK272.out 0
                            have hfz59_1 := blk_frozen BK272.out 1
                            have hfz59_2 := blk_frozen BK272.out 2
                            go_wp2_with (first | ((with_reducible refine gate_callee (f := 11) rfl ?_); refine goesL_ (some 67) rfl rfl Try.func11 (by kernel_rfl) rfl #[.agg #[.int .i64 a1_0, .string a1_1, .int .u64 a1_2]] rfl (by (try simp only [List.map_toArray, List.map_cons, List.map_nil]); first | done | rfl | (simp only [List.length_drop, List.length_take]; rfl) | (simp (disch := omega) only [IntWalk.u64_in, IntWalk.i64_in, IntWalk.u8_in]; rfl)) ?_; (with_reducible refine (key_Make.calls kj18 a1_0 a1_1 a1_2 t281 t282 _ A39.out).mono ?_); rintro e w60 ⟨rfl, hb⟩; refine ⟨_, rfl, ?_⟩; have n0_ := Aside0.mk (blk_below (g := gb271) (o := .cells #[.int .i64 a0_0, .string a0_1, .int .u64 a0_2] 24 (0, 0)) (by (with_reducible repeat (first | refine blk_drewN ?_ _ | refine blk_drew ?_ | refine blk_alloc ?_ _)); exact BK271.out) hb); have n1_ := Aside0.mk (blk_below (g := gb272) (o := .cells #[.int .i64 a1_0, .string a1_1, .int .u64 a1_2] 24 (0, 0)) (by (with_reducible repeat (first | refine blk_drewN ?_ _ | refine blk_drew ?_ | refine blk_alloc ?_ _)); exact BK272.out) hb); have n2_ := Aside0.mk (below_step (by repeat (first | (with_reducible first | exact HB.out | apply below_alloc | apply pw_below_drewN | apply below_drew1 | refine below_set ?_ GE271.out | refine below_set ?_ GE272.out) | exact HB.out)) hb); clear BK271; clear BK272; clear HB; have BK271 := n0_; have BK272 := n1_; have HB := n2_; clear n0_ n1_ n2_; (try clear hb); (try clear hb2); (try clear hk); (try clear hi); (try clear A39); have hcz61_0 : w60.cell? ⟨gb272, 0, none⟩ = some (.int .i64 a1_0) := (blk_cell BK272.out 0).trans rfl; have hcz61_1 : w60.cell? ⟨gb272, 1, none⟩ = some (.string a1_1) := (blk_cell BK272.out 1).trans rfl; have hcz61_2 : w60.cell? ⟨gb272, 2, none⟩ = some (.int .u64 a1_2) := (blk_cell BK272.out 2).trans rfl; have hfz61_0 := blk_frozen BK272.out 0; have hfz61_1 := blk_frozen BK272.out 1; have hfz61_2 := blk_frozen BK272.out 2; have hcz62_0 : w60.cell? ⟨gb271, 0, none⟩ = some (.int .i64 a0_0) := (blk_cell BK271.out 0).trans rfl; have hcz62_1 : w60.cell? ⟨gb271, 1, none⟩ = some (.string a0_1) := (blk_cell BK271.out 1).trans rfl; have hcz62_2 : w60.cell? ⟨gb271, 2, none⟩ = some (.int .u64 a0_2) := (blk_cell BK271.out 2).trans rfl; have hfz62_0 := blk_frozen BK271.out 0; have hfz62_1 := blk_frozen BK271.out 1; have hfz62_2 := blk_frozen BK271.out 2))
                            go_ret
                            exact ⟨by first | rfl | (simp [errW_none, errW_some] <;> rfl) | (simp (disch := omega) only [← i64_w, IntWalk.i64_in]; rfl) | (simp [*, errW_none, errW_some] <;> rfl), by repeat (first | (with_reducible first | exact HB.out | apply below_alloc | apply pw_below_drewN | apply below_drew1 | refine below_set ?_ GE271.out | refine below_set ?_ GE272.out) | exact HB.out)⟩
                          · rw [if_neg c57] at H
                            have c57b0 : (Op.bytesLess t281.toList t278.toList) = false := by simpa using c57
                            clear c57
                            obtain rfl := Option.some.inj H
                            have hnb63 := NB272_271.out
                            have hnc63 := NB271_272.out
                            have hcz64_0 : wc.cell? ⟨gb272, 0, none⟩ = some (.int .i64 a1_0) := (blk_cell BK272.out 0).trans rfl
                            have hcz64_1 : wc.cell? ⟨gb272, 1, none⟩ = some (.string a1_1) := (blk_cell BK272.out 1).trans rfl
                            have hcz64_2 : wc.cell? ⟨gb272, 2, none⟩ = some (.int .u64 a1_2) := (blk_cell BK272.out 2).trans rfl
                            have hfz64_0 := blk_frozen BK272.out 0
                            have hfz64_1 := blk_frozen BK272.out 1
                            have hfz64_2 := blk_frozen BK272.out 2
                            go_wp2_with (first | ((with_reducible refine gate_callee (f := 11) rfl ?_); refine goesL_ (some 67) rfl rfl Try.func11 (by kernel_rfl) rfl #[.agg #[.int .i64 a1_0, .string a1_1, .int .u64 a1_2]] rfl (by (try simp only [List.map_toArray, List.map_cons, List.map_nil]); first | done | rfl | (simp only [List.length_drop, List.length_take]; rfl) | (simp (disch := omega) only [IntWalk.u64_in, IntWalk.i64_in, IntWalk.u8_in]; rfl)) ?_; (with_reducible refine (key_Make.calls kj18 a1_0 a1_1 a1_2 t281 t282 _ A39.out).mono ?_); rintro e w65 ⟨rfl, hb⟩; refine ⟨_, rfl, ?_⟩; have n0_ := Aside0.mk (blk_below (g := gb271) (o := .cells #[.int .i64 a0_0, .string a0_1, .int .u64 a0_2] 24 (0, 0)) (by (with_reducible repeat (first | refine blk_drewN ?_ _ | refine blk_drew ?_ | refine blk_alloc ?_ _)); exact BK271.out) hb); have n1_ := Aside0.mk (blk_below (g := gb272) (o := .cells #[.int .i64 a1_0, .string a1_1, .int .u64 a1_2] 24 (0, 0)) (by (with_reducible repeat (first | refine blk_drewN ?_ _ | refine blk_drew ?_ | refine blk_alloc ?_ _)); exact BK272.out) hb); have n2_ := Aside0.mk (below_step (by repeat (first | (with_reducible first | exact HB.out | apply below_alloc | apply pw_below_drewN | apply below_drew1 | refine below_set ?_ GE271.out | refine below_set ?_ GE272.out) | exact HB.out)) hb); clear BK271; clear BK272; clear HB; have BK271 := n0_; have BK272 := n1_; have HB := n2_; clear n0_ n1_ n2_; (try clear hb); (try clear hb2); (try clear hk); (try clear hi); (try clear A39); have hcz66_0 : w65.cell? ⟨gb272, 0, none⟩ = some (.int .i64 a1_0) := (blk_cell BK272.out 0).trans rfl; have hcz66_1 : w65.cell? ⟨gb272, 1, none⟩ = some (.string a1_1) := (blk_cell BK272.out 1).trans rfl; have hcz66_2 : w65.cell? ⟨gb272, 2, none⟩ = some (.int .u64 a1_2) := (blk_cell BK272.out 2).trans rfl; have hfz66_0 := blk_frozen BK272.out 0; have hfz66_1 := blk_frozen BK272.out 1; have hfz66_2 := blk_frozen BK272.out 2; have hcz67_0 : w65.cell? ⟨gb271, 0, none⟩ = some (.int .i64 a0_0) := (blk_cell BK271.out 0).trans rfl; have hcz67_1 : w65.cell? ⟨gb271, 1, none⟩ = some (.string a0_1) := (blk_cell BK271.out 1).trans rfl; have hcz67_2 : w65.cell? ⟨gb271, 2, none⟩ = some (.int .u64 a0_2) := (blk_cell BK271.out 2).trans rfl; have hfz67_0 := blk_frozen BK271.out 0; have hfz67_1 := blk_frozen BK271.out 1; have hfz67_2 := blk_frozen BK271.out 2))
                            go_ret
                            exact ⟨by first | rfl | (simp [errW_none, errW_some] <;> rfl) | (simp (disch := omega) only [← i64_w, IntWalk.i64_in]; rfl) | (simp [*, errW_none, errW_some] <;> rfl), by repeat (first | (with_reducible first | exact HB.out | apply below_alloc | apply pw_below_drewN | apply below_drew1 | refine below_set ?_ GE271.out | refine below_set ?_ GE272.out) | exact HB.out)⟩
                        · rw [if_neg c56] at H
                          exact absurd H (by simp)
                    · rw [if_neg c42] at H
                      have c42b0 : (Op.bytesLess t281.toList t274.toList) = false := by simpa using c42
                      clear c42
                      by_cases c68 : a1_0 = a0_0
                      · rw [if_pos c68] at H
                        have c68b0 : (a1_0 == a0_0) = true := beq_iff_eq.mpr c68
                        have c68b1 : (a1_0 != a0_0) = false := bne_eq_false_iff_eq.mpr c68
                        clear c68
                        by_cases c69 : ((Op.bytesLess t281.toList t276.toList) == (a1_1.toList == a0_1.toList)) = true
                        · rw [if_pos c69] at H
                          have c69b0 : ((Op.bytesLess t281.toList t276.toList) == (a1_1.toList == a0_1.toList)) = true := c69
                          (try (have c69b1 : decide ((Op.bytesLess t281.toList t276.toList) = (a1_1.toList == a0_1.toList)) = true := by simpa using c69))
                          (try (have c69b2 : ((Op.bytesLess t281.toList t276.toList) == (a1_1.toList == a0_1.toList)) = true := by simpa using c69))
                          clear c69
                          by_cases c70 : ((Op.bytesLess t281.toList t278.toList) = true)
                          · rw [if_pos c70] at H
                            have c70b0 : (Op.bytesLess t281.toList t278.toList) = true := c70
                            clear c70
                            obtain rfl := Option.some.inj H
                            have hnb71 := NB272_271.out
                            have hnc71 := NB271_272.out
                            have hcz72_0 : wc.cell? ⟨gb272, 0, none⟩ = some (.int .i64 a1_0) := (blk_cell BK272.out 0).trans rfl
                            have hcz72_1 : wc.cell? ⟨gb272, 1, none⟩ = some (.string a1_1) := (blk_cell BK272.out 1).trans rfl
                            have hcz72_2 : wc.cell? ⟨gb272, 2, none⟩ = some (.int .u64 a1_2) := (blk_cell BK272.out 2).trans rfl
                            have hfz72_0 := blk_frozen BK272.out 0
                            have hfz72_1 := blk_frozen BK272.out 1
                            have hfz72_2 := blk_frozen BK272.out 2
                            go_wp2_with (first | ((with_reducible refine gate_callee (f := 11) rfl ?_); refine goesL_ (some 67) rfl rfl Try.func11 (by kernel_rfl) rfl #[.agg #[.int .i64 a1_0, .string a1_1, .int .u64 a1_2]] rfl (by (try simp only [List.map_toArray, List.map_cons, List.map_nil]); first | done | rfl | (simp only [List.length_drop, List.length_take]; rfl) | (simp (disch := omega) only [IntWalk.u64_in, IntWalk.i64_in, IntWalk.u8_in]; rfl)) ?_; (with_reducible refine (key_Make.calls kj18 a1_0 a1_1 a1_2 t281 t282 _ A39.out).mono ?_); rintro e w73 ⟨rfl, hb⟩; refine ⟨_, rfl, ?_⟩; have n0_ := Aside0.mk (blk_below (g := gb271) (o := .cells #[.int .i64 a0_0, .string a0_1, .int .u64 a0_2] 24 (0, 0)) (by (with_reducible repeat (first | refine blk_drewN ?_ _ | refine blk_drew ?_ | refine blk_alloc ?_ _)); exact BK271.out) hb); have n1_ := Aside0.mk (blk_below (g := gb272) (o := .cells #[.int .i64 a1_0, .string a1_1, .int .u64 a1_2] 24 (0, 0)) (by (with_reducible repeat (first | refine blk_drewN ?_ _ | refine blk_drew ?_ | refine blk_alloc ?_ _)); exact BK272.out) hb); have n2_ := Aside0.mk (below_step (by repeat (first | (with_reducible first | exact HB.out | apply below_alloc | apply pw_below_drewN | apply below_drew1 | refine below_set ?_ GE271.out | refine below_set ?_ GE272.out) | exact HB.out)) hb); clear BK271; clear BK272; clear HB; have BK271 := n0_; have BK272 := n1_; have HB := n2_; clear n0_ n1_ n2_; (try clear hb); (try clear hb2); (try clear hk); (try clear hi); (try clear A39); have hcz74_0 : w73.cell? ⟨gb272, 0, none⟩ = some (.int .i64 a1_0) := (blk_cell BK272.out 0).trans rfl; have hcz74_1 : w73.cell? ⟨gb272, 1, none⟩ = some (.string a1_1) := (blk_cell BK272.out 1).trans rfl; have hcz74_2 : w73.cell? ⟨gb272, 2, none⟩ = some (.int .u64 a1_2) := (blk_cell BK272.out 2).trans rfl; have hfz74_0 := blk_frozen BK272.out 0; have hfz74_1 := blk_frozen BK272.out 1; have hfz74_2 := blk_frozen BK272.out 2; have hcz75_0 : w73.cell? ⟨gb271, 0, none⟩ = some (.int .i64 a0_0) := (blk_cell BK271.out 0).trans rfl; have hcz75_1 : w73.cell? ⟨gb271, 1, none⟩ = some (.string a0_1) := (blk_cell BK271.out 1).trans rfl; have hcz75_2 : w73.cell? ⟨gb271, 2, none⟩ = some (.int .u64 a0_2) := (blk_cell BK271.out 2).trans rfl; have hfz75_0 := blk_frozen BK271.out 0; have hfz75_1 := blk_frozen BK271.out 1; have hfz75_2 := blk_frozen BK271.out 2))
                            go_ret
                            exact ⟨by first | rfl | (simp [errW_none, errW_some] <;> rfl) | (simp (disch := omega) only [← i64_w, IntWalk.i64_in]; rfl) | (simp [*, errW_none, errW_some] <;> rfl), by repeat (first | (with_reducible first | exact HB.out | apply below_alloc | apply pw_below_drewN | apply below_drew1 | refine below_set ?_ GE271.out | refine below_set ?_ GE272.out) | exact HB.out)⟩
                          · rw [if_neg c70] at H
                            have c70b0 : (Op.bytesLess t281.toList t278.toList) = false := by simpa using c70
                            clear c70
                            obtain rfl := Option.some.inj H
                            have hnb76 := NB272_271.out
                            have hnc76 := NB271_272.out
                            have hcz77_0 : wc.cell? ⟨gb272, 0, none⟩ = some (.int .i64 a1_0) := (blk_cell BK272.out 0).trans rfl
                            have hcz77_1 : wc.cell? ⟨gb272, 1, none⟩ = some (.string a1_1) := (blk_cell BK272.out 1).trans rfl
                            have hcz77_2 : wc.cell? ⟨gb272, 2, none⟩ = some (.int .u64 a1_2) := (blk_cell BK272.out 2).trans rfl
                            have hfz77_0 := blk_frozen BK272.out 0
                            have hfz77_1 := blk_frozen BK272.out 1
                            have hfz77_2 := blk_frozen BK272.out 2
                            go_wp2_with (first | ((with_reducible refine gate_callee (f := 11) rfl ?_); refine goesL_ (some 67) rfl rfl Try.func11 (by kernel_rfl) rfl #[.agg #[.int .i64 a1_0, .string a1_1, .int .u64 a1_2]] rfl (by (try simp only [List.map_toArray, List.map_cons, List.map_nil]); first | done | rfl | (simp only [List.length_drop, List.length_take]; rfl) | (simp (disch := omega) only [IntWalk.u64_in, IntWalk.i64_in, IntWalk.u8_in]; rfl)) ?_; (with_reducible refine (key_Make.calls kj18 a1_0 a1_1 a1_2 t281 t282 _ A39.out).mono ?_); rintro e w78 ⟨rfl, hb⟩; refine ⟨_, rfl, ?_⟩; have n0_ := Aside0.mk (blk_below (g := gb271) (o := .cells #[.int .i64 a0_0, .string a0_1, .int .u64 a0_2] 24 (0, 0)) (by (with_reducible repeat (first | refine blk_drewN ?_ _ | refine blk_drew ?_ | refine blk_alloc ?_ _)); exact BK271.out) hb); have n1_ := Aside0.mk (blk_below (g := gb272) (o := .cells #[.int .i64 a1_0, .string a1_1, .int .u64 a1_2] 24 (0, 0)) (by (with_reducible repeat (first | refine blk_drewN ?_ _ | refine blk_drew ?_ | refine blk_alloc ?_ _)); exact BK272.out) hb); have n2_ := Aside0.mk (below_step (by repeat (first | (with_reducible first | exact HB.out | apply below_alloc | apply pw_below_drewN | apply below_drew1 | refine below_set ?_ GE271.out | refine below_set ?_ GE272.out) | exact HB.out)) hb); clear BK271; clear BK272; clear HB; have BK271 := n0_; have BK272 := n1_; have HB := n2_; clear n0_ n1_ n2_; (try clear hb); (try clear hb2); (try clear hk); (try clear hi); (try clear A39); have hcz79_0 : w78.cell? ⟨gb272, 0, none⟩ = some (.int .i64 a1_0) := (blk_cell BK272.out 0).trans rfl; have hcz79_1 : w78.cell? ⟨gb272, 1, none⟩ = some (.string a1_1) := (blk_cell BK272.out 1).trans rfl; have hcz79_2 : w78.cell? ⟨gb272, 2, none⟩ = some (.int .u64 a1_2) := (blk_cell BK272.out 2).trans rfl; have hfz79_0 := blk_frozen BK272.out 0; have hfz79_1 := blk_frozen BK272.out 1; have hfz79_2 := blk_frozen BK272.out 2; have hcz80_0 : w78.cell? ⟨gb271, 0, none⟩ = some (.int .i64 a0_0) := (blk_cell BK271.out 0).trans rfl; have hcz80_1 : w78.cell? ⟨gb271, 1, none⟩ = some (.string a0_1) := (blk_cell BK271.out 1).trans rfl; have hcz80_2 : w78.cell? ⟨gb271, 2, none⟩ = some (.int .u64 a0_2) := (blk_cell BK271.out 2).trans rfl; have hfz80_0 := blk_frozen BK271.out 0; have hfz80_1 := blk_frozen BK271.out 1; have hfz80_2 := blk_frozen BK271.out 2))
                            go_ret
                            exact ⟨by first | rfl | (simp [errW_none, errW_some] <;> rfl) | (simp (disch := omega) only [← i64_w, IntWalk.i64_in]; rfl) | (simp [*, errW_none, errW_some] <;> rfl), by repeat (first | (with_reducible first | exact HB.out | apply below_alloc | apply pw_below_drewN | apply below_drew1 | refine below_set ?_ GE271.out | refine below_set ?_ GE272.out) | exact HB.out)⟩
                        · rw [if_neg c69] at H
                          exact absurd H (by simp)
                      · rw [if_neg c68] at H
                        have c68b0 : (a1_0 == a0_0) = false := beq_eq_false_iff_ne.mpr c68
                        have c68b1 : (a1_0 != a0_0) = true := bne_iff_ne.mpr c68
                        by_cases c81 : ((Op.bytesLess t281.toList t276.toList) == false) = true
                        · rw [if_pos c81] at H
                          have c81b0 : ((Op.bytesLess t281.toList t276.toList) == false) = true := c81
                          (try (have c81b1 : decide ((Op.bytesLess t281.toList t276.toList) = false) = true := by simpa using c81))
                          (try (have c81b2 : ((Op.bytesLess t281.toList t276.toList) == false) = true := by simpa using c81))
                          clear c81
                          by_cases c82 : ((Op.bytesLess t281.toList t278.toList) = true)
                          · rw [if_pos c82] at H
                            have c82b0 : (Op.bytesLess t281.toList t278.toList) = true := c82
                            clear c82
                            obtain rfl := Option.some.inj H
                            have hnb83 := NB272_271.out
                            have hnc83 := NB271_272.out
                            have hcz84_0 : wc.cell? ⟨gb272, 0, none⟩ = some (.int .i64 a1_0) := (blk_cell BK272.out 0).trans rfl
                            have hcz84_1 : wc.cell? ⟨gb272, 1, none⟩ = some (.string a1_1) := (blk_cell BK272.out 1).trans rfl
                            have hcz84_2 : wc.cell? ⟨gb272, 2, none⟩ = some (.int .u64 a1_2) := (blk_cell BK272.out 2).trans rfl
                            have hfz84_0 := blk_frozen BK272.out 0
                            have hfz84_1 := blk_frozen BK272.out 1
                            have hfz84_2 := blk_frozen BK272.out 2
                            go_wp2_with (first | ((with_reducible refine gate_callee (f := 11) rfl ?_); refine goesL_ (some 67) rfl rfl Try.func11 (by kernel_rfl) rfl #[.agg #[.int .i64 a1_0, .string a1_1, .int .u64 a1_2]] rfl (by (try simp only [List.map_toArray, List.map_cons, List.map_nil]); first | done | rfl | (simp only [List.length_drop, List.length_take]; rfl) | (simp (disch := omega) only [IntWalk.u64_in, IntWalk.i64_in, IntWalk.u8_in]; rfl)) ?_; (with_reducible refine (key_Make.calls kj18 a1_0 a1_1 a1_2 t281 t282 _ A39.out).mono ?_); rintro e w85 ⟨rfl, hb⟩; refine ⟨_, rfl, ?_⟩; have n0_ := Aside0.mk (blk_below (g := gb271) (o := .cells #[.int .i64 a0_0, .string a0_1, .int .u64 a0_2] 24 (0, 0)) (by (with_reducible repeat (first | refine blk_drewN ?_ _ | refine blk_drew ?_ | refine blk_alloc ?_ _)); exact BK271.out) hb); have n1_ := Aside0.mk (blk_below (g := gb272) (o := .cells #[.int .i64 a1_0, .string a1_1, .int .u64 a1_2] 24 (0, 0)) (by (with_reducible repeat (first | refine blk_drewN ?_ _ | refine blk_drew ?_ | refine blk_alloc ?_ _)); exact BK272.out) hb); have n2_ := Aside0.mk (below_step (by repeat (first | (with_reducible first | exact HB.out | apply below_alloc | apply pw_below_drewN | apply below_drew1 | refine below_set ?_ GE271.out | refine below_set ?_ GE272.out) | exact HB.out)) hb); clear BK271; clear BK272; clear HB; have BK271 := n0_; have BK272 := n1_; have HB := n2_; clear n0_ n1_ n2_; (try clear hb); (try clear hb2); (try clear hk); (try clear hi); (try clear A39); have hcz86_0 : w85.cell? ⟨gb272, 0, none⟩ = some (.int .i64 a1_0) := (blk_cell BK272.out 0).trans rfl; have hcz86_1 : w85.cell? ⟨gb272, 1, none⟩ = some (.string a1_1) := (blk_cell BK272.out 1).trans rfl; have hcz86_2 : w85.cell? ⟨gb272, 2, none⟩ = some (.int .u64 a1_2) := (blk_cell BK272.out 2).trans rfl; have hfz86_0 := blk_frozen BK272.out 0; have hfz86_1 := blk_frozen BK272.out 1; have hfz86_2 := blk_frozen BK272.out 2; have hcz87_0 : w85.cell? ⟨gb271, 0, none⟩ = some (.int .i64 a0_0) := (blk_cell BK271.out 0).trans rfl; have hcz87_1 : w85.cell? ⟨gb271, 1, none⟩ = some (.string a0_1) := (blk_cell BK271.out 1).trans rfl; have hcz87_2 : w85.cell? ⟨gb271, 2, none⟩ = some (.int .u64 a0_2) := (blk_cell BK271.out 2).trans rfl; have hfz87_0 := blk_frozen BK271.out 0; have hfz87_1 := blk_frozen BK271.out 1; have hfz87_2 := blk_frozen BK271.out 2))
                            go_ret
                            exact ⟨by first | rfl | (simp [errW_none, errW_some] <;> rfl) | (simp (disch := omega) only [← i64_w, IntWalk.i64_in]; rfl) | (simp [*, errW_none, errW_some] <;> rfl), by repeat (first | (with_reducible first | exact HB.out | apply below_alloc | apply pw_below_drewN | apply below_drew1 | refine below_set ?_ GE271.out | refine below_set ?_ GE272.out) | exact HB.out)⟩
                          · rw [if_neg c82] at H
                            have c82b0 : (Op.bytesLess t281.toList t278.toList) = false := by simpa using c82
                            clear c82
                            obtain rfl := Option.some.inj H
                            have hnb88 := NB272_271.out
                            have hnc88 := NB271_272.out
                            have hcz89_0 : wc.cell? ⟨gb272, 0, none⟩ = some (.int .i64 a1_0) := (blk_cell BK272.out 0).trans rfl
                            have hcz89_1 : wc.cell? ⟨gb272, 1, none⟩ = some (.string a1_1) := (blk_cell BK272.out 1).trans rfl
                            have hcz89_2 : wc.cell? ⟨gb272, 2, none⟩ = some (.int .u64 a1_2) := (blk_cell BK272.out 2).trans rfl
                            have hfz89_0 := blk_frozen BK272.out 0
                            have hfz89_1 := blk_frozen BK272.out 1
                            have hfz89_2 := blk_frozen BK272.out 2
                            go_wp2_with (first | ((with_reducible refine gate_callee (f := 11) rfl ?_); refine goesL_ (some 67) rfl rfl Try.func11 (by kernel_rfl) rfl #[.agg #[.int .i64 a1_0, .string a1_1, .int .u64 a1_2]] rfl (by (try simp only [List.map_toArray, List.map_cons, List.map_nil]); first | done | rfl | (simp only [List.length_drop, List.length_take]; rfl) | (simp (disch := omega) only [IntWalk.u64_in, IntWalk.i64_in, IntWalk.u8_in]; rfl)) ?_; (with_reducible refine (key_Make.calls kj18 a1_0 a1_1 a1_2 t281 t282 _ A39.out).mono ?_); rintro e w90 ⟨rfl, hb⟩; refine ⟨_, rfl, ?_⟩; have n0_ := Aside0.mk (blk_below (g := gb271) (o := .cells #[.int .i64 a0_0, .string a0_1, .int .u64 a0_2] 24 (0, 0)) (by (with_reducible repeat (first | refine blk_drewN ?_ _ | refine blk_drew ?_ | refine blk_alloc ?_ _)); exact BK271.out) hb); have n1_ := Aside0.mk (blk_below (g := gb272) (o := .cells #[.int .i64 a1_0, .string a1_1, .int .u64 a1_2] 24 (0, 0)) (by (with_reducible repeat (first | refine blk_drewN ?_ _ | refine blk_drew ?_ | refine blk_alloc ?_ _)); exact BK272.out) hb); have n2_ := Aside0.mk (below_step (by repeat (first | (with_reducible first | exact HB.out | apply below_alloc | apply pw_below_drewN | apply below_drew1 | refine below_set ?_ GE271.out | refine below_set ?_ GE272.out) | exact HB.out)) hb); clear BK271; clear BK272; clear HB; have BK271 := n0_; have BK272 := n1_; have HB := n2_; clear n0_ n1_ n2_; (try clear hb); (try clear hb2); (try clear hk); (try clear hi); (try clear A39); have hcz91_0 : w90.cell? ⟨gb272, 0, none⟩ = some (.int .i64 a1_0) := (blk_cell BK272.out 0).trans rfl; have hcz91_1 : w90.cell? ⟨gb272, 1, none⟩ = some (.string a1_1) := (blk_cell BK272.out 1).trans rfl; have hcz91_2 : w90.cell? ⟨gb272, 2, none⟩ = some (.int .u64 a1_2) := (blk_cell BK272.out 2).trans rfl; have hfz91_0 := blk_frozen BK272.out 0; have hfz91_1 := blk_frozen BK272.out 1; have hfz91_2 := blk_frozen BK272.out 2; have hcz92_0 : w90.cell? ⟨gb271, 0, none⟩ = some (.int .i64 a0_0) := (blk_cell BK271.out 0).trans rfl; have hcz92_1 : w90.cell? ⟨gb271, 1, none⟩ = some (.string a0_1) := (blk_cell BK271.out 1).trans rfl; have hcz92_2 : w90.cell? ⟨gb271, 2, none⟩ = some (.int .u64 a0_2) := (blk_cell BK271.out 2).trans rfl; have hfz92_0 := blk_frozen BK271.out 0; have hfz92_1 := blk_frozen BK271.out 1; have hfz92_2 := blk_frozen BK271.out 2))
                            go_ret
                            exact ⟨by first | rfl | (simp [errW_none, errW_some] <;> rfl) | (simp (disch := omega) only [← i64_w, IntWalk.i64_in]; rfl) | (simp [*, errW_none, errW_some] <;> rfl), by repeat (first | (with_reducible first | exact HB.out | apply below_alloc | apply pw_below_drewN | apply below_drew1 | refine below_set ?_ GE271.out | refine below_set ?_ GE272.out) | exact HB.out)⟩
                        · rw [if_neg c81] at H
                          exact absurd H (by simp)
                  · rw [if_neg c41] at H
                    have c41b0 : (t282 == 0) = false := beq_eq_false_iff_ne.mpr c41
                    have c41b1 : (t282 != 0) = true := bne_iff_ne.mpr c41
                    obtain rfl := Option.some.inj H
                    have hnb93 := NB272_271.out
                    have hnc93 := NB271_272.out
                    have hcz94_0 : wc.cell? ⟨gb272, 0, none⟩ = some (.int .i64 a1_0) := (blk_cell BK272.out 0).trans rfl
                    have hcz94_1 : wc.cell? ⟨gb272, 1, none⟩ = some (.string a1_1) := (blk_cell BK272.out 1).trans rfl
                    have hcz94_2 : wc.cell? ⟨gb272, 2, none⟩ = some (.int .u64 a1_2) := (blk_cell BK272.out 2).trans rfl
                    have hfz94_0 := blk_frozen BK272.out 0
                    have hfz94_1 := blk_frozen BK272.out 1
                    have hfz94_2 := blk_frozen BK272.out 2
                    go_wp2_with (first | ((with_reducible refine gate_callee (f := 11) rfl ?_); refine goesL_ (some 67) rfl rfl Try.func11 (by kernel_rfl) rfl #[.agg #[.int .i64 a1_0, .string a1_1, .int .u64 a1_2]] rfl (by (try simp only [List.map_toArray, List.map_cons, List.map_nil]); first | done | rfl | (simp only [List.length_drop, List.length_take]; rfl) | (simp (disch := omega) only [IntWalk.u64_in, IntWalk.i64_in, IntWalk.u8_in]; rfl)) ?_; (with_reducible refine (key_Make.calls kj18 a1_0 a1_1 a1_2 t281 t282 _ A39.out).mono ?_); rintro e w95 ⟨rfl, hb⟩; refine ⟨_, rfl, ?_⟩; have n0_ := Aside0.mk (blk_below (g := gb271) (o := .cells #[.int .i64 a0_0, .string a0_1, .int .u64 a0_2] 24 (0, 0)) (by (with_reducible repeat (first | refine blk_drewN ?_ _ | refine blk_drew ?_ | refine blk_alloc ?_ _)); exact BK271.out) hb); have n1_ := Aside0.mk (blk_below (g := gb272) (o := .cells #[.int .i64 a1_0, .string a1_1, .int .u64 a1_2] 24 (0, 0)) (by (with_reducible repeat (first | refine blk_drewN ?_ _ | refine blk_drew ?_ | refine blk_alloc ?_ _)); exact BK272.out) hb); have n2_ := Aside0.mk (below_step (by repeat (first | (with_reducible first | exact HB.out | apply below_alloc | apply pw_below_drewN | apply below_drew1 | refine below_set ?_ GE271.out | refine below_set ?_ GE272.out) | exact HB.out)) hb); clear BK271; clear BK272; clear HB; have BK271 := n0_; have BK272 := n1_; have HB := n2_; clear n0_ n1_ n2_; (try clear hb); (try clear hb2); (try clear hk); (try clear hi); (try clear A39)))
                    go_ret
                    exact ⟨by first | rfl | (simp [errW_none, errW_some] <;> rfl) | (simp (disch := omega) only [← i64_w, IntWalk.i64_in]; rfl) | (simp [*, errW_none, errW_some] <;> rfl), by repeat (first | (with_reducible first | exact HB.out | apply below_alloc | apply pw_below_drewN | apply below_drew1 | refine below_set ?_ GE271.out | refine below_set ?_ GE272.out) | exact HB.out)⟩
                · rw [if_neg c40] at H
                  have c40b0 : (t275 == 0) = false := beq_eq_false_iff_ne.mpr c40
                  have c40b1 : (t275 != 0) = true := bne_iff_ne.mpr c40
                  by_cases c96 : t274.toList = ([] : List UInt8)
                  · rw [if_pos c96] at H
                    have c96b0 : (t274.toList == ([] : List UInt8)) = true := beq_iff_eq.mpr c96
                    have c96b1 : (t274.toList != ([] : List UInt8)) = false := bne_eq_false_iff_eq.mpr c96
                    clear c96
                    obtain rfl := Option.some.inj H
                    have hnb97 := NB272_271.out
                    have hnc97 := NB271_272.out
                    have hcz98_0 : wc.cell? ⟨gb272, 0, none⟩ = some (.int .i64 a1_0) := (blk_cell BK272.out 0).trans rfl
                    have hcz98_1 : wc.cell? ⟨gb272, 1, none⟩ = some (.string a1_1) := (blk_cell BK272.out 1).trans rfl
                    have hcz98_2 : wc.cell? ⟨gb272, 2, none⟩ = some (.int .u64 a1_2) := (blk_cell BK272.out 2).trans rfl
                    have hfz98_0 := blk_frozen BK272.out 0
                    have hfz98_1 := blk_frozen BK272.out 1
                    have hfz98_2 := blk_frozen BK272.out 2
                    go_wp2_with (first | ((with_reducible refine gate_callee (f := 11) rfl ?_); refine goesL_ (some 67) rfl rfl Try.func11 (by kernel_rfl) rfl #[.agg #[.int .i64 a1_0, .string a1_1, .int .u64 a1_2]] rfl (by (try simp only [List.map_toArray, List.map_cons, List.map_nil]); first | done | rfl | (simp only [List.length_drop, List.length_take]; rfl) | (simp (disch := omega) only [IntWalk.u64_in, IntWalk.i64_in, IntWalk.u8_in]; rfl)) ?_; (with_reducible refine (key_Make.calls kj18 a1_0 a1_1 a1_2 t281 t282 _ A39.out).mono ?_); rintro e w99 ⟨rfl, hb⟩; refine ⟨_, rfl, ?_⟩; have n0_ := Aside0.mk (blk_below (g := gb271) (o := .cells #[.int .i64 a0_0, .string a0_1, .int .u64 a0_2] 24 (0, 0)) (by (with_reducible repeat (first | refine blk_drewN ?_ _ | refine blk_drew ?_ | refine blk_alloc ?_ _)); exact BK271.out) hb); have n1_ := Aside0.mk (blk_below (g := gb272) (o := .cells #[.int .i64 a1_0, .string a1_1, .int .u64 a1_2] 24 (0, 0)) (by (with_reducible repeat (first | refine blk_drewN ?_ _ | refine blk_drew ?_ | refine blk_alloc ?_ _)); exact BK272.out) hb); have n2_ := Aside0.mk (below_step (by repeat (first | (with_reducible first | exact HB.out | apply below_alloc | apply pw_below_drewN | apply below_drew1 | refine below_set ?_ GE271.out | refine below_set ?_ GE272.out) | exact HB.out)) hb); clear BK271; clear BK272; clear HB; have BK271 := n0_; have BK272 := n1_; have HB := n2_; clear n0_ n1_ n2_; (try clear hb); (try clear hb2); (try clear hk); (try clear hi); (try clear A39)))
                    go_ret
                    exact ⟨by first | rfl | (simp [errW_none, errW_some] <;> rfl) | (simp (disch := omega) only [← i64_w, IntWalk.i64_in]; rfl) | (simp [*, errW_none, errW_some] <;> rfl), by repeat (first | (with_reducible first | exact HB.out | apply below_alloc | apply pw_below_drewN | apply below_drew1 | refine below_set ?_ GE271.out | refine below_set ?_ GE272.out) | exact HB.out)⟩
                  · rw [if_neg c96] at H
                    exact absurd H (by simp)
  · replace c4 := Bool.eq_false_iff.mpr c4
    subst c4
    have H1 : (none) = some r := by rw [if_neg (show ¬ (false = true) by decide)] at H; exact H
    clear H
    have H := H1
    clear H1
    exact absurd H (by simp)

/-! ### screelaw02_KeyEscapes: function 8 -/
def screelaw02_KeyEscapes.fin (a b : ByteArray) (p q : ByteArray × Int) : Option Bool :=
  if (p.2 = 0 ↔ (1 ≤ a.size ∧ a.size ≤ 24)) then (if p.2 ≠ 0 ∨ q.2 ≠ 0 then some true else (if Op.bytesLess p.1.toList q.1.toList = Op.bytesLess a.toList b.toList ∧ p.1.size ≤ 1000 ∧ q.1.size ≤ 1000 ∧ (a.toList = b.toList ∧ p.1.toList = q.1.toList ∨ a.toList ≠ b.toList ∧ p.1.toList ≠ q.1.toList ∧ (p.1.extract 0 (min p.1.size q.1.size)).toList ≠ (q.1.extract 0 (min p.1.size q.1.size)).toList) then some true else none)) else none
def screelaw02_KeyEscapes.f (k : Nat) (a0 : ByteArray) (a1 : ByteArray) : Option Bool :=
  (screelaw02_awake.f k).bind fun t => if t = true then (if 1024 < a0.size ∨ 1024 < a1.size then some true else (key_Escape.f a0).bind fun p => (key_Escape.f a1).bind fun q => screelaw02_KeyEscapes.fin a0 a1 p q) else none
theorem screelaw02_KeyEscapes.mono : ∀ a0 a1 k, LeO (screelaw02_KeyEscapes.f k a0 a1) (screelaw02_KeyEscapes.f (k + 1) a0 a1) := by
  intro a0 a1 k
  unfold screelaw02_KeyEscapes.f
  exact LeO.bind (screelaw02_awake.mono _) (fun _ => LeO.refl _)
theorem screelaw02_KeyEscapes.same_size {x y : ByteArray} (h : x.toList = y.toList) : x.size = y.size := by
  have e : Th.bl x = Th.bl y := by
    rw [← Th.lb_bl x, ← Th.lb_bl y, Th.lb_toList, Th.lb_toList] at h
    exact h
  have e2 : x = y := by rw [← Th.lb_bl x, ← Th.lb_bl y, e]
  rw [e2]
set_option maxHeartbeats 3200000 in
set_option maxRecDepth 100000 in
theorem screelaw02_KeyEscapes.calls (k : Nat) (a0 : ByteArray) (a1 : ByteArray) (r : Bool) (w : World) (h : screelaw02_KeyEscapes.f k a0 a1 = some r) :
    Calls Try.prog 8 #[.string a0, .string a1] w fun e w' => e = .returned (.bool r) ∧ Below w.heap.size w w' := by
  unfold screelaw02_KeyEscapes.f at h
  replace h := Option.bind_eq_some_iff.mp h
  obtain ⟨t, hA, h⟩ := h
  cases t with
  | false => exact absurd h (by simp)
  | true =>
  rw [if_pos rfl] at h
  have HA := Lib.hid hA
  clear hA
  by_cases hbig : 1024 < a0.size ∨ 1024 < a1.size
  · rw [if_pos hbig] at h
    simp only [Option.some.injEq] at h
    subst h
    by_cases h1 : 1024 < a0.size
    · have d1 : decide (1024 < (a0.size : Int)) = true := decide_eq_true (by omega)
      clear hbig h1
      go_enter Try.func8, Try.ntmps8
      go_wp2_with (go_at_call 10; (refine (screelaw02_awake.calls k true _ HA.out).mono ?_); rintro e w1 ⟨rfl, hb⟩)
      go_ret
      exact ⟨rfl, hb⟩
    · have d1 : decide (1024 < (a0.size : Int)) = false := decide_eq_false (by omega)
      have d2 : decide (1024 < (a1.size : Int)) = true := decide_eq_true (by omega)
      clear hbig h1
      go_enter Try.func8, Try.ntmps8
      go_wp2_with (go_at_call 10; (refine (screelaw02_awake.calls k true _ HA.out).mono ?_); rintro e w1 ⟨rfl, hb⟩)
      go_ret
      exact ⟨rfl, hb⟩
  · rw [if_neg hbig] at h
    have d1 : decide (1024 < (a0.size : Int)) = false := decide_eq_false (by omega)
    have d2 : decide (1024 < (a1.size : Int)) = false := decide_eq_false (by omega)
    clear hbig
    replace h := Option.bind_eq_some_iff.mp h
    obtain ⟨⟨x, e1⟩, hX, h⟩ := h
    replace h := Option.bind_eq_some_iff.mp h
    obtain ⟨⟨y, e2⟩, hY, h⟩ := h
    have HX := Lib.hid hX
    have HY := Lib.hid hY
    clear hX hY
    unfold screelaw02_KeyEscapes.fin at h
    by_cases hi : ((x, e1).2 = 0 ↔ (1 ≤ a0.size ∧ a0.size ≤ 24))
    case neg => rw [if_neg hi] at h; exact absurd h (by simp)
    rw [if_pos hi] at h
    have hi2 : (e1 = 0 ↔ (1 ≤ a0.size ∧ a0.size ≤ 24)) := hi
    clear hi
    by_cases he1 : e1 = 0
    · subst he1
      have hs := hi2.1 rfl
      have d3 : decide (1 ≤ (a0.size : Int)) = true := decide_eq_true (by omega)
      have d4 : decide ((a0.size : Int) ≤ 24) = true := decide_eq_true (by omega)
      clear hi2 hs
      by_cases he2 : e2 = 0
      · subst he2
        rw [if_neg (by simp)] at h
        by_cases hc : Op.bytesLess (x, (0 : Int)).1.toList (y, (0 : Int)).1.toList = Op.bytesLess a0.toList a1.toList ∧ (x, (0 : Int)).1.size ≤ 1000 ∧ (y, (0 : Int)).1.size ≤ 1000 ∧ (a0.toList = a1.toList ∧ (x, (0 : Int)).1.toList = (y, (0 : Int)).1.toList ∨ a0.toList ≠ a1.toList ∧ (x, (0 : Int)).1.toList ≠ (y, (0 : Int)).1.toList ∧ ((x, (0 : Int)).1.extract 0 (min (x, (0 : Int)).1.size (y, (0 : Int)).1.size)).toList ≠ ((y, (0 : Int)).1.extract 0 (min (x, (0 : Int)).1.size (y, (0 : Int)).1.size)).toList)
        case neg => rw [if_neg hc] at h; exact absurd h (by simp)
        rw [if_pos hc] at h
        simp only [Option.some.injEq] at h
        subst h
        simp only at hc
        obtain ⟨hL, hx, hy, hc⟩ := hc
        obtain ⟨bb, hbb⟩ : ∃ bb, bb = Op.bytesLess a0.toList a1.toList := ⟨_, rfl⟩
        rw [← hbb] at hL
        have hbb2 := hbb.symm
        clear hbb
        rcases hc with ⟨hab, hxy⟩ | ⟨hab, hxy, hne⟩
        · have q1 : (a0.toList == a1.toList) = true := beq_iff_eq.mpr hab
          have q2 : (x.toList == y.toList) = true := beq_iff_eq.mpr hxy
          have hle : x.size ≤ y.size := Nat.le_of_eq (screelaw02_KeyEscapes.same_size hxy)
          clear hab hxy
          cases bb
          all_goals
            go_enter Try.func8, Try.ntmps8
            go_wp2_with (first
              | (go_at_call 10; (refine (screelaw02_awake.calls k true _ HA.out).mono ?_); rintro e w1 ⟨rfl, hb⟩; have HB1 := Aside0.mk hb; clear hb)
              | (go_at_call 20; have z_ := HB1; (refine (key_Escape.calls a0 x 0 _ HX.out).mono ?_); rintro e w2 ⟨rfl, hb⟩; have HB2 := Aside0.mk (below_step HB1.out hb); clear HB1 z_ hb)
              | (go_at_call 20; (refine (key_Escape.calls a1 y 0 _ HY.out).mono ?_); rintro e w3 ⟨rfl, hb⟩; have HB3 := Aside0.mk (below_step HB2.out hb); clear HB2 hb))
            go_quiet (fail)
            go_wp2
            go_ret
            exact ⟨rfl, pw_below_drewN HB3.out _⟩
        · have q1 : (a0.toList == a1.toList) = false := beq_eq_false_iff_ne.mpr hab
          have q2 : (x.toList == y.toList) = false := beq_eq_false_iff_ne.mpr hxy
          clear hab hxy
          rcases Nat.lt_or_ge y.size x.size with hlt | hle
          · rw [Nat.min_eq_right (Nat.le_of_lt hlt)] at hne
            rw [ByteArray.extract_zero_size] at hne
            have q3 : ((x.extract 0 y.size).toList == y.toList) = false := beq_eq_false_iff_ne.mpr hne
            clear hne
            cases bb
            all_goals
              go_enter Try.func8, Try.ntmps8
              go_wp2_with (first
                | (go_at_call 10; (refine (screelaw02_awake.calls k true _ HA.out).mono ?_); rintro e w1 ⟨rfl, hb⟩; have HB1 := Aside0.mk hb; clear hb)
                | (go_at_call 20; have z_ := HB1; (refine (key_Escape.calls a0 x 0 _ HX.out).mono ?_); rintro e w2 ⟨rfl, hb⟩; have HB2 := Aside0.mk (below_step HB1.out hb); clear HB1 z_ hb)
                | (go_at_call 20; (refine (key_Escape.calls a1 y 0 _ HY.out).mono ?_); rintro e w3 ⟨rfl, hb⟩; have HB3 := Aside0.mk (below_step HB2.out hb); clear HB2 hb))
              go_quiet (fail)
              go_wp2
              go_ret
              exact ⟨rfl, pw_below_drewN HB3.out _⟩
          · rw [Nat.min_eq_left hle] at hne
            rw [ByteArray.extract_zero_size] at hne
            have q3 : (x.toList == (y.extract 0 x.size).toList) = false := beq_eq_false_iff_ne.mpr hne
            clear hne
            cases bb
            all_goals
              go_enter Try.func8, Try.ntmps8
              go_wp2_with (first
                | (go_at_call 10; (refine (screelaw02_awake.calls k true _ HA.out).mono ?_); rintro e w1 ⟨rfl, hb⟩; have HB1 := Aside0.mk hb; clear hb)
                | (go_at_call 20; have z_ := HB1; (refine (key_Escape.calls a0 x 0 _ HX.out).mono ?_); rintro e w2 ⟨rfl, hb⟩; have HB2 := Aside0.mk (below_step HB1.out hb); clear HB1 z_ hb)
                | (go_at_call 20; (refine (key_Escape.calls a1 y 0 _ HY.out).mono ?_); rintro e w3 ⟨rfl, hb⟩; have HB3 := Aside0.mk (below_step HB2.out hb); clear HB2 hb))
              go_quiet (fail)
              go_wp2
              go_ret
              exact ⟨rfl, pw_below_drewN HB3.out _⟩
      · have q1 : (e2 == 0) = false := beq_eq_false_iff_ne.mpr he2
        have q2 : (e2 != 0) = true := bne_iff_ne.mpr he2
        rw [if_pos (by simpa using he2)] at h
        simp only [Option.some.injEq] at h
        subst h
        go_enter Try.func8, Try.ntmps8
        go_wp2_with (first
          | (go_at_call 10; (refine (screelaw02_awake.calls k true _ HA.out).mono ?_); rintro e w1 ⟨rfl, hb⟩; have HB1 := Aside0.mk hb; clear hb)
          | (go_at_call 20; have z_ := HB1; (refine (key_Escape.calls a0 x 0 _ HX.out).mono ?_); rintro e w2 ⟨rfl, hb⟩; have HB2 := Aside0.mk (below_step HB1.out hb); clear HB1 z_ hb)
          | (go_at_call 20; (refine (key_Escape.calls a1 y e2 _ HY.out).mono ?_); rintro e w3 ⟨rfl, hb⟩; have HB3 := Aside0.mk (below_step HB2.out hb); clear HB2 hb))
        go_ret
        exact ⟨rfl, HB3.out⟩
    · have q1 : (e1 == 0) = false := beq_eq_false_iff_ne.mpr he1
      have q2 : (e1 != 0) = true := bne_iff_ne.mpr he1
      rw [if_pos (by simp [he1])] at h
      simp only [Option.some.injEq] at h
      subst h
      by_cases h1 : 1 ≤ a0.size
      · have d3 : decide (1 ≤ (a0.size : Int)) = true := decide_eq_true (by omega)
        have d4 : decide ((a0.size : Int) ≤ 24) = false := decide_eq_false (fun e => he1 (hi2.2 ⟨h1, by omega⟩))
        clear hi2 h1
        go_enter Try.func8, Try.ntmps8
        go_wp2_with (first
          | (go_at_call 10; (refine (screelaw02_awake.calls k true _ HA.out).mono ?_); rintro e w1 ⟨rfl, hb⟩; have HB1 := Aside0.mk hb; clear hb)
          | (go_at_call 20; have z_ := HB1; (refine (key_Escape.calls a0 x e1 _ HX.out).mono ?_); rintro e w2 ⟨rfl, hb⟩; have HB2 := Aside0.mk (below_step HB1.out hb); clear HB1 z_ hb)
          | (go_at_call 20; (refine (key_Escape.calls a1 y e2 _ HY.out).mono ?_); rintro e w3 ⟨rfl, hb⟩; have HB3 := Aside0.mk (below_step HB2.out hb); clear HB2 hb))
        go_ret
        exact ⟨rfl, HB3.out⟩
      · have d3 : decide (1 ≤ (a0.size : Int)) = false := decide_eq_false (by omega)
        clear hi2 h1
        go_enter Try.func8, Try.ntmps8
        go_wp2_with (first
          | (go_at_call 10; (refine (screelaw02_awake.calls k true _ HA.out).mono ?_); rintro e w1 ⟨rfl, hb⟩; have HB1 := Aside0.mk hb; clear hb)
          | (go_at_call 20; have z_ := HB1; (refine (key_Escape.calls a0 x e1 _ HX.out).mono ?_); rintro e w2 ⟨rfl, hb⟩; have HB2 := Aside0.mk (below_step HB1.out hb); clear HB1 z_ hb)
          | (go_at_call 20; (refine (key_Escape.calls a1 y e2 _ HY.out).mono ?_); rintro e w3 ⟨rfl, hb⟩; have HB3 := Aside0.mk (below_step HB2.out hb); clear HB2 hb))
        go_ret
        exact ⟨rfl, HB3.out⟩

end Go.Proofs.Ytachminlgcndnaa.P
