-- Printed by a program of this session's own (wip/tools/pprint.sh, over the kit's print, with given contracts): not typed by hand.
import Derived.Test.YtgdkikkjaofbfaaPx0
namespace Go.Proofs.Ytgdkikkjaofbfaa.P
open Go.RowKit Go.Proofs.YtgdkikkjaofbfaaW.PrintWords Go.Proofs.YtgdkikkjaofbfaaW.PrintLast Go.Proofs.YtgdkikkjaofbfaaW.PrintMore
attribute [local go_sem] max2_int min2_int max_two min_two max_three min_three max_four min_four   -- for this text's walks alone
set_option linter.unusedVariables false
set_option linter.unusedSimpArgs false
-- SQUEEZED4
-- SQUEEZED3

/-! ### qI: function 54 -/
def qI.j0 : Nat → Bool → ByteArray → Int → Bool → ByteArray → ByteArray → Int → Bool → ByteArray → Option (Int)
 | 0, _, _, _, _, _, _, _, _, _ => none
 | k + 1, x5, x102000, x102001, x102002, x102003, x103000, x103001, x103002, x103003 => if x5 = true then (some (-1)) else (if x102000.toList = x103000.toList then (if x102001 = x103001 then (some 0) else (some 1)) else (some 1))
def qI.f (k : Nat) (a0_0 : ByteArray) (a0_1 : Int) (a0_2 : Bool) (a0_3 : ByteArray) (a1_0 : ByteArray) (a1_1 : Int) (a1_2 : Bool) (a1_3 : ByteArray) : Option (Int) := if (Op.bytesLess a0_0.toList a1_0.toList) = true then (qI.j0 k true a0_0 a0_1 a0_2 a0_3 a1_0 a1_1 a1_2 a1_3) else (if a0_0.toList = a1_0.toList then (qI.j0 k (decide (a0_1 > a1_1)) a0_0 a0_1 a0_2 a0_3 a1_0 a1_1 a1_2 a1_3) else (qI.j0 k false a0_0 a0_1 a0_2 a0_3 a1_0 a1_1 a1_2 a1_3))
theorem qI.mono_l : ∀ k, (∀ y0 y1 y2 y3 y4 y5 y6 y7 y8, LeO (qI.j0 k y0 y1 y2 y3 y4 y5 y6 y7 y8) (qI.j0 (k + 1) y0 y1 y2 y3 y4 y5 y6 y7 y8))
 | 0 => fun _ _ _ _ _ _ _ _ _ r h => by simp [qI.j0] at h
 | k + 1 => by
  have ih0 := qI.mono_l k
  ·intro y0 y1 y2 y3 y4 y5 y6 y7 y8
   unfold qI.j0
   repeat' first
   | (with_reducible exact ih0 _ _ _ _ _ _ _ _ _)
   | (with_reducible exact LeO.refl _)
   | (with_reducible exact LeO.none _)
   | (with_reducible refine LeO.ite ?_ ?_)
   | (with_reducible refine LeO.bind ?_ (fun _ => ?_))
   | exact ih0 _ _ _ _ _ _ _ _ _
   | exact LeO.none _
   | refine LeO.ite ?_ ?_
   | refine LeO.bind ?_ (fun _ => ?_)
theorem qI.mono : ∀ a0 a1 a2 a3 a4 a5 a6 a7 k, LeO (qI.f k a0 a1 a2 a3 a4 a5 a6 a7) (qI.f (k + 1) a0 a1 a2 a3 a4 a5 a6 a7) := by
 intro a0 a1 a2 a3 a4 a5 a6 a7 k
 have ih0 := qI.mono_l k
 unfold qI.f
 repeat' first
   | (with_reducible exact ih0 _ _ _ _ _ _ _ _ _)
   | (with_reducible exact LeO.refl _)
   | (with_reducible exact LeO.none _)
   | (with_reducible refine LeO.ite ?_ ?_)
   | (with_reducible refine LeO.bind ?_ (fun _ => ?_))
   | exact ih0 _ _ _ _ _ _ _ _ _
   | exact LeO.none _
   | refine LeO.ite ?_ ?_
   | refine LeO.bind ?_ (fun _ => ?_)
set_option maxHeartbeats 8000000 in
set_option maxRecDepth 100000 in
theorem qI.calls (k : Nat) (a0_0 : ByteArray) (a0_1 : Int) (a0_2 : Bool) (a0_3 : ByteArray) (a1_0 : ByteArray) (a1_1 : Int) (a1_2 : Bool) (a1_3 : ByteArray) (r : Int) (w : World) (h : qI.f k a0_0 a0_1 a0_2 a0_3 a1_0 a1_1 a1_2 a1_3 = some r) :
  Calls Try.prog 54 #[.agg #[.string a0_0, .int .u64 a0_1, .bool a0_2, .string a0_3], .agg #[.string a1_0, .int .u64 a1_1, .bool a1_2, .string a1_3]] w fun e w' => e = .returned (.int .i64 r) ∧ Below w.heap.size w w' := by
 have hu37 := Try.underlying37
 have HB := Aside0.mk (Below.refl w.heap.size w)
 have H : (if (Op.bytesLess a0_0.toList a1_0.toList) = true then (qI.j0 k true a0_0 a0_1 a0_2 a0_3 a1_0 a1_1 a1_2 a1_3) else (if a0_0.toList = a1_0.toList then (qI.j0 k (decide (a0_1 > a1_1)) a0_0 a0_1 a0_2 a0_3 a1_0 a1_1 a1_2 a1_3) else (qI.j0 k false a0_0 a0_1 a0_2 a0_3 a1_0 a1_1 a1_2 a1_3))) = some r := h
 clear h
 have HC3 := Aside0.mk H
 clear H
 go_enter Try.func54, Try.ntmps54
 go_upto_region 1 with (first | ((with_reducible refine gate_dst (N := 2) rfl ?_); refine box_event ?hg (N := 2) ?hd (cs := #[.string a0_0, .int .u64 a0_1, .bool a0_2, .string a0_3]) (t := 37) ?hr ?_; (case hd => rfl); (case hg => rfl); (case hr => first | (go_simp; done) | (go_simp; rfl)); intro gb101 hg w4 hbox hb; have BK101 := Aside0.mk (hbox); have GW101 := Aside0.mk ((by rw [hg]; exact (below_size hB_) : w.heap.size ≤ gb101)); have GE101 := Aside0.mk ((by rw [hg]; exact (below_size hB_) : w.heap.size ≤ gb101)); replace HB := Aside0.mk (below_step hB_ hb); clear hb hbox hg) | ((with_reducible refine gate_dst (N := 3) rfl ?_); refine box_event ?hg (N := 3) ?hd (cs := #[.string a1_0, .int .u64 a1_1, .bool a1_2, .string a1_3]) (t := 37) ?hr ?_; (case hd => rfl); (case hg => rfl); (case hr => first | (go_simp; done) | (go_simp; rfl)); intro gb102 hg w5 hbox hb; have BK102 := Aside0.mk (hbox); have GW102 := Aside0.mk ((by rw [hg]; exact (below_size r40_) : w.heap.size ≤ gb102)); have GE102 := Aside0.mk ((by rw [hg]; exact (below_size r40_) : w.heap.size ≤ gb102)); replace HB := Aside0.mk (below_step r40_ hb); have NB101_102 := Aside0.mk ((by rw [hg]; exact Nat.ne_of_lt (blk_lt (g := gb101) (o := .cells #[.string a0_0, .int .u64 a0_1, .bool a0_2, .string a0_3] 37 (0, 0)) r26_) : gb101 ≠ gb102)); have NB102_101 := Aside0.mk ((by rw [hg]; exact Nat.ne_of_gt (blk_lt (g := gb101) (o := .cells #[.string a0_0, .int .u64 a0_1, .bool a0_2, .string a0_3] 37 (0, 0)) r26_) : gb102 ≠ gb101)); replace BK101 := Aside0.mk (blk_below (g := gb101) (o := .cells #[.string a0_0, .int .u64 a0_1, .bool a0_2, .string a0_3] 37 (0, 0)) r26_ hb); clear hb hbox hg))
 (try simp only [Act.put, sp_])
 go_cut [5] (fun v5 wc => ∃ (kq : Nat) (x5_2 : Bool), v5 = .bool x5_2 ∧ Aside0 (qI.j0 kq x5_2 a0_0 a0_1 a0_2 a0_3 a1_0 a1_1 a1_2 a1_3 = some r) ∧ Aside0 (kq ≤ k) ∧ Aside0 (wc.heap[gb101]? = some (.cells #[.string a0_0, .int .u64 a0_1, .bool a0_2, .string a0_3] 37 (0, 0))) ∧ Aside0 (wc.heap[gb102]? = some (.cells #[.string a1_0, .int .u64 a1_1, .bool a1_2, .string a1_3] 37 (0, 0))) ∧ Aside0 (Below w.heap.size w wc))
 case first =>
  have H := HC3.out
  clear HC3
  by_cases c6 : (Op.bytesLess a0_0.toList a1_0.toList) = true
  ·rw [if_pos c6] at H
   have c6b0 : (Op.bytesLess a0_0.toList a1_0.toList) = true := c6
   clear c6
   (first | rw [c6b0] | (simp only [i64_w, i32_w]; rw [c6b0]) | skip)
   have H' := Aside0.mk H
   clear H
   have hnb7 := NB101_102.out
   have hnc7 := NB102_101.out
   have hcz8_0 : w5.cell? ⟨gb101, 0, none⟩ = some (.string a0_0) := (blk_cell BK101.out 0).trans rfl
   have hcz8_1 : w5.cell? ⟨gb101, 1, none⟩ = some (.int .u64 a0_1) := (blk_cell BK101.out 1).trans rfl
   have hcz8_2 : w5.cell? ⟨gb101, 2, none⟩ = some (.bool a0_2) := (blk_cell BK101.out 2).trans rfl
   have hcz8_3 : w5.cell? ⟨gb101, 3, none⟩ = some (.string a0_3) := (blk_cell BK101.out 3).trans rfl
   have hfz8_0 := blk_frozen BK101.out 0
   have hfz8_1 := blk_frozen BK101.out 1
   have hfz8_2 := blk_frozen BK101.out 2
   have hfz8_3 := blk_frozen BK101.out 3
   have hcz9_0 : w5.cell? ⟨gb102, 0, none⟩ = some (.string a1_0) := (blk_cell BK102.out 0).trans rfl
   have hcz9_1 : w5.cell? ⟨gb102, 1, none⟩ = some (.int .u64 a1_1) := (blk_cell BK102.out 1).trans rfl
   have hcz9_2 : w5.cell? ⟨gb102, 2, none⟩ = some (.bool a1_2) := (blk_cell BK102.out 2).trans rfl
   have hcz9_3 : w5.cell? ⟨gb102, 3, none⟩ = some (.string a1_3) := (blk_cell BK102.out 3).trans rfl
   have hfz9_0 := blk_frozen BK102.out 0
   have hfz9_1 := blk_frozen BK102.out 1
   have hfz9_2 := blk_frozen BK102.out 2
   have hfz9_3 := blk_frozen BK102.out 3
   go_wp2
   go_meet
   case rel => exact ⟨_, (true), rs_, hH_, ⟨by first | omega | exact Nat.le_refl _⟩, ⟨r26_⟩, ⟨r43_⟩, ⟨r20_⟩⟩
  rw [if_neg c6] at H
  have c6b0 : (Op.bytesLess a0_0.toList a1_0.toList) = false := by simpa using c6
  clear c6
  (first | rw [c6b0] | (simp only [i64_w, i32_w]; rw [c6b0]) | skip)
  by_cases c10 : a0_0.toList = a1_0.toList
  rotate_left
  ·rw [if_neg c10] at H
   have c10b0 := beq_eq_false_iff_ne.mpr c10
   have c10b1 := bne_iff_ne.mpr c10
   have H' := Aside0.mk H
   clear H
   have hnb14 := NB101_102.out
   have hnc14 := NB102_101.out
   have hcz15_0 : w5.cell? ⟨gb101, 0, none⟩ = some (.string a0_0) := (blk_cell BK101.out 0).trans rfl
   have hcz15_1 : w5.cell? ⟨gb101, 1, none⟩ = some (.int .u64 a0_1) := (blk_cell BK101.out 1).trans rfl
   have hcz15_2 : w5.cell? ⟨gb101, 2, none⟩ = some (.bool a0_2) := (blk_cell BK101.out 2).trans rfl
   have hcz15_3 : w5.cell? ⟨gb101, 3, none⟩ = some (.string a0_3) := (blk_cell BK101.out 3).trans rfl
   have hfz15_0 := blk_frozen BK101.out 0
   have hfz15_1 := blk_frozen BK101.out 1
   have hfz15_2 := blk_frozen BK101.out 2
   have hfz15_3 := blk_frozen BK101.out 3
   have hcz16_0 : w5.cell? ⟨gb102, 0, none⟩ = some (.string a1_0) := (blk_cell BK102.out 0).trans rfl
   have hcz16_1 : w5.cell? ⟨gb102, 1, none⟩ = some (.int .u64 a1_1) := (blk_cell BK102.out 1).trans rfl
   have hcz16_2 : w5.cell? ⟨gb102, 2, none⟩ = some (.bool a1_2) := (blk_cell BK102.out 2).trans rfl
   have hcz16_3 : w5.cell? ⟨gb102, 3, none⟩ = some (.string a1_3) := (blk_cell BK102.out 3).trans rfl
   have hfz16_0 := blk_frozen BK102.out 0
   have hfz16_1 := blk_frozen BK102.out 1
   have hfz16_2 := blk_frozen BK102.out 2
   have hfz16_3 := blk_frozen BK102.out 3
   go_wp2
   go_meet
   case rel => exact ⟨_, (false), rs_, hH_, ⟨by first | omega | exact Nat.le_refl _⟩, ⟨r26_⟩, ⟨r43_⟩, ⟨r20_⟩⟩
  rw [if_pos c10] at H
  have c10b0 := beq_iff_eq.mpr c10
  have c10b1 := bne_eq_false_iff_eq.mpr c10
  clear c10
  have H' := Aside0.mk H
  clear H
  have hnb11 := NB101_102.out
  have hnc11 := NB102_101.out
  have hcz12_0 : w5.cell? ⟨gb101, 0, none⟩ = some (.string a0_0) := (blk_cell BK101.out 0).trans rfl
  have hcz12_1 : w5.cell? ⟨gb101, 1, none⟩ = some (.int .u64 a0_1) := (blk_cell BK101.out 1).trans rfl
  have hcz12_2 : w5.cell? ⟨gb101, 2, none⟩ = some (.bool a0_2) := (blk_cell BK101.out 2).trans rfl
  have hcz12_3 : w5.cell? ⟨gb101, 3, none⟩ = some (.string a0_3) := (blk_cell BK101.out 3).trans rfl
  have hfz12_0 := blk_frozen BK101.out 0
  have hfz12_1 := blk_frozen BK101.out 1
  have hfz12_2 := blk_frozen BK101.out 2
  have hfz12_3 := blk_frozen BK101.out 3
  have hcz13_0 : w5.cell? ⟨gb102, 0, none⟩ = some (.string a1_0) := (blk_cell BK102.out 0).trans rfl
  have hcz13_1 : w5.cell? ⟨gb102, 1, none⟩ = some (.int .u64 a1_1) := (blk_cell BK102.out 1).trans rfl
  have hcz13_2 : w5.cell? ⟨gb102, 2, none⟩ = some (.bool a1_2) := (blk_cell BK102.out 2).trans rfl
  have hcz13_3 : w5.cell? ⟨gb102, 3, none⟩ = some (.string a1_3) := (blk_cell BK102.out 3).trans rfl
  have hfz13_0 := blk_frozen BK102.out 0
  have hfz13_1 := blk_frozen BK102.out 1
  have hfz13_2 := blk_frozen BK102.out 2
  have hfz13_3 := blk_frozen BK102.out 3
  go_wp2
  go_meet
  case rel => exact ⟨_, (decide (a0_1 > a1_1)), rs_, hH_, ⟨by first | omega | exact Nat.le_refl _⟩, ⟨r26_⟩, ⟨r43_⟩, ⟨r20_⟩⟩
 case rest =>
  clear HC3
  obtain ⟨kq, x5_2, rfl, HA, HJ2, BK101, BK102, HB⟩ := hcut
  cases kq with
  | zero => exact absurd HA.out (by simp [qI.j0])
  | succ kj2 =>
   have H := HA.out
   clear HA
   simp only [qI.j0] at H
   by_cases c17 : x5_2 = true
   ·subst c17
    rw [if_pos rfl] at H
    obtain rfl := Option.some.inj H
    go_wp2
    go_ret
    exact ⟨rf_, r20_⟩
   replace c17 := Bool.eq_false_iff.mpr c17
   subst c17
   rw [if_neg ff_] at H
   by_cases c18 : a0_0.toList = a1_0.toList
   rotate_left
   ·rw [if_neg c18] at H
    have c18b0 := beq_eq_false_iff_ne.mpr c18
    have c18b1 := bne_iff_ne.mpr c18
    obtain rfl := Option.some.inj H
    have hnb26 := NB101_102.out
    have hnc26 := NB102_101.out
    have hcz27_0 : wc.cell? ⟨gb101, 0, none⟩ = some (.string a0_0) := (blk_cell BK101.out 0).trans rfl
    have hcz27_1 : wc.cell? ⟨gb101, 1, none⟩ = some (.int .u64 a0_1) := (blk_cell BK101.out 1).trans rfl
    have hcz27_2 : wc.cell? ⟨gb101, 2, none⟩ = some (.bool a0_2) := (blk_cell BK101.out 2).trans rfl
    have hcz27_3 : wc.cell? ⟨gb101, 3, none⟩ = some (.string a0_3) := (blk_cell BK101.out 3).trans rfl
    have hfz27_0 := blk_frozen BK101.out 0
    have hfz27_1 := blk_frozen BK101.out 1
    have hfz27_2 := blk_frozen BK101.out 2
    have hfz27_3 := blk_frozen BK101.out 3
    have hcz28_0 : wc.cell? ⟨gb102, 0, none⟩ = some (.string a1_0) := (blk_cell BK102.out 0).trans rfl
    have hcz28_1 : wc.cell? ⟨gb102, 1, none⟩ = some (.int .u64 a1_1) := (blk_cell BK102.out 1).trans rfl
    have hcz28_2 : wc.cell? ⟨gb102, 2, none⟩ = some (.bool a1_2) := (blk_cell BK102.out 2).trans rfl
    have hcz28_3 : wc.cell? ⟨gb102, 3, none⟩ = some (.string a1_3) := (blk_cell BK102.out 3).trans rfl
    have hfz28_0 := blk_frozen BK102.out 0
    have hfz28_1 := blk_frozen BK102.out 1
    have hfz28_2 := blk_frozen BK102.out 2
    have hfz28_3 := blk_frozen BK102.out 3
    go_wp2
    go_ret
    exact ⟨rf_, r20_⟩
   rw [if_pos c18] at H
   have c18b0 := beq_iff_eq.mpr c18
   have c18b1 := bne_eq_false_iff_eq.mpr c18
   clear c18
   by_cases c19 : a0_1 = a1_1
   rotate_left
   ·rw [if_neg c19] at H
    have c19b0 := beq_eq_false_iff_ne.mpr c19
    have c19b1 := bne_iff_ne.mpr c19
    obtain rfl := Option.some.inj H
    have hnb23 := NB101_102.out
    have hnc23 := NB102_101.out
    have hcz24_0 : wc.cell? ⟨gb101, 0, none⟩ = some (.string a0_0) := (blk_cell BK101.out 0).trans rfl
    have hcz24_1 : wc.cell? ⟨gb101, 1, none⟩ = some (.int .u64 a0_1) := (blk_cell BK101.out 1).trans rfl
    have hcz24_2 : wc.cell? ⟨gb101, 2, none⟩ = some (.bool a0_2) := (blk_cell BK101.out 2).trans rfl
    have hcz24_3 : wc.cell? ⟨gb101, 3, none⟩ = some (.string a0_3) := (blk_cell BK101.out 3).trans rfl
    have hfz24_0 := blk_frozen BK101.out 0
    have hfz24_1 := blk_frozen BK101.out 1
    have hfz24_2 := blk_frozen BK101.out 2
    have hfz24_3 := blk_frozen BK101.out 3
    have hcz25_0 : wc.cell? ⟨gb102, 0, none⟩ = some (.string a1_0) := (blk_cell BK102.out 0).trans rfl
    have hcz25_1 : wc.cell? ⟨gb102, 1, none⟩ = some (.int .u64 a1_1) := (blk_cell BK102.out 1).trans rfl
    have hcz25_2 : wc.cell? ⟨gb102, 2, none⟩ = some (.bool a1_2) := (blk_cell BK102.out 2).trans rfl
    have hcz25_3 : wc.cell? ⟨gb102, 3, none⟩ = some (.string a1_3) := (blk_cell BK102.out 3).trans rfl
    have hfz25_0 := blk_frozen BK102.out 0
    have hfz25_1 := blk_frozen BK102.out 1
    have hfz25_2 := blk_frozen BK102.out 2
    have hfz25_3 := blk_frozen BK102.out 3
    go_wp2
    go_ret
    exact ⟨rf_, r20_⟩
   rw [if_pos c19] at H
   have c19b0 := beq_iff_eq.mpr c19
   have c19b1 := bne_eq_false_iff_eq.mpr c19
   clear c19
   obtain rfl := Option.some.inj H
   have hnb20 := NB101_102.out
   have hnc20 := NB102_101.out
   have hcz21_0 : wc.cell? ⟨gb101, 0, none⟩ = some (.string a0_0) := (blk_cell BK101.out 0).trans rfl
   have hcz21_1 : wc.cell? ⟨gb101, 1, none⟩ = some (.int .u64 a0_1) := (blk_cell BK101.out 1).trans rfl
   have hcz21_2 : wc.cell? ⟨gb101, 2, none⟩ = some (.bool a0_2) := (blk_cell BK101.out 2).trans rfl
   have hcz21_3 : wc.cell? ⟨gb101, 3, none⟩ = some (.string a0_3) := (blk_cell BK101.out 3).trans rfl
   have hfz21_0 := blk_frozen BK101.out 0
   have hfz21_1 := blk_frozen BK101.out 1
   have hfz21_2 := blk_frozen BK101.out 2
   have hfz21_3 := blk_frozen BK101.out 3
   have hcz22_0 : wc.cell? ⟨gb102, 0, none⟩ = some (.string a1_0) := (blk_cell BK102.out 0).trans rfl
   have hcz22_1 : wc.cell? ⟨gb102, 1, none⟩ = some (.int .u64 a1_1) := (blk_cell BK102.out 1).trans rfl
   have hcz22_2 : wc.cell? ⟨gb102, 2, none⟩ = some (.bool a1_2) := (blk_cell BK102.out 2).trans rfl
   have hcz22_3 : wc.cell? ⟨gb102, 3, none⟩ = some (.string a1_3) := (blk_cell BK102.out 3).trans rfl
   have hfz22_0 := blk_frozen BK102.out 0
   have hfz22_1 := blk_frozen BK102.out 1
   have hfz22_2 := blk_frozen BK102.out 2
   have hfz22_3 := blk_frozen BK102.out 3
   go_wp2
   go_ret
   exact ⟨rf_, r20_⟩

/-! ### qO: function 27 -/
def qO.l0 : Nat → List (S37) → Int → Option (Bool)
 | 0, _, _ => none
 | k + 1, x0, x3 => if x3 < (x0.length : Int) then (if 0 ≤ (wrap64 (x3 - 1)) then (if (wrap64 (x3 - 1)) < (x0.length : Int) then (if 0 ≤ x3 then ((qI.f k ((rd_T37 x0 (wrap64 (x3 - 1))).f0) ((rd_T37 x0 (wrap64 (x3 - 1))).f1) ((rd_T37 x0 (wrap64 (x3 - 1))).f2) ((rd_T37 x0 (wrap64 (x3 - 1))).f3) ((rd_T37 x0 x3).f0) ((rd_T37 x0 x3).f1) ((rd_T37 x0 x3).f2) ((rd_T37 x0 x3).f3)).bind fun t105 => (if t105 ≥ 0 then (some false) else (qO.l0 k x0 (wrap64 (x3 + 1))))) else (none)) else (none)) else (none)) else (some true)
def qO.f (k : Nat) (l0 : List (S37)) : Option (Bool) := qO.l0 k l0 1
theorem qO.mono_l : ∀ k, (∀ y0 y1, LeO (qO.l0 k y0 y1) (qO.l0 (k + 1) y0 y1))
 | 0 => fun _ _ r h => by simp [qO.l0] at h
 | k + 1 => by
  have ih0 := qO.mono_l k
  ·intro y0 y1
   unfold qO.l0
   repeat' first
   | (with_reducible exact ih0 _ _)
   | (with_reducible exact LeO.refl _)
   | (with_reducible exact LeO.none _)
   | (with_reducible refine LeO.ite ?_ ?_)
   | (with_reducible refine LeO.bind ?_ (fun _ => ?_))
   | exact ih0 _ _
   | exact qI.mono _ _ _ _ _ _ _ _ _
   | exact LeO.none _
   | refine LeO.ite ?_ ?_
   | refine LeO.bind ?_ (fun _ => ?_)
theorem qO.mono : ∀ a0 k, LeO (qO.f k a0) (qO.f (k + 1) a0) := by
 intro a0 k
 have ih0 := qO.mono_l k
 unfold qO.f
 repeat' first
   | (with_reducible exact ih0 _ _)
   | (with_reducible exact LeO.refl _)
   | (with_reducible exact LeO.none _)
   | (with_reducible refine LeO.ite ?_ ?_)
   | (with_reducible refine LeO.bind ?_ (fun _ => ?_))
   | exact ih0 _ _
   | exact qI.mono _ _ _ _ _ _ _ _ _
   | exact LeO.none _
   | refine LeO.ite ?_ ?_
   | refine LeO.bind ?_ (fun _ => ?_)
def qO.T4 : Bool × List (List Nat × List Nat) := (true, [([], []), ([], []), ([1], [1]), ([0, 2], [0, 2]), ([3], [3]), ([], []), ([], []), ([5, 6], [5, 6]), ([7], [7]), ([4, 8], [4, 8]), ([9], [9])])
def qO.B4 : List Nat := [0, 0, 2, 7, 15, 0, 0, 96, 224, 511, 1023]
theorem qO.tab4 : rtab .any (opsOf Try.f27 4) = qO.T4 := by kernel_rfl
theorem qO.bits4 : waitsOk qO.T4.2 qO.B4 = true := by kernel_rfl
set_option maxHeartbeats 8000000 in
set_option maxRecDepth 100000 in
theorem qO.calls (k : Nat) (A0 : Option Addr) (c0 : Nat) (l0 : List (S37)) (r : Bool) (w : World) (hr0 : Kd.C k37 w A0 l0.length l0) (hc0 : l0.length ≤ c0) (h : qO.f k l0 = some r) :
  Calls Try.prog 27 #[.slice A0 l0.length c0] w fun e w' => e = .returned (.bool r) ∧ Below w.heap.size w w' := by
 have hu37 := Try.underlying37
 have HR0 := Aside0.mk hr0
 have HC0 := Aside0.mk hc0
 clear hr0 hc0
 have HB := Aside0.mk (Below.refl w.heap.size w)
 have H : (qO.l0 k l0 1) = some r := h
 clear h
 have H' := Aside0.mk H
 clear H
 go_enter Try.func27, Try.ntmps27
 go_wp2
 go_loopg [3] k (fun kq v3 w' => ∃ (x3_1 : Int), v3 = .int .i64 x3_1 ∧ Aside0 (qO.l0 kq l0 x3_1 = some r) ∧ Aside0 (kq ≤ k) ∧ Aside0 (Below w.heap.size w w'))
 case atStart => exact ⟨(1), rs_, H', ⟨Nat.le_refl _⟩, ⟨hB_⟩⟩
 case round =>
  clear H'
  obtain ⟨x3_1, rfl, HA, HK1, HB⟩ := hrel
  cases gk with
  | zero => exact absurd HA.out (by simp [qO.l0])
  | succ k1 =>
   have H := HA.out
   clear HA
   simp only [qO.l0] at H
   by_cases c2 : x3_1 < (l0.length : Int)
   rotate_left
   ·rw [if_neg c2] at H
    have c2b0 := decide_eq_false c2
    clear c2
    obtain rfl := Option.some.inj H
    go_wp2
    go_ret
    exact ⟨rf_, hB_⟩
   rw [if_pos c2] at H
   have c2b0 := decide_eq_true c2
   clear c2
   obtain ⟨ji3, hji3⟩ : ∃ j_ : Int, (wrap64 (x3_1 - 1)) = j_ := ⟨_, rfl⟩
   replace H : (if 0 ≤ (ji3) then (if (ji3) < (l0.length : Int) then (if 0 ≤ x3_1 then ((qI.f k1 ((rd_T37 l0 (ji3)).f0) ((rd_T37 l0 (ji3)).f1) ((rd_T37 l0 (ji3)).f2) ((rd_T37 l0 (ji3)).f3) ((rd_T37 l0 x3_1).f0) ((rd_T37 l0 x3_1).f1) ((rd_T37 l0 x3_1).f2) ((rd_T37 l0 x3_1).f3)).bind fun t105 => (if t105 ≥ 0 then (some false) else (qO.l0 k1 l0 (wrap64 (x3_1 + 1))))) else (none)) else (none)) else (none)) = some r := by first | (rw [hji3] at H; exact H) | (simp only [hji3] at H ⊢; exact H)
   (try rw [hji3])
   have hji3w : (IntKind.i64.wrap (x3_1 - 1)) = ji3 := (i64_w _).trans hji3
   by_cases c4 : 0 ≤ (ji3)
   rotate_left
   ·rw [if_neg c4] at H
    exact absurd H r17_
   rw [if_pos c4] at H
   have c4b0 := decide_eq_true c4
   clear c4
   by_cases c5 : (ji3) < (l0.length : Int)
   rotate_left
   ·rw [if_neg c5] at H
    exact absurd H r17_
   rw [if_pos c5] at H
   have c5b0 := decide_eq_true c5
   clear c5
   by_cases c6 : 0 ≤ x3_1
   rotate_left
   ·rw [if_neg c6] at H
    exact absurd H r17_
   rw [if_pos c6] at H
   have c6b0 := decide_eq_true c6
   clear c6
   replace H := bs_ H
   obtain ⟨t105, A70, H⟩ := H
   try dsimp only at H
   have A7 := Aside0.mk A70
   clear A70
   by_cases c8 : t105 ≥ 0
   ·rw [if_pos c8] at H
    have c8b0 : decide (0 ≤ t105) = true := decide_eq_true c8
    clear c8
    obtain rfl := Option.some.inj H
    try go_wp2
    replace HB := Aside0.mk (below_drew1 HB.out)
    have p103 : 0 ≤ ((ji3) : Int) := of_decide_eq_true as_
    have q103 : (ji3) < (l0.length : Int) := of_decide_eq_true as_
    obtain ⟨ad103, e103, hx103_0, hx103_1, hx103_2, hx103_3⟩ := at_T37 HR0.out (ji3) p103 q103
    have hw103_3 := hx103_3
    have hw103_2 := hx103_2
    have hw103_1 := hx103_1
    have hw103_0 := hx103_0
    cases e103
    replace hx103_0 := (HB.out.cell (World.block_lt_of_cell? w _ hx103_0)).trans hx103_0
    replace hx103_1 := (HB.out.cell (World.block_lt_of_cell? w _ hx103_1)).trans hx103_1
    replace hx103_2 := (HB.out.cell (World.block_lt_of_cell? w _ hx103_2)).trans hx103_2
    replace hx103_3 := (HB.out.cell (World.block_lt_of_cell? w _ hx103_3)).trans hx103_3
    replace p103 := eq_true p103
    replace q103 := eq_true q103
    have p104 : 0 ≤ (x3_1 : Int) := of_decide_eq_true as_
    have q104 : x3_1 < (l0.length : Int) := of_decide_eq_true as_
    obtain ⟨ad104, e104, hx104_0, hx104_1, hx104_2, hx104_3⟩ := at_T37 HR0.out x3_1 p104 q104
    have hw104_3 := hx104_3
    have hw104_2 := hx104_2
    have hw104_1 := hx104_1
    have hw104_0 := hx104_0
    obtain rfl : ad103 = ad104 := (by injection e104)
    replace hx104_0 := (HB.out.cell (World.block_lt_of_cell? w _ hx104_0)).trans hx104_0
    replace hx104_1 := (HB.out.cell (World.block_lt_of_cell? w _ hx104_1)).trans hx104_1
    replace hx104_2 := (HB.out.cell (World.block_lt_of_cell? w _ hx104_2)).trans hx104_2
    replace hx104_3 := (HB.out.cell (World.block_lt_of_cell? w _ hx104_3)).trans hx104_3
    replace p104 := eq_true p104
    replace q104 := eq_true q104
    refine start_ (n := 11) (S := fun w' => w'.cell? (ad103.add (((ji3)).toNat * 4)) = some (.string ((rd_T37 l0 (ji3)).f0)) ∧ w'.cell? ⟨(ad103.add (((ji3)).toNat * 4)).block, (ad103.add (((ji3)).toNat * 4)).off + 1, none⟩ = some (.int .u64 ((rd_T37 l0 (ji3)).f1)) ∧ w'.cell? ⟨(ad103.add (((ji3)).toNat * 4)).block, (ad103.add (((ji3)).toNat * 4)).off + 2, none⟩ = some (.bool ((rd_T37 l0 (ji3)).f2)) ∧ w'.cell? ⟨(ad103.add (((ji3)).toNat * 4)).block, (ad103.add (((ji3)).toNat * 4)).off + 3, none⟩ = some (.string ((rd_T37 l0 (ji3)).f3)) ∧ w'.cell? (ad103.add ((x3_1).toNat * 4)) = some (.string ((rd_T37 l0 x3_1).f0)) ∧ w'.cell? ⟨(ad103.add ((x3_1).toNat * 4)).block, (ad103.add ((x3_1).toNat * 4)).off + 1, none⟩ = some (.int .u64 ((rd_T37 l0 x3_1).f1)) ∧ w'.cell? ⟨(ad103.add ((x3_1).toNat * 4)).block, (ad103.add ((x3_1).toNat * 4)).off + 2, none⟩ = some (.bool ((rd_T37 l0 x3_1).f2)) ∧ w'.cell? ⟨(ad103.add ((x3_1).toNat * 4)).block, (ad103.add ((x3_1).toNat * 4)).off + 3, none⟩ = some (.string ((rd_T37 l0 x3_1).f3))) (ds := []) #[N,N,N,N,N,N,N,N,N,N,N] r2_ rfl rfl ⟨((HB.out.cell (World.block_lt_of_cell? w _ hw103_0)).trans hw103_0), ((HB.out.cell (World.block_lt_of_cell? w _ hw103_1)).trans hw103_1), ((HB.out.cell (World.block_lt_of_cell? w _ hw103_2)).trans hw103_2), ((HB.out.cell (World.block_lt_of_cell? w _ hw103_3)).trans hw103_3), ((HB.out.cell (World.block_lt_of_cell? w _ hw104_0)).trans hw104_0), ((HB.out.cell (World.block_lt_of_cell? w _ hw104_1)).trans hw104_1), ((HB.out.cell (World.block_lt_of_cell? w _ hw104_2)).trans hw104_2), ((HB.out.cell (World.block_lt_of_cell? w _ hw104_3)).trans hw104_3)⟩ (fun hHeld => ?_); refine with_tabW qO.tab4 qO.bits4 (fun HT_ HW_ => ?_)
    generalize wr.drew = w9 at HB hx103_0 hx103_1 hx103_2 hx103_3 hx104_0 hx104_1 hx104_2 hx104_3 hHeld ⊢
    refine pu_ 0 (some 10) #[Y,N,N,N,N,N,N,N,N,N,N] (any_of HT_.out r2_) ?_
    refine pu_ 1 (some 11) #[Y,Y,N,N,N,N,N,N,N,N,N] (any_of HT_.out r2_) ?_
    refine pu_ 2 (some 12) #[Y,Y,Y,N,N,N,N,N,N,N,N] (any_of HT_.out r2_) ?_
    refine pu_ 3 (some 13) #[Y,Y,Y,Y,N,N,N,N,N,N,N] (any_of HT_.out r2_) ?_
    refine pu_ 5 (some 15) #[Y,Y,Y,Y,N,Y,N,N,N,N,N] (any_of HT_.out r2_) ?_
    refine pu_ 6 (some 16) #[Y,Y,Y,Y,N,Y,Y,N,N,N,N] (any_of HT_.out r2_) ?_
    refine pu_ 7 (some 17) #[Y,Y,Y,Y,N,Y,Y,Y,N,N,N] (any_of HT_.out r2_) ?_
    refine tk_ (v := ?_) 4 (some 14) #[Y,Y,Y,Y,Y,Y,Y,Y,N,N,N] (take_ofW HT_.out HW_.out r2_) hHeld ?_ ?_
    rotate_left
    ·rintro w' ⟨s0, s1, s2, s3, s4, s5, s6, s7⟩
     go_simp
     with_reducible rfl
    refine tk_ (v := ?_) 8 (some 18) #[Y,Y,Y,Y,Y,Y,Y,Y,Y,N,N] (take_ofW HT_.out HW_.out r2_) hHeld ?_ ?_
    rotate_left
    ·rintro w' ⟨s0, s1, s2, s3, s4, s5, s6, s7⟩
     go_simp
     with_reducible rfl
    refine one_ (i := 9) (N := some 19) #[Y,Y,Y,Y,Y,Y,Y,Y,Y,Y,N] rfl rfl (one_of HT_.out r2_) r24_ (fun K hK => ?_)
    refine goes_ Try.func54 r2_ rfl #[.agg #[.string ((rd_T37 l0 (ji3)).f0), .int .u64 ((rd_T37 l0 (ji3)).f1), .bool ((rd_T37 l0 (ji3)).f2), .string ((rd_T37 l0 (ji3)).f3)], .agg #[.string ((rd_T37 l0 x3_1).f0), .int .u64 ((rd_T37 l0 x3_1).f1), .bool ((rd_T37 l0 x3_1).f2), .string ((rd_T37 l0 x3_1).f3)]] r37_ rfl rfl r12_ ?_
    with_reducible refine (qI.calls k1 ((rd_T37 l0 (ji3)).f0) ((rd_T37 l0 (ji3)).f1) ((rd_T37 l0 (ji3)).f2) ((rd_T37 l0 (ji3)).f3) ((rd_T37 l0 x3_1).f0) ((rd_T37 l0 x3_1).f1) ((rd_T37 l0 x3_1).f2) ((rd_T37 l0 x3_1).f3) t105 _ A7.out).mono ?_
    rintro e w10 ⟨rfl, hb⟩
    refine ⟨_, rfl, ?_⟩
    replace HB := Aside0.mk (below_step hB_ hb)
    (try clear hb)
    (try clear hb2)
    (try clear hk)
    (try clear hi)
    (try clear A7)
    refine hK.out _ _ ⟨((HB.out.cell (World.block_lt_of_cell? w _ hw103_0)).trans hw103_0), ((HB.out.cell (World.block_lt_of_cell? w _ hw103_1)).trans hw103_1), ((HB.out.cell (World.block_lt_of_cell? w _ hw103_2)).trans hw103_2), ((HB.out.cell (World.block_lt_of_cell? w _ hw103_3)).trans hw103_3), ((HB.out.cell (World.block_lt_of_cell? w _ hw104_0)).trans hw104_0), ((HB.out.cell (World.block_lt_of_cell? w _ hw104_1)).trans hw104_1), ((HB.out.cell (World.block_lt_of_cell? w _ hw104_2)).trans hw104_2), ((HB.out.cell (World.block_lt_of_cell? w _ hw104_3)).trans hw104_3)⟩ (fun hHeld => ?_)
    clear hK K
    refine nm_ (some 19) ?_
    refine pu_ 10 (some 20) #[Y,Y,Y,Y,Y,Y,Y,Y,Y,Y,Y] (any_of HT_.out r2_) ?_
    refine done_ (done_of HT_.out r2_) ?_
    (try clear hHeld)
    try go_wp2
    go_ret
    exact ⟨by first | rfl | (simp [errW_none, errW_some] <;> rfl) | (simp (disch := omega) only [← i64_w, IntWalk.i64_in]; rfl) | (simp only [← hji3]; first | rfl | (simp [errW_none, errW_some] <;> rfl)) | (simp [*, errW_none, errW_some] <;> rfl), hB_⟩
   rw [if_neg c8] at H
   have c8b0 : decide (0 ≤ t105) = false := decide_eq_false c8
   clear c8
   have H' := Aside0.mk H
   clear H
   try go_wp2
   replace HB := Aside0.mk (below_drew1 HB.out)
   have p103 : 0 ≤ ((ji3) : Int) := of_decide_eq_true as_
   have q103 : (ji3) < (l0.length : Int) := of_decide_eq_true as_
   obtain ⟨ad103, e103, hx103_0, hx103_1, hx103_2, hx103_3⟩ := at_T37 HR0.out (ji3) p103 q103
   have hw103_3 := hx103_3
   have hw103_2 := hx103_2
   have hw103_1 := hx103_1
   have hw103_0 := hx103_0
   cases e103
   replace hx103_0 := (HB.out.cell (World.block_lt_of_cell? w _ hx103_0)).trans hx103_0
   replace hx103_1 := (HB.out.cell (World.block_lt_of_cell? w _ hx103_1)).trans hx103_1
   replace hx103_2 := (HB.out.cell (World.block_lt_of_cell? w _ hx103_2)).trans hx103_2
   replace hx103_3 := (HB.out.cell (World.block_lt_of_cell? w _ hx103_3)).trans hx103_3
   replace p103 := eq_true p103
   replace q103 := eq_true q103
   have p104 : 0 ≤ (x3_1 : Int) := of_decide_eq_true as_
   have q104 : x3_1 < (l0.length : Int) := of_decide_eq_true as_
   obtain ⟨ad104, e104, hx104_0, hx104_1, hx104_2, hx104_3⟩ := at_T37 HR0.out x3_1 p104 q104
   have hw104_3 := hx104_3
   have hw104_2 := hx104_2
   have hw104_1 := hx104_1
   have hw104_0 := hx104_0
   obtain rfl : ad103 = ad104 := (by injection e104)
   replace hx104_0 := (HB.out.cell (World.block_lt_of_cell? w _ hx104_0)).trans hx104_0
   replace hx104_1 := (HB.out.cell (World.block_lt_of_cell? w _ hx104_1)).trans hx104_1
   replace hx104_2 := (HB.out.cell (World.block_lt_of_cell? w _ hx104_2)).trans hx104_2
   replace hx104_3 := (HB.out.cell (World.block_lt_of_cell? w _ hx104_3)).trans hx104_3
   replace p104 := eq_true p104
   replace q104 := eq_true q104
   refine start_ (n := 11) (S := fun w' => w'.cell? (ad103.add (((ji3)).toNat * 4)) = some (.string ((rd_T37 l0 (ji3)).f0)) ∧ w'.cell? ⟨(ad103.add (((ji3)).toNat * 4)).block, (ad103.add (((ji3)).toNat * 4)).off + 1, none⟩ = some (.int .u64 ((rd_T37 l0 (ji3)).f1)) ∧ w'.cell? ⟨(ad103.add (((ji3)).toNat * 4)).block, (ad103.add (((ji3)).toNat * 4)).off + 2, none⟩ = some (.bool ((rd_T37 l0 (ji3)).f2)) ∧ w'.cell? ⟨(ad103.add (((ji3)).toNat * 4)).block, (ad103.add (((ji3)).toNat * 4)).off + 3, none⟩ = some (.string ((rd_T37 l0 (ji3)).f3)) ∧ w'.cell? (ad103.add ((x3_1).toNat * 4)) = some (.string ((rd_T37 l0 x3_1).f0)) ∧ w'.cell? ⟨(ad103.add ((x3_1).toNat * 4)).block, (ad103.add ((x3_1).toNat * 4)).off + 1, none⟩ = some (.int .u64 ((rd_T37 l0 x3_1).f1)) ∧ w'.cell? ⟨(ad103.add ((x3_1).toNat * 4)).block, (ad103.add ((x3_1).toNat * 4)).off + 2, none⟩ = some (.bool ((rd_T37 l0 x3_1).f2)) ∧ w'.cell? ⟨(ad103.add ((x3_1).toNat * 4)).block, (ad103.add ((x3_1).toNat * 4)).off + 3, none⟩ = some (.string ((rd_T37 l0 x3_1).f3))) (ds := []) #[N,N,N,N,N,N,N,N,N,N,N] r2_ rfl rfl ⟨((HB.out.cell (World.block_lt_of_cell? w _ hw103_0)).trans hw103_0), ((HB.out.cell (World.block_lt_of_cell? w _ hw103_1)).trans hw103_1), ((HB.out.cell (World.block_lt_of_cell? w _ hw103_2)).trans hw103_2), ((HB.out.cell (World.block_lt_of_cell? w _ hw103_3)).trans hw103_3), ((HB.out.cell (World.block_lt_of_cell? w _ hw104_0)).trans hw104_0), ((HB.out.cell (World.block_lt_of_cell? w _ hw104_1)).trans hw104_1), ((HB.out.cell (World.block_lt_of_cell? w _ hw104_2)).trans hw104_2), ((HB.out.cell (World.block_lt_of_cell? w _ hw104_3)).trans hw104_3)⟩ (fun hHeld => ?_); refine with_tabW qO.tab4 qO.bits4 (fun HT_ HW_ => ?_)
   generalize wr.drew = w11 at HB hx103_0 hx103_1 hx103_2 hx103_3 hx104_0 hx104_1 hx104_2 hx104_3 hHeld ⊢
   refine pu_ 0 (some 10) #[Y,N,N,N,N,N,N,N,N,N,N] (any_of HT_.out r2_) ?_
   refine pu_ 1 (some 11) #[Y,Y,N,N,N,N,N,N,N,N,N] (any_of HT_.out r2_) ?_
   refine pu_ 2 (some 12) #[Y,Y,Y,N,N,N,N,N,N,N,N] (any_of HT_.out r2_) ?_
   refine pu_ 3 (some 13) #[Y,Y,Y,Y,N,N,N,N,N,N,N] (any_of HT_.out r2_) ?_
   refine pu_ 5 (some 15) #[Y,Y,Y,Y,N,Y,N,N,N,N,N] (any_of HT_.out r2_) ?_
   refine pu_ 6 (some 16) #[Y,Y,Y,Y,N,Y,Y,N,N,N,N] (any_of HT_.out r2_) ?_
   refine pu_ 7 (some 17) #[Y,Y,Y,Y,N,Y,Y,Y,N,N,N] (any_of HT_.out r2_) ?_
   refine tk_ (v := ?_) 4 (some 14) #[Y,Y,Y,Y,Y,Y,Y,Y,N,N,N] (take_ofW HT_.out HW_.out r2_) hHeld ?_ ?_
   rotate_left
   ·rintro w' ⟨s0, s1, s2, s3, s4, s5, s6, s7⟩
    go_simp
    with_reducible rfl
   refine tk_ (v := ?_) 8 (some 18) #[Y,Y,Y,Y,Y,Y,Y,Y,Y,N,N] (take_ofW HT_.out HW_.out r2_) hHeld ?_ ?_
   rotate_left
   ·rintro w' ⟨s0, s1, s2, s3, s4, s5, s6, s7⟩
    go_simp
    with_reducible rfl
   refine one_ (i := 9) (N := some 19) #[Y,Y,Y,Y,Y,Y,Y,Y,Y,Y,N] rfl rfl (one_of HT_.out r2_) r24_ (fun K hK => ?_)
   refine goes_ Try.func54 r2_ rfl #[.agg #[.string ((rd_T37 l0 (ji3)).f0), .int .u64 ((rd_T37 l0 (ji3)).f1), .bool ((rd_T37 l0 (ji3)).f2), .string ((rd_T37 l0 (ji3)).f3)], .agg #[.string ((rd_T37 l0 x3_1).f0), .int .u64 ((rd_T37 l0 x3_1).f1), .bool ((rd_T37 l0 x3_1).f2), .string ((rd_T37 l0 x3_1).f3)]] r37_ rfl rfl r12_ ?_
   with_reducible refine (qI.calls k1 ((rd_T37 l0 (ji3)).f0) ((rd_T37 l0 (ji3)).f1) ((rd_T37 l0 (ji3)).f2) ((rd_T37 l0 (ji3)).f3) ((rd_T37 l0 x3_1).f0) ((rd_T37 l0 x3_1).f1) ((rd_T37 l0 x3_1).f2) ((rd_T37 l0 x3_1).f3) t105 _ A7.out).mono ?_
   rintro e w12 ⟨rfl, hb⟩
   refine ⟨_, rfl, ?_⟩
   replace HB := Aside0.mk (below_step hB_ hb)
   (try clear hb)
   (try clear hb2)
   (try clear hk)
   (try clear hi)
   (try clear A7)
   refine hK.out _ _ ⟨((HB.out.cell (World.block_lt_of_cell? w _ hw103_0)).trans hw103_0), ((HB.out.cell (World.block_lt_of_cell? w _ hw103_1)).trans hw103_1), ((HB.out.cell (World.block_lt_of_cell? w _ hw103_2)).trans hw103_2), ((HB.out.cell (World.block_lt_of_cell? w _ hw103_3)).trans hw103_3), ((HB.out.cell (World.block_lt_of_cell? w _ hw104_0)).trans hw104_0), ((HB.out.cell (World.block_lt_of_cell? w _ hw104_1)).trans hw104_1), ((HB.out.cell (World.block_lt_of_cell? w _ hw104_2)).trans hw104_2), ((HB.out.cell (World.block_lt_of_cell? w _ hw104_3)).trans hw104_3)⟩ (fun hHeld => ?_)
   clear hK K
   refine nm_ (some 19) ?_
   refine pu_ 10 (some 20) #[Y,Y,Y,Y,Y,Y,Y,Y,Y,Y,Y] (any_of HT_.out r2_) ?_
   refine done_ (done_of HT_.out r2_) ?_
   (try clear hHeld)
   try go_wp2
   go_roundg k1
   case measure => have := HK1.out; omega
   case rel => exact ⟨(wrap64 (x3_1 + 1)), rs_, hH_, ⟨by have := HK1.out; omega⟩, ⟨hB_⟩⟩

-- NOT PRINTED: function 84 (abi_NoEscape)

-- NOT PRINTED: function 60 (strings_Builder_copyCheck)

-- NOT PRINTED: function 31 (strings_Builder_WriteString)

/-! ### qi1: function 32 -/
def qi1.bs (a0 : Int) : List Int := [a0 / 72057594037927936 % 256, a0 / 281474976710656 % 256, a0 / 1099511627776 % 256, a0 / 4294967296 % 256, a0 / 16777216 % 256, a0 / 65536 % 256, a0 / 256 % 256, a0 % 256]
def qi1.f (a0 : Int) : Option ByteArray := some (strOfNums (qi1.bs a0))
theorem qi1.conv (w : World) (x0 x1 x2 x3 x4 x5 x6 x7 : Int) :
  (convert 54 9 (.slice (some ⟨w.heap.size, 0, none⟩) 8 8)).run Try.prog (w.alloc (.cells #[.int .u8 x0, .int .u8 x1, .int .u8 x2, .int .u8 x3, .int .u8 x4, .int .u8 x5, .int .u8 x6, .int .u8 x7] 96)) = .ok (.string (strOfNums [x0, x1, x2, x3, x4, x5, x6, x7])) (w.alloc (.cells #[.int .u8 x0, .int .u8 x1, .int .u8 x2, .int .u8 x3, .int .u8 x4, .int .u8 x5, .int .u8 x6, .int .u8 x7] 96)) := by
 refine run_convert_bytes_arg (P := Try.prog) _ 54 5 Try.underlying54 Try.underlying5 w.heap.size 0 8 8 [x0, x1, x2, x3, x4, x5, x6, x7] rfl (fun i hi => ?_) 9 Try.underlying9
 have h : i = 0 ∨ i = 1 ∨ i = 2 ∨ i = 3 ∨ i = 4 ∨ i = 5 ∨ i = 6 ∨ i = 7 := by omega
 rcases h with rfl | rfl | rfl | rfl | rfl | rfl | rfl | rfl <;> (go_simp; try rfl)
set_option maxHeartbeats 400000 in
theorem qi1.calls (a0 : Int) (r : ByteArray) (w : World) (h : qi1.f a0 = some r) :
  Calls Try.prog 32 #[.int .u64 a0] w fun e w' => e = .returned (.string r) ∧ Below w.heap.size w w' := by
 obtain rfl : strOfNums (qi1.bs a0) = r := by simpa [qi1.f] using h
 clear h
 have hc := qi1.conv w
 go_enter Try.func32, Try.ntmps32
 go_wp2
 refine wp_loop_rounds 9 ?_
 iterate 9 (rw [rounds_succ]; go_wp2)
 go_ret
 exact ⟨by simp [qi1.bs], below_alloc (Below.refl _ _) _⟩


-- NOT PRINTED: function 33 (strings_Builder_String)

-- NOT PRINTED: function 56 (strings_Builder_Len)

/-! ### qP: function 57 -/
def qP.l0 : Nat → Int → List Int → Option (ByteArray)
 | 0, _, _ => none
 | k + 1, x0, x3 => if x0 ≥ 128 then (if x3.length < 140737488355328 then (qP.l0 k (x0 / 128) (x3 ++ [Go.bits .or .u8 ((x0) % 256) 128])) else (none)) else (if x3.length < 140737488355328 then (some (strOfNums (x3 ++ [(x0) % 256]))) else (none))
def qP.f (k : Nat) (a0 : Int) : Option (ByteArray) := qP.l0 k a0 ([] : List Int)
theorem qP.mono_l : ∀ k, (∀ y0 y1, LeO (qP.l0 k y0 y1) (qP.l0 (k + 1) y0 y1))
 | 0 => fun _ _ r h => by simp [qP.l0] at h
 | k + 1 => by
  have ih0 := qP.mono_l k
  ·intro y0 y1
   unfold qP.l0
   repeat' first
   | (with_reducible exact ih0 _ _)
   | (with_reducible exact LeO.refl _)
   | (with_reducible exact LeO.none _)
   | (with_reducible refine LeO.ite ?_ ?_)
   | (with_reducible refine LeO.bind ?_ (fun _ => ?_))
   | exact ih0 _ _
   | exact LeO.none _
   | refine LeO.ite ?_ ?_
   | refine LeO.bind ?_ (fun _ => ?_)
theorem qP.mono : ∀ a0 k, LeO (qP.f k a0) (qP.f (k + 1) a0) := by
 intro a0 k
 have ih0 := qP.mono_l k
 unfold qP.f
 repeat' first
   | (with_reducible exact ih0 _ _)
   | (with_reducible exact LeO.refl _)
   | (with_reducible exact LeO.none _)
   | (with_reducible refine LeO.ite ?_ ?_)
   | (with_reducible refine LeO.bind ?_ (fun _ => ?_))
   | exact ih0 _ _
   | exact LeO.none _
   | refine LeO.ite ?_ ?_
   | refine LeO.bind ?_ (fun _ => ?_)
set_option maxHeartbeats 8000000 in
set_option maxRecDepth 100000 in
theorem qP.calls (k : Nat) (a0 : Int) (r : ByteArray) (w : World) (h : qP.f k a0 = some r) :
  Calls Try.prog 57 #[.int .u64 a0] w fun e w' => e = .returned (.string r) ∧ Below w.heap.size w w' := by
 have HB := Aside0.mk (Below.refl w.heap.size w)
 have H : (qP.l0 k a0 ([] : List Int)) = some r := h
 clear h
 have H' := Aside0.mk H
 clear H
 go_enter Try.func57, Try.ntmps57
 go_wp2
 go_loopg [0, 3] k (fun kq v0 v3 w' => ∃ (x0_1 : Int) (x3_1 : List Int), v0 = .int .u64 x0_1 ∧ Aside0 (qP.l0 kq x0_1 x3_1 = some r) ∧ Aside0 (kq ≤ k) ∧ Aside0 (Kd.R (Kd.int .u8) 5 w' w.heap.size (fun _ => True) v3 x3_1) ∧ Aside0 (Below w.heap.size w w'))
 case atStart => exact ⟨(a0), (([] : List Int)), rs_, H', ⟨Nat.le_refl _⟩, ⟨by first | exact Kd.R_nil _ _ _ _ _ | exact Kd.N_nil _ _ _ _ _ | exact Kd.V_nil _ _ _ _ _ | exact Kd.Q_nil _ _ _ _ _ | exact Kd.S_nil _ _ _ _ _⟩, ⟨hB_⟩⟩
 case round =>
  clear H'
  obtain ⟨x0_1, x3_1, rfl, HA, HK1, HO_3, HB⟩ := hrel
  cases gk with
  | zero => exact absurd HA.out (by simp [qP.l0])
  | succ k1 =>
   have H := HA.out
   clear HA
   simp only [qP.l0] at H
   by_cases c2 : x0_1 ≥ 128
   rotate_left
   ·rw [if_neg c2] at H
    have c2b0 : decide (128 ≤ x0_1) = false := decide_eq_false c2
    clear c2
    by_cases c5 : x3_1.length < 140737488355328
    rotate_left
    ·rw [if_neg c5] at H
     exact absurd H r17_
    rw [if_pos c5] at H
    have LMc5 := Aside0.mk c5
    clear c5
    obtain ⟨y109, hy109⟩ : ∃ y_ : List Int, y_ = (x3_1 ++ [(x0_1) % 256]) := ⟨_, rfl⟩
    replace H : (some (strOfNums y109)) = some r := by first | (rw [hy109]; with_reducible exact H) | (have H2_ := (Option.bind_some _ _).symm.trans H; rw [hy109]; with_reducible exact H2_) | (have H2_ := (Option.bind_some _ _).symm.trans H; with_reducible exact H2_) | with_reducible exact H | (rw [hy109]; exact H) | exact H
    have Ny109 := Aside0.mk hy109
    clear hy109
    obtain rfl := Option.some.inj H
    go_wp2_with (first | ((with_reducible refine gate_builtin (b := .append) (xs := #[.tmp 14, .tmp 17]) rfl ?_); at_builtin; refine Kd.R_append (Kd.int .u8) (w0 := w) w.heap.size rfl (.tmp 14) (.tmp 17) 54 5 (.int .u8 0) 1 rfl Try.underlying54 info5 rfl r24_ r18_ u3 x3_1 ((x0_1) % 256) [.int .u8 ((x0_1) % 256)] (fun _ => True) (fun _ => False) rfl rfl ?aP (fun _ hk => hk.elim) ?aF ?aO ?aB ?aS ?aL ?_; (case aP => exact rfl); (case aB => exact hB_); (case aF => exact (fun _ _ => trivial)); (case aO => exact r14_); (case aS => exact (below_size hB_)); (case aL => have := LMc5.out; omega); intro v110 w6 ho hb hg hat; rw [← Ny109.out] at ho; replace HB := Aside0.mk (hb); have HO111 := Aside0.mk (ho); clear HO_3; clear ho hb hg hat; have hcv7 := own_string (P := Try.prog) Try.underlying54 Try.underlying5 Try.underlying9 (Kd.own_of_R (HO111.out))))
    go_ret
    exact ⟨rf_, hB_⟩
   rw [if_pos c2] at H
   have c2b0 : decide (128 ≤ x0_1) = true := decide_eq_true c2
   clear c2
   by_cases c3 : x3_1.length < 140737488355328
   rotate_left
   ·rw [if_neg c3] at H
    exact absurd H r17_
   rw [if_pos c3] at H
   have LMc3 := Aside0.mk c3
   clear c3
   obtain ⟨y106, hy106⟩ : ∃ y_ : List Int, y_ = (x3_1 ++ [Go.bits .or .u8 ((x0_1) % 256) 128]) := ⟨_, rfl⟩
   replace H : (qP.l0 k1 (x0_1 / 128) y106) = some r := by first | (rw [hy106]; with_reducible exact H) | (have H2_ := (Option.bind_some _ _).symm.trans H; rw [hy106]; with_reducible exact H2_) | (have H2_ := (Option.bind_some _ _).symm.trans H; with_reducible exact H2_) | with_reducible exact H | (rw [hy106]; exact H) | exact H
   have Ny106 := Aside0.mk hy106
   clear hy106
   have H' := Aside0.mk H
   clear H
   go_wp2_with (first | ((with_reducible refine gate_builtin (b := .append) (xs := #[.tmp 6, .tmp 10]) rfl ?_); at_builtin; refine Kd.R_append (Kd.int .u8) (w0 := w) w.heap.size rfl (.tmp 6) (.tmp 10) 54 5 (.int .u8 0) 1 rfl Try.underlying54 info5 rfl r24_ r18_ u3 x3_1 (Go.bits .or .u8 ((x0_1) % 256) 128) [.int .u8 (Go.bits .or .u8 ((x0_1) % 256) 128)] (fun _ => True) (fun _ => False) rfl rfl ?aP (fun _ hk => hk.elim) ?aF ?aO ?aB ?aS ?aL ?_; (case aP => exact rfl); (case aB => exact hB_); (case aF => exact (fun _ _ => trivial)); (case aO => exact r14_); (case aS => exact (below_size hB_)); (case aL => have := LMc3.out; omega); intro v107 w4 ho hb hg hat; rw [← Ny106.out] at ho; replace HB := Aside0.mk (hb); have HO108 := Aside0.mk (ho); clear HO_3; clear ho hb hg hat))
   go_roundg k1
   case measure => have := HK1.out; omega
   case rel => exact ⟨(x0_1 / 128), (y106), rs_, hH_, ⟨by have := HK1.out; omega⟩, ⟨by (with_reducible repeat (first | apply Kd.R_alloc | apply Kd.R_drewN | apply Kd.R_drew)); exact HO108.out⟩, ⟨hB_⟩⟩

end Go.Proofs.Ytgdkikkjaofbfaa.P
