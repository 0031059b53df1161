-- Printed by a program of this session's own (wip/tools/pprint.sh, over the kit's print, with given contracts): not typed by hand.
import Derived.Test.YtgdkikkjaofbfaaPx0
import Derived.Test.YtgdkikkjaofbfaaPx2
namespace Go.Proofs.Ytgdkikkjaofbfaa.P
open Go.RowKit Go.Proofs.YtgdkikkjaofbfaaW.PrintWords Go.Proofs.YtgdkikkjaofbfaaW.PrintLast Go.Proofs.YtgdkikkjaofbfaaW.PrintMore
attribute [local go_sem] max2_int min2_int max_two min_two max_three min_three max_four min_four   -- for this text's walks alone
set_option linter.unusedVariables false
set_option linter.unusedSimpArgs false
-- SQUEEZED4
-- SQUEEZED3

/-! ### block_may: function 94 -/
def block_may.f (a0_0 : ByteArray) (a0_1 : Int) (a0_2 : Bool) (a0_3 : ByteArray) : Option (Bool) := if a0_0.toList = ([] : List UInt8) then (some false) else (if (a0_0.size : Int) ≤ 100 then (if (a0_3.size : Int) ≤ 100 then (if a0_2 = true then (if a0_3.toList = ([] : List UInt8) then (if a0_1 > 0 then (some (decide (a0_1 ≤ 1099511627776))) else (some false)) else (some false)) else (if a0_1 > 0 then (some (decide (a0_1 ≤ 1099511627776))) else (some false))) else (some false)) else (some false))
set_option maxHeartbeats 8000000 in
set_option maxRecDepth 100000 in
theorem block_may.calls (a0_0 : ByteArray) (a0_1 : Int) (a0_2 : Bool) (a0_3 : ByteArray) (r : Bool) (w : World) (h : block_may.f a0_0 a0_1 a0_2 a0_3 = some r) :
  Calls Try.prog 94 #[.agg #[.string a0_0, .int .u64 a0_1, .bool a0_2, .string a0_3]] w fun e w' => e = .returned (.bool r) ∧ Below w.heap.size w w' := by
 have hu37 := Try.underlying37
 have HB := Aside0.mk (Below.refl w.heap.size w)
 have H : (if a0_0.toList = ([] : List UInt8) then (some false) else (if (a0_0.size : Int) ≤ 100 then (if (a0_3.size : Int) ≤ 100 then (if a0_2 = true then (if a0_3.toList = ([] : List UInt8) then (if a0_1 > 0 then (some (decide (a0_1 ≤ 1099511627776))) else (some false)) else (some false)) else (if a0_1 > 0 then (some (decide (a0_1 ≤ 1099511627776))) else (some false))) else (some false)) else (some false))) = some r := h
 clear h
 by_cases c2 : a0_0.toList = ([] : List UInt8)
 ·rw [if_pos c2] at H
  have c2b0 := beq_iff_eq.mpr c2
  have c2b1 := bne_eq_false_iff_eq.mpr c2
  clear c2
  obtain rfl := Option.some.inj H
  go_enter Try.func94, Try.ntmps94
  go_wp2_with (first | ((with_reducible refine gate_dst (N := 1) rfl ?_); (try (refine gate_guard r37_ ?_; dsimp only)); refine box_event ?hg (N := 1) ?hd (cs := #[.string a0_0, .int .u64 a0_1, .bool a0_2, .string a0_3]) (t := 37) ?hr ?_; (case hd => rfl); (case hg => rfl); (case hr => first | (go_simp; done) | (go_simp; rfl)); intro gb112 hg w3 hbox hb; have BK112 := Aside0.mk (hbox); have GW112 := Aside0.mk ((by rw [hg]; exact (below_size hB_) : w.heap.size ≤ gb112)); have GE112 := Aside0.mk ((by rw [hg]; exact (below_size hB_) : w.heap.size ≤ gb112)); replace HB := Aside0.mk (below_step hB_ hb); clear hb hbox hg; have hcz4_0 : w3.cell? ⟨gb112, 0, none⟩ = some (.string a0_0) := (blk_cell BK112.out 0).trans rfl; have hcz4_1 : w3.cell? ⟨gb112, 1, none⟩ = some (.int .u64 a0_1) := (blk_cell BK112.out 1).trans rfl; have hcz4_2 : w3.cell? ⟨gb112, 2, none⟩ = some (.bool a0_2) := (blk_cell BK112.out 2).trans rfl; have hcz4_3 : w3.cell? ⟨gb112, 3, none⟩ = some (.string a0_3) := (blk_cell BK112.out 3).trans rfl; have hfz4_0 := blk_frozen BK112.out 0; have hfz4_1 := blk_frozen BK112.out 1; have hfz4_2 := blk_frozen BK112.out 2; have hfz4_3 := blk_frozen BK112.out 3))
  go_ret
  exact ⟨rf_, r22_⟩
 rw [if_neg c2] at H
 have c2b0 := beq_eq_false_iff_ne.mpr c2
 have c2b1 := bne_iff_ne.mpr c2
 by_cases c5 : (a0_0.size : Int) ≤ 100
 rotate_left
 ·rw [if_neg c5] at H
  have c5b0 := decide_eq_false c5
  have c5b1 : decide (a0_0.size ≤ 100) = false := decide_eq_false r18_
  clear c5
  obtain rfl := Option.some.inj H
  go_enter Try.func94, Try.ntmps94
  go_wp2_with (first | ((with_reducible refine gate_dst (N := 1) rfl ?_); (try (refine gate_guard r37_ ?_; dsimp only)); refine box_event ?hg (N := 1) ?hd (cs := #[.string a0_0, .int .u64 a0_1, .bool a0_2, .string a0_3]) (t := 37) ?hr ?_; (case hd => rfl); (case hg => rfl); (case hr => first | (go_simp; done) | (go_simp; rfl)); intro gb112 hg w23 hbox hb; have BK112 := Aside0.mk (hbox); have GW112 := Aside0.mk ((by rw [hg]; exact (below_size hB_) : w.heap.size ≤ gb112)); have GE112 := Aside0.mk ((by rw [hg]; exact (below_size hB_) : w.heap.size ≤ gb112)); replace HB := Aside0.mk (below_step hB_ hb); clear hb hbox hg; have hcz24_0 : w23.cell? ⟨gb112, 0, none⟩ = some (.string a0_0) := (blk_cell BK112.out 0).trans rfl; have hcz24_1 : w23.cell? ⟨gb112, 1, none⟩ = some (.int .u64 a0_1) := (blk_cell BK112.out 1).trans rfl; have hcz24_2 : w23.cell? ⟨gb112, 2, none⟩ = some (.bool a0_2) := (blk_cell BK112.out 2).trans rfl; have hcz24_3 : w23.cell? ⟨gb112, 3, none⟩ = some (.string a0_3) := (blk_cell BK112.out 3).trans rfl; have hfz24_0 := blk_frozen BK112.out 0; have hfz24_1 := blk_frozen BK112.out 1; have hfz24_2 := blk_frozen BK112.out 2; have hfz24_3 := blk_frozen BK112.out 3))
  go_ret
  exact ⟨rf_, r22_⟩
 rw [if_pos c5] at H
 have c5b0 := decide_eq_true c5
 have c5b1 : decide (a0_0.size ≤ 100) = true := decide_eq_true r18_
 clear c5
 by_cases c6 : (a0_3.size : Int) ≤ 100
 rotate_left
 ·rw [if_neg c6] at H
  have c6b0 := decide_eq_false c6
  have c6b1 : decide (a0_3.size ≤ 100) = false := decide_eq_false r18_
  clear c6
  obtain rfl := Option.some.inj H
  go_enter Try.func94, Try.ntmps94
  go_wp2_with (first | ((with_reducible refine gate_dst (N := 1) rfl ?_); (try (refine gate_guard r37_ ?_; dsimp only)); refine box_event ?hg (N := 1) ?hd (cs := #[.string a0_0, .int .u64 a0_1, .bool a0_2, .string a0_3]) (t := 37) ?hr ?_; (case hd => rfl); (case hg => rfl); (case hr => first | (go_simp; done) | (go_simp; rfl)); intro gb112 hg w21 hbox hb; have BK112 := Aside0.mk (hbox); have GW112 := Aside0.mk ((by rw [hg]; exact (below_size hB_) : w.heap.size ≤ gb112)); have GE112 := Aside0.mk ((by rw [hg]; exact (below_size hB_) : w.heap.size ≤ gb112)); replace HB := Aside0.mk (below_step hB_ hb); clear hb hbox hg; have hcz22_0 : w21.cell? ⟨gb112, 0, none⟩ = some (.string a0_0) := (blk_cell BK112.out 0).trans rfl; have hcz22_1 : w21.cell? ⟨gb112, 1, none⟩ = some (.int .u64 a0_1) := (blk_cell BK112.out 1).trans rfl; have hcz22_2 : w21.cell? ⟨gb112, 2, none⟩ = some (.bool a0_2) := (blk_cell BK112.out 2).trans rfl; have hcz22_3 : w21.cell? ⟨gb112, 3, none⟩ = some (.string a0_3) := (blk_cell BK112.out 3).trans rfl; have hfz22_0 := blk_frozen BK112.out 0; have hfz22_1 := blk_frozen BK112.out 1; have hfz22_2 := blk_frozen BK112.out 2; have hfz22_3 := blk_frozen BK112.out 3))
  go_ret
  exact ⟨rf_, r22_⟩
 rw [if_pos c6] at H
 have c6b0 := decide_eq_true c6
 have c6b1 : decide (a0_3.size ≤ 100) = true := decide_eq_true r18_
 clear c6
 by_cases c7 : a0_2 = true
 rotate_left
 ·replace c7 := Bool.eq_false_iff.mpr c7
  subst c7
  rw [if_neg ff_] at H
  by_cases c16 : a0_1 > 0
  ·rw [if_pos c16] at H
   have c16b0 : decide (0 < a0_1) = true := decide_eq_true c16
   clear c16
   obtain rfl := Option.some.inj H
   go_enter Try.func94, Try.ntmps94
   go_wp2_with (first | ((with_reducible refine gate_dst (N := 1) rfl ?_); (try (refine gate_guard r37_ ?_; dsimp only)); refine box_event ?hg (N := 1) ?hd (cs := #[.string a0_0, .int .u64 a0_1, .bool false, .string a0_3]) (t := 37) ?hr ?_; (case hd => rfl); (case hg => rfl); (case hr => first | (go_simp; done) | (go_simp; rfl)); intro gb112 hg w17 hbox hb; have BK112 := Aside0.mk (hbox); have GW112 := Aside0.mk ((by rw [hg]; exact (below_size hB_) : w.heap.size ≤ gb112)); have GE112 := Aside0.mk ((by rw [hg]; exact (below_size hB_) : w.heap.size ≤ gb112)); replace HB := Aside0.mk (below_step hB_ hb); clear hb hbox hg; have hcz18_0 : w17.cell? ⟨gb112, 0, none⟩ = some (.string a0_0) := (blk_cell BK112.out 0).trans rfl; have hcz18_1 : w17.cell? ⟨gb112, 1, none⟩ = some (.int .u64 a0_1) := (blk_cell BK112.out 1).trans rfl; have hcz18_2 : w17.cell? ⟨gb112, 2, none⟩ = some (.bool false) := (blk_cell BK112.out 2).trans rfl; have hcz18_3 : w17.cell? ⟨gb112, 3, none⟩ = some (.string a0_3) := (blk_cell BK112.out 3).trans rfl; have hfz18_0 := blk_frozen BK112.out 0; have hfz18_1 := blk_frozen BK112.out 1; have hfz18_2 := blk_frozen BK112.out 2; have hfz18_3 := blk_frozen BK112.out 3))
   go_ret
   exact ⟨rf_, r22_⟩
  rw [if_neg c16] at H
  have c16b0 : decide (0 < a0_1) = false := decide_eq_false c16
  clear c16
  obtain rfl := Option.some.inj H
  go_enter Try.func94, Try.ntmps94
  go_wp2_with (first | ((with_reducible refine gate_dst (N := 1) rfl ?_); (try (refine gate_guard r37_ ?_; dsimp only)); refine box_event ?hg (N := 1) ?hd (cs := #[.string a0_0, .int .u64 a0_1, .bool false, .string a0_3]) (t := 37) ?hr ?_; (case hd => rfl); (case hg => rfl); (case hr => first | (go_simp; done) | (go_simp; rfl)); intro gb112 hg w19 hbox hb; have BK112 := Aside0.mk (hbox); have GW112 := Aside0.mk ((by rw [hg]; exact (below_size hB_) : w.heap.size ≤ gb112)); have GE112 := Aside0.mk ((by rw [hg]; exact (below_size hB_) : w.heap.size ≤ gb112)); replace HB := Aside0.mk (below_step hB_ hb); clear hb hbox hg; have hcz20_0 : w19.cell? ⟨gb112, 0, none⟩ = some (.string a0_0) := (blk_cell BK112.out 0).trans rfl; have hcz20_1 : w19.cell? ⟨gb112, 1, none⟩ = some (.int .u64 a0_1) := (blk_cell BK112.out 1).trans rfl; have hcz20_2 : w19.cell? ⟨gb112, 2, none⟩ = some (.bool false) := (blk_cell BK112.out 2).trans rfl; have hcz20_3 : w19.cell? ⟨gb112, 3, none⟩ = some (.string a0_3) := (blk_cell BK112.out 3).trans rfl; have hfz20_0 := blk_frozen BK112.out 0; have hfz20_1 := blk_frozen BK112.out 1; have hfz20_2 := blk_frozen BK112.out 2; have hfz20_3 := blk_frozen BK112.out 3))
  go_ret
  exact ⟨rf_, r22_⟩
 subst c7
 rw [if_pos rfl] at H
 by_cases c8 : a0_3.toList = ([] : List UInt8)
 rotate_left
 ·rw [if_neg c8] at H
  have c8b0 := beq_eq_false_iff_ne.mpr c8
  have c8b1 := bne_iff_ne.mpr c8
  obtain rfl := Option.some.inj H
  go_enter Try.func94, Try.ntmps94
  go_wp2_with (first | ((with_reducible refine gate_dst (N := 1) rfl ?_); (try (refine gate_guard r37_ ?_; dsimp only)); refine box_event ?hg (N := 1) ?hd (cs := #[.string a0_0, .int .u64 a0_1, .bool true, .string a0_3]) (t := 37) ?hr ?_; (case hd => rfl); (case hg => rfl); (case hr => first | (go_simp; done) | (go_simp; rfl)); intro gb112 hg w14 hbox hb; have BK112 := Aside0.mk (hbox); have GW112 := Aside0.mk ((by rw [hg]; exact (below_size hB_) : w.heap.size ≤ gb112)); have GE112 := Aside0.mk ((by rw [hg]; exact (below_size hB_) : w.heap.size ≤ gb112)); replace HB := Aside0.mk (below_step hB_ hb); clear hb hbox hg; have hcz15_0 : w14.cell? ⟨gb112, 0, none⟩ = some (.string a0_0) := (blk_cell BK112.out 0).trans rfl; have hcz15_1 : w14.cell? ⟨gb112, 1, none⟩ = some (.int .u64 a0_1) := (blk_cell BK112.out 1).trans rfl; have hcz15_2 : w14.cell? ⟨gb112, 2, none⟩ = some (.bool true) := (blk_cell BK112.out 2).trans rfl; have hcz15_3 : w14.cell? ⟨gb112, 3, none⟩ = some (.string a0_3) := (blk_cell BK112.out 3).trans rfl; have hfz15_0 := blk_frozen BK112.out 0; have hfz15_1 := blk_frozen BK112.out 1; have hfz15_2 := blk_frozen BK112.out 2; have hfz15_3 := blk_frozen BK112.out 3))
  go_ret
  exact ⟨rf_, r22_⟩
 rw [if_pos c8] at H
 have c8b0 := beq_iff_eq.mpr c8
 have c8b1 := bne_eq_false_iff_eq.mpr c8
 clear c8
 by_cases c9 : a0_1 > 0
 ·rw [if_pos c9] at H
  have c9b0 : decide (0 < a0_1) = true := decide_eq_true c9
  clear c9
  obtain rfl := Option.some.inj H
  go_enter Try.func94, Try.ntmps94
  go_wp2_with (first | ((with_reducible refine gate_dst (N := 1) rfl ?_); (try (refine gate_guard r37_ ?_; dsimp only)); refine box_event ?hg (N := 1) ?hd (cs := #[.string a0_0, .int .u64 a0_1, .bool true, .string a0_3]) (t := 37) ?hr ?_; (case hd => rfl); (case hg => rfl); (case hr => first | (go_simp; done) | (go_simp; rfl)); intro gb112 hg w10 hbox hb; have BK112 := Aside0.mk (hbox); have GW112 := Aside0.mk ((by rw [hg]; exact (below_size hB_) : w.heap.size ≤ gb112)); have GE112 := Aside0.mk ((by rw [hg]; exact (below_size hB_) : w.heap.size ≤ gb112)); replace HB := Aside0.mk (below_step hB_ hb); clear hb hbox hg; have hcz11_0 : w10.cell? ⟨gb112, 0, none⟩ = some (.string a0_0) := (blk_cell BK112.out 0).trans rfl; have hcz11_1 : w10.cell? ⟨gb112, 1, none⟩ = some (.int .u64 a0_1) := (blk_cell BK112.out 1).trans rfl; have hcz11_2 : w10.cell? ⟨gb112, 2, none⟩ = some (.bool true) := (blk_cell BK112.out 2).trans rfl; have hcz11_3 : w10.cell? ⟨gb112, 3, none⟩ = some (.string a0_3) := (blk_cell BK112.out 3).trans rfl; have hfz11_0 := blk_frozen BK112.out 0; have hfz11_1 := blk_frozen BK112.out 1; have hfz11_2 := blk_frozen BK112.out 2; have hfz11_3 := blk_frozen BK112.out 3))
  go_ret
  exact ⟨rf_, r22_⟩
 rw [if_neg c9] at H
 have c9b0 : decide (0 < a0_1) = false := decide_eq_false c9
 clear c9
 obtain rfl := Option.some.inj H
 go_enter Try.func94, Try.ntmps94
 go_wp2_with (first | ((with_reducible refine gate_dst (N := 1) rfl ?_); (try (refine gate_guard r37_ ?_; dsimp only)); refine box_event ?hg (N := 1) ?hd (cs := #[.string a0_0, .int .u64 a0_1, .bool true, .string a0_3]) (t := 37) ?hr ?_; (case hd => rfl); (case hg => rfl); (case hr => first | (go_simp; done) | (go_simp; rfl)); intro gb112 hg w12 hbox hb; have BK112 := Aside0.mk (hbox); have GW112 := Aside0.mk ((by rw [hg]; exact (below_size hB_) : w.heap.size ≤ gb112)); have GE112 := Aside0.mk ((by rw [hg]; exact (below_size hB_) : w.heap.size ≤ gb112)); replace HB := Aside0.mk (below_step hB_ hb); clear hb hbox hg; have hcz13_0 : w12.cell? ⟨gb112, 0, none⟩ = some (.string a0_0) := (blk_cell BK112.out 0).trans rfl; have hcz13_1 : w12.cell? ⟨gb112, 1, none⟩ = some (.int .u64 a0_1) := (blk_cell BK112.out 1).trans rfl; have hcz13_2 : w12.cell? ⟨gb112, 2, none⟩ = some (.bool true) := (blk_cell BK112.out 2).trans rfl; have hcz13_3 : w12.cell? ⟨gb112, 3, none⟩ = some (.string a0_3) := (blk_cell BK112.out 3).trans rfl; have hfz13_0 := blk_frozen BK112.out 0; have hfz13_1 := blk_frozen BK112.out 1; have hfz13_2 := blk_frozen BK112.out 2; have hfz13_3 := blk_frozen BK112.out 3))
 go_ret
 exact ⟨rf_, r22_⟩

/-! ### qt1: function 93 -/
def qt1.f (a0_0 : ByteArray) (a0_1 : Int) (a0_2 : Bool) (a0_3 : ByteArray) : Option (Bool) := (block_may.f a0_0 a0_1 a0_2 a0_3).bind fun t114 => (some (!t114))
set_option maxHeartbeats 8000000 in
set_option maxRecDepth 100000 in
theorem qt1.calls (a0_0 : ByteArray) (a0_1 : Int) (a0_2 : Bool) (a0_3 : ByteArray) (r : Bool) (w : World) (h : qt1.f a0_0 a0_1 a0_2 a0_3 = some r) :
  Calls Try.prog 93 #[.agg #[.string a0_0, .int .u64 a0_1, .bool a0_2, .string a0_3]] w fun e w' => e = .returned (.bool r) ∧ Below w.heap.size w w' := by
 have hu37 := Try.underlying37
 have HB := Aside0.mk (Below.refl w.heap.size w)
 have H : ((block_may.f a0_0 a0_1 a0_2 a0_3).bind fun t114 => (some (!t114))) = some r := h
 clear h
 replace H := bs_ H
 obtain ⟨t114, A20, H⟩ := H
 try dsimp only at H
 have A2 := Aside0.mk A20
 clear A20
 obtain rfl := Option.some.inj H
 go_enter Try.func93, Try.ntmps93
 go_wp2_with (first | ((with_reducible refine gate_dst (N := 1) rfl ?_); refine box_event ?hg (N := 1) ?hd (cs := #[.string a0_0, .int .u64 a0_1, .bool a0_2, .string a0_3]) (t := 37) ?hr ?_; (case hd => rfl); (case hg => rfl); (case hr => first | (go_simp; done) | (go_simp; rfl)); intro gb113 hg w3 hbox hb; have BK113 := Aside0.mk (hbox); have GW113 := Aside0.mk ((by rw [hg]; exact (below_size hB_) : w.heap.size ≤ gb113)); have GE113 := Aside0.mk ((by rw [hg]; exact (below_size hB_) : w.heap.size ≤ gb113)); replace HB := Aside0.mk (below_step hB_ hb); clear hb hbox hg; have hcz4_0 : w3.cell? ⟨gb113, 0, none⟩ = some (.string a0_0) := (blk_cell BK113.out 0).trans rfl; have hcz4_1 : w3.cell? ⟨gb113, 1, none⟩ = some (.int .u64 a0_1) := (blk_cell BK113.out 1).trans rfl; have hcz4_2 : w3.cell? ⟨gb113, 2, none⟩ = some (.bool a0_2) := (blk_cell BK113.out 2).trans rfl; have hcz4_3 : w3.cell? ⟨gb113, 3, none⟩ = some (.string a0_3) := (blk_cell BK113.out 3).trans rfl; have hfz4_0 := blk_frozen BK113.out 0; have hfz4_1 := blk_frozen BK113.out 1; have hfz4_2 := blk_frozen BK113.out 2; have hfz4_3 := blk_frozen BK113.out 3) | ((with_reducible refine gate_callee (f := 94) rfl ?_); refine goesL_ (some 4) rfl rfl Try.func94 r2_ rfl #[.agg #[.string a0_0, .int .u64 a0_1, .bool a0_2, .string a0_3]] rfl hA_ ?_; (with_reducible refine (block_may.calls a0_0 a0_1 a0_2 a0_3 t114 _ A2.out).mono ?_); rintro e w5 ⟨rfl, hb⟩; refine ⟨_, rfl, ?_⟩; replace BK113 := Aside0.mk (blk_below (g := gb113) (o := .cells #[.string a0_0, .int .u64 a0_1, .bool a0_2, .string a0_3] 37 (0, 0)) (by (with_reducible repeat (first | refine blk_drewN ?_ _ | refine blk_drew ?_ | refine blk_alloc ?_ _)); exact BK113.out) hb); replace HB := Aside0.mk (below_step (by repeat (first | (with_reducible first | exact HB.out | apply below_alloc | apply pw_below_drewN | apply below_drew1 | refine below_set ?_ GE113.out) | exact HB.out)) hb); clear hb A2))
 go_ret
 exact ⟨rf_, by repeat (first | (with_reducible first | exact HB.out | apply below_alloc | apply pw_below_drewN | apply below_drew1 | refine below_set ?_ GE113.out) | exact HB.out)⟩

-- NOT PRINTED: function 95 (api_Entry_95)

/-! ### qe1: function 92 -/
def qe1.idx : List (S37) → Int → Option Int
 | [], _ => some (-1)
 | x :: l, i => (qt1.f x.f0 x.f1 x.f2 x.f3).bind fun b => if b = true then some i else qe1.idx l (i + 1)
def qe1.f (l0 : List (S37)) : Option Bool := if l0.length < 4611686018427387904 then (qe1.idx l0 0).bind fun r => some (decide (r ≥ 0)) else none
set_option maxHeartbeats 1600000 in
set_option maxRecDepth 100000 in
theorem qe1.index (A0 : Option Addr) (c0 : Nat) (l0 : List (S37)) (r : Int) (w : World) (hr0 : Kd.C k37 w A0 l0.length l0) (hl : l0.length < 4611686018427387904) (h : qe1.idx l0 0 = some r) :
  Calls Try.prog 95 #[.slice A0 l0.length c0, .func (.func 93) #[] #[]] w fun e w' => e = .returned (.int .i64 r) ∧ Below w.heap.size w w' := by
 have hu_ := Try.underlying37
 have HR0 := Aside0.mk hr0
 have HG := Lib.hid h
 clear hr0 h
 go_enter Try.func95, Try.ntmps95
 go_wp2
 have HB : Aside0 (Below w.heap.size w w) := ⟨Below.refl _ _⟩
 go_loopg [8] l0.length (fun kq v8 w' => ∃ (i : Nat), v8 = .int .i64 (i : Int) ∧ Aside0 (kq + i = l0.length) ∧ Aside0 (qe1.idx (l0.drop i) (i : Int) = some r) ∧ Aside0 (Below w.heap.size w w'))
 case atStart => exact ⟨0, rfl, ⟨r18_⟩, ⟨HG.out⟩, HB⟩
 case round =>
  clear HB HG
  obtain ⟨i, rfl, HI, HG, HB⟩ := hrel
  by_cases hlt : i < l0.length
  rotate_left
  ·have hdr : l0.drop i = [] := List.drop_eq_nil_of_le r18_
   have hg := HG.out
   rw [hdr] at hg
   clear hdr HG
   obtain rfl : (-1 : Int) = r := by simpa [qe1.idx] using hg
   clear hg
   go_wp2
   go_ret
   exact ⟨rfl, HB.out⟩
  have hkg : ∃ k1, gk = k1 + 1 := ⟨gk - 1, by have := HI.out; omega⟩
  obtain ⟨k1, rfl⟩ := hkg
  have hdr : l0.drop i = rd_T37 l0 (i : Int) :: l0.drop (i + 1) := by
   rw [List.drop_eq_getElem_cons hlt]; simp [rd_T37, hlt]
  have hg := HG.out
  rw [hdr] at hg
  clear hdr HG
  replace hg := bs_ hg
  obtain ⟨b, hb1, hg⟩ := hg
  have HM := Lib.hid hb1
  clear hb1
  obtain ⟨ad, ead, hx0, hx1, hx2, hx3⟩ := at_T37 HR0.out (i : Int) r18_ r18_
  subst ead
  have htn : ((i : Int)).toNat = i := by omega
  rw [htn] at hx0 hx1 hx2 hx3
  clear htn
  replace hx0 := (HB.out.cell (World.block_lt_of_cell? w _ hx0)).trans hx0
  replace hx1 := (HB.out.cell (World.block_lt_of_cell? w _ hx1)).trans hx1
  replace hx2 := (HB.out.cell (World.block_lt_of_cell? w _ hx2)).trans hx2
  replace hx3 := (HB.out.cell (World.block_lt_of_cell? w _ hx3)).trans hx3
  cases b with
  | true =>
   obtain rfl : (i : Int) = r := by simpa using hg
   clear hg
   go_wp2_with (go_at_call 93; (refine (qt1.calls _ _ _ _ true _ HM.out).mono ?_); rintro e w3 ⟨rfl, hb⟩; have HB3 := Aside0.mk (below_step HB.out hb); clear HB hb)
   go_ret
   exact ⟨rfl, HB3.out⟩
  | false =>
   have HG : Hid (qe1.idx (l0.drop (i + 1)) ((i : Int) + 1) = some r) := by
    have h2 : (if false = true then some (i : Int) else qe1.idx (l0.drop (i + 1)) ((i : Int) + 1)) = some r := hg
    rw [if_neg r24_] at h2
    exact Lib.hid h2
   clear hg
   go_wp2_with (go_at_call 93; (refine (qt1.calls _ _ _ _ false _ HM.out).mono ?_); rintro e w3 ⟨rfl, hb⟩; have HB3 := Aside0.mk (below_step HB.out hb); clear HB hb)
   go_roundg k1
   case measure => omega
   case rel => exact ⟨i + 1, by go_num, ⟨by have := HI.out; omega⟩, ⟨by have := HG.out; exact this⟩, HB3⟩
set_option maxHeartbeats 800000 in
theorem qe1.calls (A0 : Option Addr) (c0 : Nat) (l0 : List (S37)) (r : Bool) (w : World) (hr0 : Kd.C k37 w A0 l0.length l0) (hc0 : l0.length ≤ c0) (h : qe1.f l0 = some r) :
  Calls Try.prog 92 #[.slice A0 l0.length c0, .func (.func 93) #[] #[]] w fun e w' => e = .returned (.bool r) ∧ Below w.heap.size w w' := by
 unfold qe1.f at h
 by_cases hl : l0.length < 4611686018427387904
 case neg => rw [if_neg hl] at h; exact absurd h r17_
 rw [if_pos hl] at h
 replace h := bs_ h
 obtain ⟨q, hq, h⟩ := h
 obtain rfl := Option.some.inj h
 clear h
 have HR0 := Aside0.mk hr0
 have HQ := Lib.hid hq
 clear hr0 hq
 go_enter Try.func92, Try.ntmps92
 go_wp2_with (go_at_call 95; (refine (qe1.index A0 c0 l0 q _ HR0.out hl HQ.out).mono ?_); rintro e w3 ⟨rfl, hb⟩; have HB3 := Aside0.mk hb; clear hb)
 go_ret
 exact ⟨rfl, HB3.out⟩

/-! ### qo1: function 81 -/
def qo1.f (k : Nat) (l0 : List (S37)) : Option (Bool) := if (l0.length : Int) > 0 then (if (l0.length : Int) ≤ 32 then ((qO.f k l0).bind fun t115 => (if t115 = true then ((qe1.f l0).bind fun t116 => (some (!t116))) else (some false))) else (some false)) else (some false)
theorem qo1.mono : ∀ a0 k, LeO (qo1.f k a0) (qo1.f (k + 1) a0) := by
 intro a0 k
 unfold qo1.f
 repeat' first
   | (with_reducible exact LeO.refl _)
   | (with_reducible exact LeO.none _)
   | (with_reducible refine LeO.ite ?_ ?_)
   | (with_reducible refine LeO.bind ?_ (fun _ => ?_))
   | exact qO.mono _ _
   | exact LeO.none _
   | refine LeO.ite ?_ ?_
   | refine LeO.bind ?_ (fun _ => ?_)
set_option maxHeartbeats 8000000 in
set_option maxRecDepth 100000 in
theorem qo1.calls (k : Nat) (A0 : Option Addr) (c0 : Nat) (l0 : List (S37)) (r : Bool) (w : World) (hr0 : Kd.C k37 w A0 l0.length l0) (hc0 : l0.length ≤ c0) (h : qo1.f k l0 = some r) :
  Calls Try.prog 81 #[.slice A0 l0.length c0] w fun e w' => e = .returned (.bool r) ∧ Below w.heap.size w w' := by
 have HR0 := Aside0.mk hr0
 have HC0 := Aside0.mk hc0
 clear hr0 hc0
 have HB := Aside0.mk (Below.refl w.heap.size w)
 have H : (if (l0.length : Int) > 0 then (if (l0.length : Int) ≤ 32 then ((qO.f k l0).bind fun t115 => (if t115 = true then ((qe1.f l0).bind fun t116 => (some (!t116))) else (some false))) else (some false)) else (some false)) = some r := h
 clear h
 by_cases c2 : (l0.length : Int) > 0
 rotate_left
 ·rw [if_neg c2] at H
  have c2b0 : decide (0 < (l0.length : Int)) = false := decide_eq_false c2
  have c2b1 : decide (0 < l0.length) = false := decide_eq_false r18_
  clear c2
  obtain rfl := Option.some.inj H
  go_enter Try.func81, Try.ntmps81
  go_wp2
  go_ret
  exact ⟨rf_, hB_⟩
 rw [if_pos c2] at H
 have c2b0 : decide (0 < (l0.length : Int)) = true := decide_eq_true c2
 have c2b1 : decide (0 < l0.length) = true := decide_eq_true r18_
 clear c2
 by_cases c3 : (l0.length : Int) ≤ 32
 rotate_left
 ·rw [if_neg c3] at H
  have c3b0 := decide_eq_false c3
  have c3b1 : decide (l0.length ≤ 32) = false := decide_eq_false r18_
  clear c3
  obtain rfl := Option.some.inj H
  go_enter Try.func81, Try.ntmps81
  go_wp2
  go_ret
  exact ⟨rf_, hB_⟩
 rw [if_pos c3] at H
 have c3b0 := decide_eq_true c3
 have c3b1 : decide (l0.length ≤ 32) = true := decide_eq_true r18_
 clear c3
 replace H := bs_ H
 obtain ⟨t115, A40, H⟩ := H
 try dsimp only at H
 have A4 := Aside0.mk A40
 clear A40
 by_cases c5 : t115 = true
 rotate_left
 ·replace c5 := Bool.eq_false_iff.mpr c5
  subst c5
  rw [if_neg ff_] at H
  obtain rfl := Option.some.inj H
  go_enter Try.func81, Try.ntmps81
  go_wp2_with (first | (go_at_call 27; (with_reducible refine (qO.calls k _ _ l0 false _ ?side1 ?side2 A4.out).mono ?_); (case side1 => repeat (first | exact HR0.out | (with_reducible refine Kd.C_alloc ?_ _) | (with_reducible refine Kd.C_drewN ?_ _) | (with_reducible refine Kd.C_drew ?_))); (case side2 => exact HC0.out); rintro e w9 ⟨rfl, hb⟩; replace HB := Aside0.mk (below_step hB_ hb); clear hb A4))
  go_ret
  exact ⟨rf_, hB_⟩
 subst c5
 rw [if_pos rfl] at H
 replace H := bs_ H
 obtain ⟨t116, A60, H⟩ := H
 try dsimp only at H
 have A6 := Aside0.mk A60
 clear A60
 obtain rfl := Option.some.inj H
 go_enter Try.func81, Try.ntmps81
 go_wp2_with (first | (go_at_call 27; (with_reducible refine (qO.calls k _ _ l0 true _ ?side1 ?side2 A4.out).mono ?_); (case side1 => repeat (first | exact HR0.out | (with_reducible refine Kd.C_alloc ?_ _) | (with_reducible refine Kd.C_drewN ?_ _) | (with_reducible refine Kd.C_drew ?_))); (case side2 => exact HC0.out); rintro e w7 ⟨rfl, hb⟩; replace HB := Aside0.mk (below_step hB_ hb); clear hb A4) | (go_at_call 92; (with_reducible refine (qe1.calls _ _ l0  t116 _ ?side1 ?side2 A6.out).mono ?_); (case side1 => repeat (first | exact (Kd.C_below HR0.out HB.out) | (with_reducible refine Kd.C_alloc ?_ _) | (with_reducible refine Kd.C_drewN ?_ _) | (with_reducible refine Kd.C_drew ?_))); (case side2 => exact HC0.out); rintro e w8 ⟨rfl, hb⟩; replace HB := Aside0.mk (below_step hB_ hb); clear hb A6))
 go_ret
 exact ⟨rf_, hB_⟩

/-! ### qY: function 82 -/
def qY.l0 : Nat → ByteArray → ByteArray → Int → Int → Int → Option (Int)
 | 0, _, _, _, _, _ => none
 | k + 1, x0, x1, x5, x12, x13 => if x13 < x12 then (if 0 ≤ x13 then (if x13 < (x0.size : Int) then (if x13 < (x1.size : Int) then (if (bt x0 x13) = (bt x1 x13) then (qY.l0 k x0 x1 x5 x12 (wrap64 (x13 + 1))) else (some x13)) else (none)) else (none)) else (none)) else (some x5)
def qY.f (k : Nat) (a0 : ByteArray) (a1 : ByteArray) : Option (Int) := qY.l0 k a0 a1 (mn (a0.size : Int) (a1.size : Int)) (mn (a0.size : Int) (a1.size : Int)) 0
theorem qY.mono_l : ∀ k, (∀ y0 y1 y2 y3 y4, LeO (qY.l0 k y0 y1 y2 y3 y4) (qY.l0 (k + 1) y0 y1 y2 y3 y4))
 | 0 => fun _ _ _ _ _ r h => by simp [qY.l0] at h
 | k + 1 => by
  have ih0 := qY.mono_l k
  ·intro y0 y1 y2 y3 y4
   unfold qY.l0
   repeat' first
   | (with_reducible exact ih0 _ _ _ _ _)
   | (with_reducible exact LeO.refl _)
   | (with_reducible exact LeO.none _)
   | (with_reducible refine LeO.ite ?_ ?_)
   | (with_reducible refine LeO.bind ?_ (fun _ => ?_))
   | exact ih0 _ _ _ _ _
   | exact LeO.none _
   | refine LeO.ite ?_ ?_
   | refine LeO.bind ?_ (fun _ => ?_)
theorem qY.mono : ∀ a0 a1 k, LeO (qY.f k a0 a1) (qY.f (k + 1) a0 a1) := by
 intro a0 a1 k
 have ih0 := qY.mono_l k
 unfold qY.f
 repeat' first
   | (with_reducible exact ih0 _ _ _ _ _)
   | (with_reducible exact LeO.refl _)
   | (with_reducible exact LeO.none _)
   | (with_reducible refine LeO.ite ?_ ?_)
   | (with_reducible refine LeO.bind ?_ (fun _ => ?_))
   | exact ih0 _ _ _ _ _
   | exact LeO.none _
   | refine LeO.ite ?_ ?_
   | refine LeO.bind ?_ (fun _ => ?_)
set_option maxHeartbeats 8000000 in
set_option maxRecDepth 100000 in
theorem qY.calls (k : Nat) (a0 : ByteArray) (a1 : ByteArray) (r : Int) (w : World) (h : qY.f k a0 a1 = some r) :
  Calls Try.prog 82 #[.string a0, .string a1] w fun e w' => e = .returned (.int .i64 r) ∧ Below w.heap.size w w' := by
 have HB := Aside0.mk (Below.refl w.heap.size w)
 have H : (qY.l0 k a0 a1 (mn (a0.size : Int) (a1.size : Int)) (mn (a0.size : Int) (a1.size : Int)) 0) = some r := h
 clear h
 obtain ⟨ji3, hji3⟩ : ∃ j_ : Int, (mn (a0.size : Int) (a1.size : Int)) = j_ := ⟨_, rfl⟩
 replace H : (qY.l0 k a0 a1 ji3 ji3 0) = some r := by first | (rw [hji3] at H; exact H) | (simp only [hji3] at H ⊢; exact H)
 (try rw [hji3])
 (try (have hji3l : 0 ≤ ji3 := by (rw [← hji3]; unfold mn; (repeat' split) <;> omega)))
 (try (have hji3m : 0 ≤ ji3 := by omega))
 have hji3_n : (if a1.size < a0.size then (a1.size : Int) else (a0.size : Int)) = ji3 := by first | (have z_ := hji3; unfold mn at z_; simp only [Int.ofNat_lt] at z_; exact z_)
 have hji3_ : (if (a1.size : Int) < (a0.size : Int) then (a1.size : Int) else (a0.size : Int)) = ji3 := hji3
 have H' := Aside0.mk H
 clear H
 go_enter Try.func82, Try.ntmps82
 go_wp2
 repeat (go_quiet (fail); try go_wp2)
 go_loopg [13] k (fun kq v13 w' => ∃ (x13_1 : Int), v13 = .int .i64 x13_1 ∧ Aside0 (qY.l0 kq a0 a1 ji3 ji3 x13_1 = some r) ∧ Aside0 (kq ≤ k) ∧ Aside0 (Below w.heap.size w w'))
 case atStart => exact ⟨(0), rs_, H', ⟨Nat.le_refl _⟩, ⟨hB_⟩⟩
 case round =>
  clear H'
  obtain ⟨x13_1, rfl, HA, HK1, HB⟩ := hrel
  cases gk with
  | zero => exact absurd HA.out (by simp [qY.l0])
  | succ k1 =>
   have H := HA.out
   clear HA
   simp only [qY.l0] at H
   by_cases c4 : x13_1 < ji3
   rotate_left
   ·rw [if_neg c4] at H
    have c4b0 := decide_eq_false c4
    clear c4
    obtain rfl := Option.some.inj H
    go_wp2
    repeat (go_quiet (fail); try go_wp2)
    go_ret
    exact ⟨by first | rfl | (simp [errW_none, errW_some] <;> rfl) | (simp (disch := omega) only [← i64_w, IntWalk.i64_in]; rfl) | (simp only [← hji3]; first | rfl | (simp [errW_none, errW_some] <;> rfl)) | (simp [*, errW_none, errW_some] <;> rfl), hB_⟩
   rw [if_pos c4] at H
   have c4b0 := decide_eq_true c4
   clear c4
   by_cases c5 : 0 ≤ x13_1
   rotate_left
   ·rw [if_neg c5] at H
    exact absurd H r17_
   rw [if_pos c5] at H
   have c5b0 := decide_eq_true c5
   clear c5
   by_cases c6 : x13_1 < (a0.size : Int)
   rotate_left
   ·rw [if_neg c6] at H
    exact absurd H r17_
   rw [if_pos c6] at H
   have c6b0 := decide_eq_true c6
   clear c6
   by_cases c8 : x13_1 < (a1.size : Int)
   rotate_left
   ·rw [if_neg c8] at H
    exact absurd H r17_
   rw [if_pos c8] at H
   have c8b0 := decide_eq_true c8
   clear c8
   by_cases c10 : (bt a0 x13_1) = (bt a1 x13_1)
   rotate_left
   ·rw [if_neg c10] at H
    have c10b0 := beq_eq_false_iff_ne.mpr c10
    have c10b1 := bne_iff_ne.mpr c10
    obtain rfl := Option.some.inj H
    have p7 : 0 ≤ (x13_1 : Int) := of_decide_eq_true as_
    have q7 : x13_1 < (a0.size : Int) := of_decide_eq_true as_
    have hx7 := bt_at a0 x13_1
    replace p7 := eq_true p7
    replace q7 := eq_true q7
    have p9 : 0 ≤ (x13_1 : Int) := of_decide_eq_true as_
    have q9 : x13_1 < (a1.size : Int) := of_decide_eq_true as_
    have hx9 := bt_at a1 x13_1
    replace p9 := eq_true p9
    replace q9 := eq_true q9
    go_wp2
    repeat (go_quiet (fail); try go_wp2)
    go_ret
    exact ⟨by first | rfl | (simp [errW_none, errW_some] <;> rfl) | (simp (disch := omega) only [← i64_w, IntWalk.i64_in]; rfl) | (simp only [← hji3]; first | rfl | (simp [errW_none, errW_some] <;> rfl)) | (simp [*, errW_none, errW_some] <;> rfl), hB_⟩
   rw [if_pos c10] at H
   have c10b0 := beq_iff_eq.mpr c10
   have c10b1 := bne_eq_false_iff_eq.mpr c10
   clear c10
   have H' := Aside0.mk H
   clear H
   have p7 : 0 ≤ (x13_1 : Int) := of_decide_eq_true as_
   have q7 : x13_1 < (a0.size : Int) := of_decide_eq_true as_
   have hx7 := bt_at a0 x13_1
   replace p7 := eq_true p7
   replace q7 := eq_true q7
   have p9 : 0 ≤ (x13_1 : Int) := of_decide_eq_true as_
   have q9 : x13_1 < (a1.size : Int) := of_decide_eq_true as_
   have hx9 := bt_at a1 x13_1
   replace p9 := eq_true p9
   replace q9 := eq_true q9
   go_wp2
   repeat (go_quiet (fail); try go_wp2)
   go_roundg k1
   case measure => have := HK1.out; omega
   case rel => exact ⟨(wrap64 (x13_1 + 1)), rs_, hH_, ⟨by have := HK1.out; omega⟩, ⟨hB_⟩⟩

-- NOT PRINTED: function 83 (strings_Builder_WriteByte)

end Go.Proofs.Ytgdkikkjaofbfaa.P
