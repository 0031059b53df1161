-- Printed by a program of this session's own (wip/tools/pprint.sh, over the kit's print, with given contracts): not typed by hand.
import Derived.Test.YtfgelbkhjiajfaaPx0
namespace Go.Proofs.Ytfgelbkhjiajfaa.P
open Go.RowKit Go.Proofs.YtfgelbkhjiajfaaW.PrintWords Go.Proofs.YtfgelbkhjiajfaaW.PrintLast Go.Proofs.YtfgelbkhjiajfaaW.PrintMore
attribute [local go_sem] max2_int min2_int max_two min_two max_three min_three max_four min_four   -- for this text's walks alone
set_option linter.unusedVariables false
set_option linter.unusedSimpArgs false

/-! ### batch_one: function 32 -/
def batch_one.f (a0_0 : Bool) (a0_1 : ByteArray) (a0_2 : ByteArray) : Option (Bool) := if a0_1.toList = ([] : List UInt8) then (some false) else (if (a0_1.size : Int) ≤ 100 then (if (a0_2.size : Int) ≤ 100 then (if a0_0 = true then (some (a0_2.toList == ([] : List UInt8))) else (some true)) else (some false)) else (some false))
set_option maxHeartbeats 8000000 in
set_option maxRecDepth 100000 in
theorem batch_one.calls (a0_0 : Bool) (a0_1 : ByteArray) (a0_2 : ByteArray) (r : Bool) (w : World) (h : batch_one.f a0_0 a0_1 a0_2 = some r) :
    Calls Try.prog 32 #[.agg #[.bool a0_0, .string a0_1, .string a0_2]] w fun e w' => e = .returned (.bool r) ∧ Below w.heap.size w w' := by
  have hu34 := Try.underlying34
  have HB := Aside0.mk (Below.refl w.heap.size w)
  have H : (if a0_1.toList = ([] : List UInt8) then (some false) else (if (a0_1.size : Int) ≤ 100 then (if (a0_2.size : Int) ≤ 100 then (if a0_0 = true then (some (a0_2.toList == ([] : List UInt8))) else (some true)) else (some false)) else (some false))) = some r := h
  clear h
  by_cases c2 : a0_1.toList = ([] : List UInt8)
  · rw [if_pos c2] at H
    have c2b0 : (a0_1.toList == ([] : List UInt8)) = true := beq_iff_eq.mpr c2
    have c2b1 : (a0_1.toList != ([] : List UInt8)) = false := bne_eq_false_iff_eq.mpr c2
    clear c2
    obtain rfl := Option.some.inj H
    go_enter Try.func32, Try.ntmps32
    go_wp2_with (first | ((with_reducible refine gate_dst (N := 1) rfl ?_); (try (refine gate_guard (by rfl) ?_; dsimp only)); refine box_event ?hg (N := 1) ?hd (cs := #[.bool a0_0, .string a0_1, .string a0_2]) (t := 34) ?hr ?_; (case hd => rfl); (case hg => rfl); (case hr => first | (go_simp; done) | (go_simp; rfl)); intro gb101 hg w3 hbox hb; have n0_ := Aside0.mk (below_step (by repeat (first | (with_reducible first | exact HB.out | apply below_alloc | apply pw_below_drewN | apply below_drew1) | exact HB.out)) hb); have n1_ := Aside0.mk (hbox); have n2_ := Aside0.mk ((by rw [hg]; exact (below_size (by repeat (first | (with_reducible first | exact HB.out | apply below_alloc | apply pw_below_drewN | apply below_drew1) | exact HB.out))) : w.heap.size ≤ gb101)); have n3_ := Aside0.mk ((by rw [hg]; exact (below_size (by repeat (first | (with_reducible first | exact HB.out | apply below_alloc | apply pw_below_drewN | apply below_drew1) | exact HB.out))) : w.heap.size ≤ gb101)); clear HB; have HB := n0_; have BK101 := n1_; have GW101 := n2_; have GE101 := n3_; clear n0_ n1_ n2_ n3_; clear hb hbox hg; have hcz4_0 : w3.cell? ⟨gb101, 0, none⟩ = some (.bool a0_0) := (blk_cell BK101.out 0).trans rfl; have hcz4_1 : w3.cell? ⟨gb101, 1, none⟩ = some (.string a0_1) := (blk_cell BK101.out 1).trans rfl; have hcz4_2 : w3.cell? ⟨gb101, 2, none⟩ = some (.string a0_2) := (blk_cell BK101.out 2).trans rfl; have hfz4_0 := blk_frozen BK101.out 0; have hfz4_1 := blk_frozen BK101.out 1; have hfz4_2 := blk_frozen BK101.out 2))
    go_ret
    exact ⟨by first | rfl | (simp [errW_none, errW_some] <;> rfl) | (simp (disch := omega) only [← i64_w, IntWalk.i64_in]; rfl) | (simp [*, errW_none, errW_some] <;> rfl), by repeat (first | (with_reducible first | exact HB.out | apply below_alloc | apply pw_below_drewN | apply below_drew1 | refine below_set ?_ GE101.out) | exact HB.out)⟩
  · rw [if_neg c2] at H
    have c2b0 : (a0_1.toList == ([] : List UInt8)) = false := beq_eq_false_iff_ne.mpr c2
    have c2b1 : (a0_1.toList != ([] : List UInt8)) = true := bne_iff_ne.mpr c2
    by_cases c5 : (a0_1.size : Int) ≤ 100
    · rw [if_pos c5] at H
      have c5b0 : decide ((a0_1.size : Int) ≤ 100) = true := decide_eq_true c5
      have c5b1 : decide (a0_1.size ≤ 100) = true := decide_eq_true (by omega)
      clear c5
      by_cases c6 : (a0_2.size : Int) ≤ 100
      · rw [if_pos c6] at H
        have c6b0 : decide ((a0_2.size : Int) ≤ 100) = true := decide_eq_true c6
        have c6b1 : decide (a0_2.size ≤ 100) = true := decide_eq_true (by omega)
        clear c6
        by_cases c7 : a0_0 = true
        · subst c7
          have H1 : (some (a0_2.toList == ([] : List UInt8))) = some r := by rw [if_pos rfl] at H; exact H
          clear H
          have H := H1
          clear H1
          obtain rfl := Option.some.inj H
          go_enter Try.func32, Try.ntmps32
          go_wp2_with (first | ((with_reducible refine gate_dst (N := 1) rfl ?_); (try (refine gate_guard (by rfl) ?_; dsimp only)); refine box_event ?hg (N := 1) ?hd (cs := #[.bool true, .string a0_1, .string a0_2]) (t := 34) ?hr ?_; (case hd => rfl); (case hg => rfl); (case hr => first | (go_simp; done) | (go_simp; rfl)); intro gb101 hg w8 hbox hb; have n0_ := Aside0.mk (below_step (by repeat (first | (with_reducible first | exact HB.out | apply below_alloc | apply pw_below_drewN | apply below_drew1) | exact HB.out)) hb); have n1_ := Aside0.mk (hbox); have n2_ := Aside0.mk ((by rw [hg]; exact (below_size (by repeat (first | (with_reducible first | exact HB.out | apply below_alloc | apply pw_below_drewN | apply below_drew1) | exact HB.out))) : w.heap.size ≤ gb101)); have n3_ := Aside0.mk ((by rw [hg]; exact (below_size (by repeat (first | (with_reducible first | exact HB.out | apply below_alloc | apply pw_below_drewN | apply below_drew1) | exact HB.out))) : w.heap.size ≤ gb101)); clear HB; have HB := n0_; have BK101 := n1_; have GW101 := n2_; have GE101 := n3_; clear n0_ n1_ n2_ n3_; clear hb hbox hg; have hcz9_0 : w8.cell? ⟨gb101, 0, none⟩ = some (.bool true) := (blk_cell BK101.out 0).trans rfl; have hcz9_1 : w8.cell? ⟨gb101, 1, none⟩ = some (.string a0_1) := (blk_cell BK101.out 1).trans rfl; have hcz9_2 : w8.cell? ⟨gb101, 2, none⟩ = some (.string a0_2) := (blk_cell BK101.out 2).trans rfl; have hfz9_0 := blk_frozen BK101.out 0; have hfz9_1 := blk_frozen BK101.out 1; have hfz9_2 := blk_frozen BK101.out 2))
          go_ret
          exact ⟨by first | rfl | (simp [errW_none, errW_some] <;> rfl) | (simp (disch := omega) only [← i64_w, IntWalk.i64_in]; rfl) | (simp [*, errW_none, errW_some] <;> rfl), by repeat (first | (with_reducible first | exact HB.out | apply below_alloc | apply pw_below_drewN | apply below_drew1 | refine below_set ?_ GE101.out) | exact HB.out)⟩
        · replace c7 := Bool.eq_false_iff.mpr c7
          subst c7
          have H1 : (some true) = some r := by rw [if_neg (show ¬ (false = true) by decide)] at H; exact H
          clear H
          have H := H1
          clear H1
          obtain rfl := Option.some.inj H
          go_enter Try.func32, Try.ntmps32
          go_wp2_with (first | ((with_reducible refine gate_dst (N := 1) rfl ?_); (try (refine gate_guard (by rfl) ?_; dsimp only)); refine box_event ?hg (N := 1) ?hd (cs := #[.bool false, .string a0_1, .string a0_2]) (t := 34) ?hr ?_; (case hd => rfl); (case hg => rfl); (case hr => first | (go_simp; done) | (go_simp; rfl)); intro gb101 hg w10 hbox hb; have n0_ := Aside0.mk (below_step (by repeat (first | (with_reducible first | exact HB.out | apply below_alloc | apply pw_below_drewN | apply below_drew1) | exact HB.out)) hb); have n1_ := Aside0.mk (hbox); have n2_ := Aside0.mk ((by rw [hg]; exact (below_size (by repeat (first | (with_reducible first | exact HB.out | apply below_alloc | apply pw_below_drewN | apply below_drew1) | exact HB.out))) : w.heap.size ≤ gb101)); have n3_ := Aside0.mk ((by rw [hg]; exact (below_size (by repeat (first | (with_reducible first | exact HB.out | apply below_alloc | apply pw_below_drewN | apply below_drew1) | exact HB.out))) : w.heap.size ≤ gb101)); clear HB; have HB := n0_; have BK101 := n1_; have GW101 := n2_; have GE101 := n3_; clear n0_ n1_ n2_ n3_; clear hb hbox hg; have hcz11_0 : w10.cell? ⟨gb101, 0, none⟩ = some (.bool false) := (blk_cell BK101.out 0).trans rfl; have hcz11_1 : w10.cell? ⟨gb101, 1, none⟩ = some (.string a0_1) := (blk_cell BK101.out 1).trans rfl; have hcz11_2 : w10.cell? ⟨gb101, 2, none⟩ = some (.string a0_2) := (blk_cell BK101.out 2).trans rfl; have hfz11_0 := blk_frozen BK101.out 0; have hfz11_1 := blk_frozen BK101.out 1; have hfz11_2 := blk_frozen BK101.out 2))
          go_ret
          exact ⟨by first | rfl | (simp [errW_none, errW_some] <;> rfl) | (simp (disch := omega) only [← i64_w, IntWalk.i64_in]; rfl) | (simp [*, errW_none, errW_some] <;> rfl), by repeat (first | (with_reducible first | exact HB.out | apply below_alloc | apply pw_below_drewN | apply below_drew1 | refine below_set ?_ GE101.out) | exact HB.out)⟩
      · rw [if_neg c6] at H
        have c6b0 : decide ((a0_2.size : Int) ≤ 100) = false := decide_eq_false c6
        have c6b1 : decide (a0_2.size ≤ 100) = false := decide_eq_false (by omega)
        clear c6
        obtain rfl := Option.some.inj H
        go_enter Try.func32, Try.ntmps32
        go_wp2_with (first | ((with_reducible refine gate_dst (N := 1) rfl ?_); (try (refine gate_guard (by rfl) ?_; dsimp only)); refine box_event ?hg (N := 1) ?hd (cs := #[.bool a0_0, .string a0_1, .string a0_2]) (t := 34) ?hr ?_; (case hd => rfl); (case hg => rfl); (case hr => first | (go_simp; done) | (go_simp; rfl)); intro gb101 hg w12 hbox hb; have n0_ := Aside0.mk (below_step (by repeat (first | (with_reducible first | exact HB.out | apply below_alloc | apply pw_below_drewN | apply below_drew1) | exact HB.out)) hb); have n1_ := Aside0.mk (hbox); have n2_ := Aside0.mk ((by rw [hg]; exact (below_size (by repeat (first | (with_reducible first | exact HB.out | apply below_alloc | apply pw_below_drewN | apply below_drew1) | exact HB.out))) : w.heap.size ≤ gb101)); have n3_ := Aside0.mk ((by rw [hg]; exact (below_size (by repeat (first | (with_reducible first | exact HB.out | apply below_alloc | apply pw_below_drewN | apply below_drew1) | exact HB.out))) : w.heap.size ≤ gb101)); clear HB; have HB := n0_; have BK101 := n1_; have GW101 := n2_; have GE101 := n3_; clear n0_ n1_ n2_ n3_; clear hb hbox hg; have hcz13_0 : w12.cell? ⟨gb101, 0, none⟩ = some (.bool a0_0) := (blk_cell BK101.out 0).trans rfl; have hcz13_1 : w12.cell? ⟨gb101, 1, none⟩ = some (.string a0_1) := (blk_cell BK101.out 1).trans rfl; have hcz13_2 : w12.cell? ⟨gb101, 2, none⟩ = some (.string a0_2) := (blk_cell BK101.out 2).trans rfl; have hfz13_0 := blk_frozen BK101.out 0; have hfz13_1 := blk_frozen BK101.out 1; have hfz13_2 := blk_frozen BK101.out 2))
        go_ret
        exact ⟨by first | rfl | (simp [errW_none, errW_some] <;> rfl) | (simp (disch := omega) only [← i64_w, IntWalk.i64_in]; rfl) | (simp [*, errW_none, errW_some] <;> rfl), by repeat (first | (with_reducible first | exact HB.out | apply below_alloc | apply pw_below_drewN | apply below_drew1 | refine below_set ?_ GE101.out) | exact HB.out)⟩
    · rw [if_neg c5] at H
      have c5b0 : decide ((a0_1.size : Int) ≤ 100) = false := decide_eq_false c5
      have c5b1 : decide (a0_1.size ≤ 100) = false := decide_eq_false (by omega)
      clear c5
      obtain rfl := Option.some.inj H
      go_enter Try.func32, Try.ntmps32
      go_wp2_with (first | ((with_reducible refine gate_dst (N := 1) rfl ?_); (try (refine gate_guard (by rfl) ?_; dsimp only)); refine box_event ?hg (N := 1) ?hd (cs := #[.bool a0_0, .string a0_1, .string a0_2]) (t := 34) ?hr ?_; (case hd => rfl); (case hg => rfl); (case hr => first | (go_simp; done) | (go_simp; rfl)); intro gb101 hg w14 hbox hb; have n0_ := Aside0.mk (below_step (by repeat (first | (with_reducible first | exact HB.out | apply below_alloc | apply pw_below_drewN | apply below_drew1) | exact HB.out)) hb); have n1_ := Aside0.mk (hbox); have n2_ := Aside0.mk ((by rw [hg]; exact (below_size (by repeat (first | (with_reducible first | exact HB.out | apply below_alloc | apply pw_below_drewN | apply below_drew1) | exact HB.out))) : w.heap.size ≤ gb101)); have n3_ := Aside0.mk ((by rw [hg]; exact (below_size (by repeat (first | (with_reducible first | exact HB.out | apply below_alloc | apply pw_below_drewN | apply below_drew1) | exact HB.out))) : w.heap.size ≤ gb101)); clear HB; have HB := n0_; have BK101 := n1_; have GW101 := n2_; have GE101 := n3_; clear n0_ n1_ n2_ n3_; clear hb hbox hg; have hcz15_0 : w14.cell? ⟨gb101, 0, none⟩ = some (.bool a0_0) := (blk_cell BK101.out 0).trans rfl; have hcz15_1 : w14.cell? ⟨gb101, 1, none⟩ = some (.string a0_1) := (blk_cell BK101.out 1).trans rfl; have hcz15_2 : w14.cell? ⟨gb101, 2, none⟩ = some (.string a0_2) := (blk_cell BK101.out 2).trans rfl; have hfz15_0 := blk_frozen BK101.out 0; have hfz15_1 := blk_frozen BK101.out 1; have hfz15_2 := blk_frozen BK101.out 2))
      go_ret
      exact ⟨by first | rfl | (simp [errW_none, errW_some] <;> rfl) | (simp (disch := omega) only [← i64_w, IntWalk.i64_in]; rfl) | (simp [*, errW_none, errW_some] <;> rfl), by repeat (first | (with_reducible first | exact HB.out | apply below_alloc | apply pw_below_drewN | apply below_drew1 | refine below_set ?_ GE101.out) | exact HB.out)⟩

/-! ### batch_May_1: function 31 -/
def batch_May_1.f (a0_0 : Bool) (a0_1 : ByteArray) (a0_2 : ByteArray) : Option (Bool) := (batch_one.f a0_0 a0_1 a0_2).bind fun t103 => (some (!t103))
set_option maxHeartbeats 8000000 in
set_option maxRecDepth 100000 in
theorem batch_May_1.calls (a0_0 : Bool) (a0_1 : ByteArray) (a0_2 : ByteArray) (r : Bool) (w : World) (h : batch_May_1.f a0_0 a0_1 a0_2 = some r) :
    Calls Try.prog 31 #[.agg #[.bool a0_0, .string a0_1, .string a0_2]] w fun e w' => e = .returned (.bool r) ∧ Below w.heap.size w w' := by
  have hu34 := Try.underlying34
  have HB := Aside0.mk (Below.refl w.heap.size w)
  have H : ((batch_one.f a0_0 a0_1 a0_2).bind fun t103 => (some (!t103))) = some r := h
  clear h
  replace H := Option.bind_eq_some_iff.mp H
  obtain ⟨t103, A20, H⟩ := H
  replace H : (some (!t103)) = some r := H
  have A2 := Aside0.mk A20
  clear A20
  obtain rfl := Option.some.inj H
  go_enter Try.func31, Try.ntmps31
  go_wp2_with (first | ((with_reducible refine gate_dst (N := 1) rfl ?_); refine box_event ?hg (N := 1) ?hd (cs := #[.bool a0_0, .string a0_1, .string a0_2]) (t := 34) ?hr ?_; (case hd => rfl); (case hg => rfl); (case hr => first | (go_simp; done) | (go_simp; rfl)); intro gb102 hg w3 hbox hb; have n0_ := Aside0.mk (below_step (by repeat (first | (with_reducible first | exact HB.out | apply below_alloc | apply pw_below_drewN | apply below_drew1) | exact HB.out)) hb); have n1_ := Aside0.mk (hbox); have n2_ := Aside0.mk ((by rw [hg]; exact (below_size (by repeat (first | (with_reducible first | exact HB.out | apply below_alloc | apply pw_below_drewN | apply below_drew1) | exact HB.out))) : w.heap.size ≤ gb102)); have n3_ := Aside0.mk ((by rw [hg]; exact (below_size (by repeat (first | (with_reducible first | exact HB.out | apply below_alloc | apply pw_below_drewN | apply below_drew1) | exact HB.out))) : w.heap.size ≤ gb102)); clear HB; have HB := n0_; have BK102 := n1_; have GW102 := n2_; have GE102 := n3_; clear n0_ n1_ n2_ n3_; clear hb hbox hg; have hcz4_0 : w3.cell? ⟨gb102, 0, none⟩ = some (.bool a0_0) := (blk_cell BK102.out 0).trans rfl; have hcz4_1 : w3.cell? ⟨gb102, 1, none⟩ = some (.string a0_1) := (blk_cell BK102.out 1).trans rfl; have hcz4_2 : w3.cell? ⟨gb102, 2, none⟩ = some (.string a0_2) := (blk_cell BK102.out 2).trans rfl; have hfz4_0 := blk_frozen BK102.out 0; have hfz4_1 := blk_frozen BK102.out 1; have hfz4_2 := blk_frozen BK102.out 2) | ((with_reducible refine gate_callee (f := 32) rfl ?_); refine goesL_ (some 4) rfl rfl Try.func32 (by kernel_rfl) rfl #[.agg #[.bool a0_0, .string a0_1, .string a0_2]] rfl (by (try simp only [List.map_toArray, List.map_cons, List.map_nil]); first | done | rfl | (simp only [List.length_drop, List.length_take]; rfl) | (simp (disch := omega) only [IntWalk.u64_in, IntWalk.i64_in, IntWalk.u8_in]; rfl)) ?_; (with_reducible refine (batch_one.calls a0_0 a0_1 a0_2 t103 _ A2.out).mono ?_); rintro e w5 ⟨rfl, hb⟩; refine ⟨_, rfl, ?_⟩; have n0_ := Aside0.mk (blk_below (g := gb102) (o := .cells #[.bool a0_0, .string a0_1, .string a0_2] 34 (0, 0)) (by (with_reducible repeat (first | refine blk_drewN ?_ _ | refine blk_drew ?_ | refine blk_alloc ?_ _)); exact BK102.out) hb); have n1_ := Aside0.mk (below_step (by repeat (first | (with_reducible first | exact HB.out | apply below_alloc | apply pw_below_drewN | apply below_drew1 | refine below_set ?_ GE102.out) | exact HB.out)) hb); clear BK102; clear HB; have BK102 := n0_; have HB := n1_; clear n0_ n1_; (try clear hb); (try clear hb2); (try clear hk); (try clear hi); (try clear A2)))
  go_ret
  exact ⟨by first | rfl | (simp [errW_none, errW_some] <;> rfl) | (simp (disch := omega) only [← i64_w, IntWalk.i64_in]; rfl) | (simp [*, errW_none, errW_some] <;> rfl), by repeat (first | (with_reducible first | exact HB.out | apply below_alloc | apply pw_below_drewN | apply below_drew1 | refine below_set ?_ GE102.out) | exact HB.out)⟩

-- NOT PRINTED: function 39 (api_Op_39)

/-! ### api_Op_30: function 30 -/
def api_Op_30.idx : List (S34) → Int → Option Int
  | [], _ => some (-1)
  | x :: l, i => (batch_May_1.f x.f0 x.f1 x.f2).bind fun b => if b = true then some i else api_Op_30.idx l (i + 1)
def api_Op_30.f (l0 : List (S34)) : Option Bool := if l0.length < 4611686018427387904 then (api_Op_30.idx l0 0).bind fun r => some (decide (r ≥ 0)) else none
set_option maxHeartbeats 1600000 in
set_option maxRecDepth 100000 in
theorem api_Op_30.index (A0 : Option Addr) (c0 : Nat) (l0 : List (S34)) (r : Int) (w : World) (hr0 : Kd.C k34 w A0 l0.length l0) (hl : l0.length < 4611686018427387904) (h : api_Op_30.idx l0 0 = some r) :
    Calls Try.prog 39 #[.slice A0 l0.length c0, .func (.func 31) #[] #[]] w fun e w' => e = .returned (.int .i64 r) ∧ Below w.heap.size w w' := by
  have hu_ := Try.underlying34
  have HR0 := Aside0.mk hr0
  have HG := Lib.hid h
  clear hr0 h
  go_enter Try.func39, Try.ntmps39
  go_wp2
  have HB : Aside0 (Below w.heap.size w w) := ⟨Below.refl _ _⟩
  go_loopg [8] l0.length (fun kq v8 w' => ∃ (i : Nat), v8 = .int .i64 (i : Int) ∧ Aside0 (kq + i = l0.length) ∧ Aside0 (api_Op_30.idx (l0.drop i) (i : Int) = some r) ∧ Aside0 (Below w.heap.size w w'))
  case atStart => exact ⟨0, rfl, ⟨by omega⟩, ⟨HG.out⟩, HB⟩
  case round =>
    clear HB HG
    obtain ⟨i, rfl, HI, HG, HB⟩ := hrel
    by_cases hlt : i < l0.length
    · have hkg : ∃ k1, gk = k1 + 1 := ⟨gk - 1, by have := HI.out; omega⟩
      obtain ⟨k1, rfl⟩ := hkg
      have hdr : l0.drop i = rd_T34 l0 (i : Int) :: l0.drop (i + 1) := by
        rw [List.drop_eq_getElem_cons hlt]; simp [rd_T34, hlt]
      have hg := HG.out
      rw [hdr] at hg
      clear hdr HG
      replace hg := Option.bind_eq_some_iff.mp hg
      obtain ⟨b, hb1, hg⟩ := hg
      have HM := Lib.hid hb1
      clear hb1
      obtain ⟨ad, ead, hx0, hx1, hx2⟩ := at_T34 HR0.out (i : Int) (by omega) (by omega)
      subst ead
      have htn : ((i : Int)).toNat = i := by omega
      rw [htn] at hx0 hx1 hx2
      clear htn
      replace hx0 := (HB.out.cell (World.block_lt_of_cell? w _ hx0)).trans hx0
      replace hx1 := (HB.out.cell (World.block_lt_of_cell? w _ hx1)).trans hx1
      replace hx2 := (HB.out.cell (World.block_lt_of_cell? w _ hx2)).trans hx2
      cases b with
      | true =>
        obtain rfl : (i : Int) = r := by simpa using hg
        clear hg
        go_wp2_with (go_at_call 31; (refine (batch_May_1.calls _ _ _ true _ HM.out).mono ?_); rintro e w3 ⟨rfl, hb⟩; have HB3 := Aside0.mk (below_step HB.out hb); clear HB hb)
        go_ret
        exact ⟨rfl, HB3.out⟩
      | false =>
        have HG : Hid (api_Op_30.idx (l0.drop (i + 1)) ((i : Int) + 1) = some r) := by
          have h2 : (if false = true then some (i : Int) else api_Op_30.idx (l0.drop (i + 1)) ((i : Int) + 1)) = some r := hg
          rw [if_neg (by decide)] at h2
          exact Lib.hid h2
        clear hg
        go_wp2_with (go_at_call 31; (refine (batch_May_1.calls _ _ _ false _ HM.out).mono ?_); rintro e w3 ⟨rfl, hb⟩; have HB3 := Aside0.mk (below_step HB.out hb); clear HB hb)
        go_roundg k1
        case measure => omega
        case rel => exact ⟨i + 1, by go_num, ⟨by have := HI.out; omega⟩, ⟨by have := HG.out; exact this⟩, HB3⟩
    · have hdr : l0.drop i = [] := List.drop_eq_nil_of_le (by omega)
      have hg := HG.out
      rw [hdr] at hg
      clear hdr HG
      obtain rfl : (-1 : Int) = r := by simpa [api_Op_30.idx] using hg
      clear hg
      go_wp2
      go_ret
      exact ⟨rfl, HB.out⟩
set_option maxHeartbeats 800000 in
theorem api_Op_30.calls (A0 : Option Addr) (c0 : Nat) (l0 : List (S34)) (r : Bool) (w : World) (hr0 : Kd.C k34 w A0 l0.length l0) (hc0 : l0.length ≤ c0) (h : api_Op_30.f l0 = some r) :
    Calls Try.prog 30 #[.slice A0 l0.length c0, .func (.func 31) #[] #[]] w fun e w' => e = .returned (.bool r) ∧ Below w.heap.size w w' := by
  unfold api_Op_30.f at h
  by_cases hl : l0.length < 4611686018427387904
  case neg => rw [if_neg hl] at h; exact absurd h (by simp)
  rw [if_pos hl] at h
  replace h := Option.bind_eq_some_iff.mp h
  obtain ⟨q, hq, h⟩ := h
  obtain rfl := Option.some.inj h
  clear h
  have HR0 := Aside0.mk hr0
  have HQ := Lib.hid hq
  clear hr0 hq
  go_enter Try.func30, Try.ntmps30
  go_wp2_with (go_at_call 39; (refine (api_Op_30.index A0 c0 l0 q _ HR0.out hl HQ.out).mono ?_); rintro e w3 ⟨rfl, hb⟩; have HB3 := Aside0.mk hb; clear hb)
  go_ret
  exact ⟨rfl, HB3.out⟩

/-! ### batch_May: function 16 -/
def batch_May.f (l0 : List (S34)) : Option (Bool) := if (l0.length : Int) > 0 then (if (l0.length : Int) ≤ 16 then ((api_Op_30.f l0).bind fun t104 => (some (!t104))) else (some false)) else (some false)
set_option maxHeartbeats 8000000 in
set_option maxRecDepth 100000 in
theorem batch_May.calls (A0 : Option Addr) (c0 : Nat) (l0 : List (S34)) (r : Bool) (w : World) (hr0 : Kd.C k34 w A0 l0.length l0) (hc0 : l0.length ≤ c0) (h : batch_May.f l0 = some r) :
    Calls Try.prog 16 #[.slice A0 l0.length c0] w fun e w' => e = .returned (.bool r) ∧ Below w.heap.size w w' := by
  have HR0 := Aside0.mk hr0
  have HC0 := Aside0.mk hc0
  clear hr0 hc0
  have HB := Aside0.mk (Below.refl w.heap.size w)
  have H : (if (l0.length : Int) > 0 then (if (l0.length : Int) ≤ 16 then ((api_Op_30.f l0).bind fun t104 => (some (!t104))) else (some false)) else (some false)) = some r := h
  clear h
  by_cases c2 : (l0.length : Int) > 0
  · rw [if_pos c2] at H
    have c2b0 : decide (0 < (l0.length : Int)) = true := decide_eq_true c2
    have c2b1 : decide (0 < l0.length) = true := decide_eq_true (by omega)
    clear c2
    by_cases c3 : (l0.length : Int) ≤ 16
    · rw [if_pos c3] at H
      have c3b0 : decide ((l0.length : Int) ≤ 16) = true := decide_eq_true c3
      have c3b1 : decide (l0.length ≤ 16) = true := decide_eq_true (by omega)
      clear c3
      replace H := Option.bind_eq_some_iff.mp H
      obtain ⟨t104, A40, H⟩ := H
      replace H : (some (!t104)) = some r := H
      have A4 := Aside0.mk A40
      clear A40
      obtain rfl := Option.some.inj H
      go_enter Try.func16, Try.ntmps16
      go_wp2_with (first | (go_at_call 30; (with_reducible refine (api_Op_30.calls _ _ l0  t104 _ ?side1 ?side2 A4.out).mono ?_); (case side1 => repeat (first | exact HR0.out | (with_reducible refine Kd.C_alloc ?_ _) | (with_reducible refine Kd.C_drewN ?_ _) | (with_reducible refine Kd.C_drew ?_))); (case side2 => exact HC0.out); rintro e w5 ⟨rfl, hb⟩; have n0_ := Aside0.mk (below_step (by repeat (first | (with_reducible first | exact HB.out | apply below_alloc | apply pw_below_drewN | apply below_drew1) | exact HB.out)) hb); clear HB; have HB := n0_; clear n0_; (try clear hb); (try clear hb2); (try clear hk); (try clear hi); (try clear A4)))
      go_ret
      exact ⟨by first | rfl | (simp [errW_none, errW_some] <;> rfl) | (simp (disch := omega) only [← i64_w, IntWalk.i64_in]; rfl) | (simp [*, errW_none, errW_some] <;> rfl), by repeat (first | (with_reducible first | exact HB.out | apply below_alloc | apply pw_below_drewN | apply below_drew1) | exact HB.out)⟩
    · rw [if_neg c3] at H
      have c3b0 : decide ((l0.length : Int) ≤ 16) = false := decide_eq_false c3
      have c3b1 : decide (l0.length ≤ 16) = false := decide_eq_false (by omega)
      clear c3
      obtain rfl := Option.some.inj H
      go_enter Try.func16, Try.ntmps16
      go_wp2
      go_ret
      exact ⟨by first | rfl | (simp [errW_none, errW_some] <;> rfl) | (simp (disch := omega) only [← i64_w, IntWalk.i64_in]; rfl) | (simp [*, errW_none, errW_some] <;> rfl), by repeat (first | (with_reducible first | exact HB.out | apply below_alloc | apply pw_below_drewN | apply below_drew1) | exact HB.out)⟩
  · rw [if_neg c2] at H
    have c2b0 : decide (0 < (l0.length : Int)) = false := decide_eq_false c2
    have c2b1 : decide (0 < l0.length) = false := decide_eq_false (by omega)
    clear c2
    obtain rfl := Option.some.inj H
    go_enter Try.func16, Try.ntmps16
    go_wp2
    go_ret
    exact ⟨by first | rfl | (simp [errW_none, errW_some] <;> rfl) | (simp (disch := omega) only [← i64_w, IntWalk.i64_in]; rfl) | (simp [*, errW_none, errW_some] <;> rfl), by repeat (first | (with_reducible first | exact HB.out | apply below_alloc | apply pw_below_drewN | apply below_drew1) | exact HB.out)⟩

/-! ### batch_numbered: function 22 -/
def batch_numbered.f (a0 : Int) (a1 : Int) : Option (Bool) := if a0 > 0 then (if a0 ≤ 1099511627776 then (some (decide ((IntKind.u64.wrap ((IntKind.u64.wrap (a0 + (IntKind.u64.wrap (a1)))) - 1)) ≤ 1099511627776))) else (some false)) else (some false)
set_option maxHeartbeats 8000000 in
set_option maxRecDepth 100000 in
theorem batch_numbered.calls (a0 : Int) (a1 : Int) (r : Bool) (w : World) (h : batch_numbered.f a0 a1 = some r) :
    Calls Try.prog 22 #[.int .u64 a0, .int .i64 a1] w fun e w' => e = .returned (.bool r) ∧ Drawn0 w w' := by
  have H : (if a0 > 0 then (if a0 ≤ 1099511627776 then (some (decide ((IntKind.u64.wrap ((IntKind.u64.wrap (a0 + (IntKind.u64.wrap (a1)))) - 1)) ≤ 1099511627776))) else (some false)) else (some false)) = some r := h
  clear h
  by_cases c3 : a0 > 0
  · rw [if_pos c3] at H
    have c3b0 : decide (0 < a0) = true := decide_eq_true c3
    clear c3
    by_cases c4 : a0 ≤ 1099511627776
    · rw [if_pos c4] at H
      have c4b0 : decide (a0 ≤ 1099511627776) = true := decide_eq_true c4
      clear c4
      obtain rfl := Option.some.inj H
      go_enter Try.func22, Try.ntmps22
      go_wp2
      go_ret
      exact ⟨by first | rfl | (simp; done) | (simp [*]; done), by repeat (first | exact Drawn0.refl _ | apply Drawn0.step)⟩
    · rw [if_neg c4] at H
      have c4b0 : decide (a0 ≤ 1099511627776) = false := decide_eq_false c4
      clear c4
      obtain rfl := Option.some.inj H
      go_enter Try.func22, Try.ntmps22
      go_wp2
      go_ret
      exact ⟨by first | rfl | (simp; done) | (simp [*]; done), by repeat (first | exact Drawn0.refl _ | apply Drawn0.step)⟩
  · rw [if_neg c3] at H
    have c3b0 : decide (0 < a0) = false := decide_eq_false c3
    clear c3
    obtain rfl := Option.some.inj H
    go_enter Try.func22, Try.ntmps22
    go_wp2
    go_ret
    exact ⟨by first | rfl | (simp; done) | (simp [*]; done), by repeat (first | exact Drawn0.refl _ | apply Drawn0.step)⟩

-- NOT PRINTED: function 40 (abi_NoEscape)

-- NOT PRINTED: function 38 (strings_Builder_copyCheck)

-- NOT PRINTED: function 23 (strings_Builder_WriteString)

/-! ### num_Short: function 24 -/
def num_Short.l0 : Nat → Int → List Int → Option (ByteArray)
  | 0, _, _ => none
  | k + 1, x0, x3 => if x0 ≥ 128 then (if x3.length < 140737488355328 then (num_Short.l0 k (x0 / 128) (x3 ++ [Go.bits .or .u8 ((x0) % 256) 128])) else (none)) else (if x3.length < 140737488355328 then (some (strOfNums (x3 ++ [(x0) % 256]))) else (none))
def num_Short.f (k : Nat) (a0 : Int) : Option (ByteArray) := num_Short.l0 k a0 ([] : List Int)
theorem num_Short.mono_l : ∀ k, (∀ y0 y1, LeO (num_Short.l0 k y0 y1) (num_Short.l0 (k + 1) y0 y1))
  | 0 => fun _ _ r h => by simp [num_Short.l0] at h
  | k + 1 => by
    have ih0 := num_Short.mono_l k
    · intro y0 y1
      unfold num_Short.l0
      repeat' first
      | (with_reducible exact ih0 _ _)
      | (with_reducible exact LeO.refl _)
      | (with_reducible exact LeO.none _)
      | (with_reducible refine LeO.ite ?_ ?_)
      | (with_reducible refine LeO.bind ?_ (fun _ => ?_))
      | exact ih0 _ _
      | exact LeO.none _
      | refine LeO.ite ?_ ?_
      | refine LeO.bind ?_ (fun _ => ?_)
theorem num_Short.mono : ∀ a0 k, LeO (num_Short.f k a0) (num_Short.f (k + 1) a0) := by
  intro a0 k
  have ih0 := num_Short.mono_l k
  unfold num_Short.f
  repeat' first
      | (with_reducible exact ih0 _ _)
      | (with_reducible exact LeO.refl _)
      | (with_reducible exact LeO.none _)
      | (with_reducible refine LeO.ite ?_ ?_)
      | (with_reducible refine LeO.bind ?_ (fun _ => ?_))
      | exact ih0 _ _
      | exact LeO.none _
      | refine LeO.ite ?_ ?_
      | refine LeO.bind ?_ (fun _ => ?_)
set_option maxHeartbeats 8000000 in
set_option maxRecDepth 100000 in
theorem num_Short.calls (k : Nat) (a0 : Int) (r : ByteArray) (w : World) (h : num_Short.f k a0 = some r) :
    Calls Try.prog 24 #[.int .u64 a0] w fun e w' => e = .returned (.string r) ∧ Below w.heap.size w w' := by
  have HB := Aside0.mk (Below.refl w.heap.size w)
  have H : (num_Short.l0 k a0 ([] : List Int)) = some r := h
  clear h
  have H' := Aside0.mk H
  clear H
  go_enter Try.func24, Try.ntmps24
  go_wp2
  go_loopg [0, 3] k (fun kq v0 v3 w' => ∃ (x0_1 : Int) (x3_1 : List Int), v0 = .int .u64 x0_1 ∧ Aside0 (num_Short.l0 kq x0_1 x3_1 = some r) ∧ Aside0 (kq ≤ k) ∧ Aside0 (Kd.R (Kd.int .u8) 5 w' w.heap.size (fun _ => True) v3 x3_1) ∧ Aside0 (Below w.heap.size w w'))
  case atStart => exact ⟨(a0), (([] : List Int)), (by first | rfl | (simp; done) | (simp [*]; done)), H', ⟨Nat.le_refl _⟩, ⟨by first | exact Kd.R_nil _ _ _ _ _ | exact Kd.N_nil _ _ _ _ _ | exact Kd.V_nil _ _ _ _ _ | exact Kd.Q_nil _ _ _ _ _ | exact Kd.S_nil _ _ _ _ _⟩, ⟨by repeat (first | (with_reducible first | exact HB.out | apply below_alloc | apply pw_below_drewN | apply below_drew1) | exact HB.out)⟩⟩
  case round =>
    clear H'
    obtain ⟨x0_1, x3_1, rfl, HA, HK1, HO_3, HB⟩ := hrel
    cases gk with
    | zero => exact absurd HA.out (by simp [num_Short.l0])
    | succ k1 =>
      have H := HA.out
      clear HA
      simp only [num_Short.l0] at H
      by_cases c2 : x0_1 ≥ 128
      · rw [if_pos c2] at H
        have c2b0 : decide (128 ≤ x0_1) = true := decide_eq_true c2
        clear c2
        by_cases c3 : x3_1.length < 140737488355328
        · rw [if_pos c3] at H
          have LMc3 := Aside0.mk c3
          clear c3
          obtain ⟨y105, hy105⟩ : ∃ y_ : List Int, y_ = (x3_1 ++ [Go.bits .or .u8 ((x0_1) % 256) 128]) := ⟨_, rfl⟩
          replace H : (num_Short.l0 k1 (x0_1 / 128) y105) = some r := by first | (rw [hy105]; with_reducible exact H) | (have H2_ := (Option.bind_some _ _).symm.trans H; rw [hy105]; with_reducible exact H2_) | (have H2_ := (Option.bind_some _ _).symm.trans H; with_reducible exact H2_) | with_reducible exact H | (rw [hy105]; exact H) | exact H
          have Ny105 := Aside0.mk hy105
          clear hy105
          have H' := Aside0.mk H
          clear H
          go_wp2_with (first | ((with_reducible refine gate_builtin (b := .append) (xs := #[.tmp 6, .tmp 10]) rfl ?_); at_builtin; refine Kd.R_append (Kd.int .u8) (w0 := w) w.heap.size rfl (.tmp 6) (.tmp 10) 47 5 (.int .u8 0) 1 rfl Try.underlying47 info5 rfl (by decide) (by omega) u3 x3_1 (Go.bits .or .u8 ((x0_1) % 256) 128) [.int .u8 (Go.bits .or .u8 ((x0_1) % 256) 128)] (fun _ => True) (fun _ => False) rfl rfl ?aP (fun _ hk => hk.elim) ?aF ?aO ?aB ?aS ?aL ?_; (case aP => exact rfl); (case aB => exact (by repeat (first | (with_reducible first | exact HB.out | apply below_alloc | apply pw_below_drewN | apply below_drew1) | exact HB.out))); (case aF => exact (fun _ _ => trivial)); (case aO => exact (by (with_reducible repeat (first | apply Kd.R_alloc | apply Kd.R_drewN | apply Kd.R_drew)); exact HO_3.out)); (case aS => exact (below_size (by repeat (first | (with_reducible first | exact HB.out | apply below_alloc | apply pw_below_drewN | apply below_drew1) | exact HB.out)))); (case aL => have := LMc3.out; omega); intro v106 w4 ho hb hg hat; rw [← Ny105.out] at ho; have n0_ := Aside0.mk (hb); have n1_ := Aside0.mk (ho); clear HB; clear HO_3; have HB := n0_; have HO107 := n1_; clear n0_ n1_; clear ho hb hg hat))
          go_roundg k1
          case measure => have := HK1.out; omega
          case rel => exact ⟨(x0_1 / 128), (y105), (by first | rfl | (simp; done) | (simp [*]; done)), (by first | (with_reducible exact H') | exact H' | (subst_vars; exact H')), ⟨by have := HK1.out; omega⟩, ⟨by (with_reducible repeat (first | apply Kd.R_alloc | apply Kd.R_drewN | apply Kd.R_drew)); exact HO107.out⟩, ⟨by repeat (first | (with_reducible first | exact HB.out | apply below_alloc | apply pw_below_drewN | apply below_drew1) | exact HB.out)⟩⟩
        · rw [if_neg c3] at H
          exact absurd H (by simp)
      · rw [if_neg c2] at H
        have c2b0 : decide (128 ≤ x0_1) = false := decide_eq_false c2
        clear c2
        by_cases c5 : x3_1.length < 140737488355328
        · rw [if_pos c5] at H
          have LMc5 := Aside0.mk c5
          clear c5
          obtain ⟨y108, hy108⟩ : ∃ y_ : List Int, y_ = (x3_1 ++ [(x0_1) % 256]) := ⟨_, rfl⟩
          replace H : (some (strOfNums y108)) = some r := by first | (rw [hy108]; with_reducible exact H) | (have H2_ := (Option.bind_some _ _).symm.trans H; rw [hy108]; with_reducible exact H2_) | (have H2_ := (Option.bind_some _ _).symm.trans H; with_reducible exact H2_) | with_reducible exact H | (rw [hy108]; exact H) | exact H
          have Ny108 := Aside0.mk hy108
          clear hy108
          obtain rfl := Option.some.inj H
          go_wp2_with (first | ((with_reducible refine gate_builtin (b := .append) (xs := #[.tmp 14, .tmp 17]) rfl ?_); at_builtin; refine Kd.R_append (Kd.int .u8) (w0 := w) w.heap.size rfl (.tmp 14) (.tmp 17) 47 5 (.int .u8 0) 1 rfl Try.underlying47 info5 rfl (by decide) (by omega) u3 x3_1 ((x0_1) % 256) [.int .u8 ((x0_1) % 256)] (fun _ => True) (fun _ => False) rfl rfl ?aP (fun _ hk => hk.elim) ?aF ?aO ?aB ?aS ?aL ?_; (case aP => exact rfl); (case aB => exact (by repeat (first | (with_reducible first | exact HB.out | apply below_alloc | apply pw_below_drewN | apply below_drew1) | exact HB.out))); (case aF => exact (fun _ _ => trivial)); (case aO => exact (by (with_reducible repeat (first | apply Kd.R_alloc | apply Kd.R_drewN | apply Kd.R_drew)); exact HO_3.out)); (case aS => exact (below_size (by repeat (first | (with_reducible first | exact HB.out | apply below_alloc | apply pw_below_drewN | apply below_drew1) | exact HB.out)))); (case aL => have := LMc5.out; omega); intro v109 w6 ho hb hg hat; rw [← Ny108.out] at ho; have n0_ := Aside0.mk (hb); have n1_ := Aside0.mk (ho); clear HB; clear HO_3; have HB := n0_; have HO110 := n1_; clear n0_ n1_; clear ho hb hg hat; have hcv7 := own_string (P := Try.prog) Try.underlying47 Try.underlying5 Try.underlying9 (Kd.own_of_R (HO110.out))))
          go_ret
          exact ⟨by first | rfl | (simp [errW_none, errW_some] <;> rfl) | (simp (disch := omega) only [← i64_w, IntWalk.i64_in]; rfl) | (simp [*, errW_none, errW_some] <;> rfl), by repeat (first | (with_reducible first | exact HB.out | apply below_alloc | apply pw_below_drewN | apply below_drew1) | exact HB.out)⟩
        · rw [if_neg c5] at H
          exact absurd H (by simp)

-- NOT PRINTED: function 25 (strings_Builder_WriteByte)

-- NOT PRINTED: function 26 (batch_text)

-- NOT PRINTED: function 27 (strings_Builder_String)

/-! ### batch_Encode: function 12 -/
def batch_Encode.txt (k : Nat) (acc : List UInt8) (s : ByteArray) : Option (List UInt8) :=
  (num_Short.f k (s.size : Int)).bind fun n => if acc.length + n.size + s.size ≤ 140737488351232 then some (acc ++ Th.bl n ++ Th.bl s) else none
def batch_Encode.go (k : Nat) : List (S34) → List UInt8 → Option (List UInt8)
  | [], acc => some acc
  | x :: l, acc => if acc.length + 1 ≤ 140737488351232 then (if x.f0 = true then (batch_Encode.txt k (acc ++ [1]) x.f1).bind fun a1 => batch_Encode.go k l a1 else (batch_Encode.txt k (acc ++ [0]) x.f1).bind fun a1 => (batch_Encode.txt k a1 x.f2).bind fun a2 => batch_Encode.go k l a2) else none
def batch_Encode.f (k : Nat) (a0 : Int) (l1 : List (S34)) : Option (ByteArray × Int) :=
  (batch_May.f l1).bind fun m => if m = true then (batch_numbered.f a0 (l1.length : Int)).bind fun q => (if q = true then (num_Short.f k a0).bind fun s1 => (num_Short.f k (l1.length : Int)).bind fun s2 => (if s1.size + s2.size ≤ 140737488351232 then (batch_Encode.go k l1 (Th.bl s1 ++ Th.bl s2)).bind fun r => some (Th.lb r, 0) else none) else some ((⟨#[]⟩ : ByteArray), 3)) else some ((⟨#[]⟩ : ByteArray), 2)
theorem batch_Encode.txt_mono (k : Nat) (acc : List UInt8) (s : ByteArray) : LeO (batch_Encode.txt k acc s) (batch_Encode.txt (k + 1) acc s) :=
  LeO.bind (num_Short.mono _ _) (fun _ => LeO.refl _)
theorem batch_Encode.go_mono (k : Nat) : ∀ l acc, LeO (batch_Encode.go k l acc) (batch_Encode.go (k + 1) l acc)
  | [], acc => LeO.refl _
  | x :: l, acc => LeO.ite (LeO.ite (LeO.bind (batch_Encode.txt_mono _ _ _) (fun _ => batch_Encode.go_mono k l _)) (LeO.bind (batch_Encode.txt_mono _ _ _) (fun _ => LeO.bind (batch_Encode.txt_mono _ _ _) (fun _ => batch_Encode.go_mono k l _)))) (LeO.none _)
theorem batch_Encode.mono : ∀ a0 l1 k, LeO (batch_Encode.f k a0 l1) (batch_Encode.f (k + 1) a0 l1) := by
  intro a0 l1 k
  unfold batch_Encode.f
  exact LeO.bind (LeO.refl _) (fun _ => LeO.ite (LeO.bind (LeO.refl _) (fun _ => LeO.ite (LeO.bind (num_Short.mono _ _) (fun _ => LeO.bind (num_Short.mono _ _) (fun _ => LeO.ite (LeO.bind (batch_Encode.go_mono _ _ _) (fun _ => LeO.refl _)) (LeO.refl _)))) (LeO.refl _))) (LeO.refl _))
theorem batch_Encode.len_bl (s : ByteArray) : s.data.toList.length = s.size := by rw [Array.length_toList]; rfl
set_option maxHeartbeats 1600000 in
set_option maxRecDepth 100000 in
theorem batch_Encode.text (k : Nat) (B b : Nat) (acc r : List UInt8) (s : ByteArray) (w : World) (hw : Buf.Has B b acc w) (h : batch_Encode.txt k acc s = some r) :
    Calls Try.prog 26 #[.pointer (some ⟨b, 0, none⟩), .string s] w fun e w' => e = .returned (.tuple #[]) ∧ Buf.Has B b r w' ∧ Below B w w' ∧ Buf.Kept b w w' := by
  unfold batch_Encode.txt at h
  replace h := Option.bind_eq_some_iff.mp h
  obtain ⟨n, hn, h⟩ := h
  by_cases hl : acc.length + n.size + s.size ≤ 140737488351232
  case neg => rw [if_neg hl] at h; exact absurd h (by simp)
  rw [if_pos hl] at h
  obtain rfl := Option.some.inj h
  clear h
  have HN := Lib.hid hn
  have HW := Aside0.mk hw
  have HL := Lib.hid hl
  have hs : s.size ≤ 140737488351232 := by omega
  have hBw : B ≤ w.heap.size := Buf.has_size hw
  clear hn hw hl
  go_enter Try.func26, Try.ntmps26
  go_wp2_with (first
    | (go_at_call 24; (refine (num_Short.calls k _ n _ HN.out).mono ?_); rintro e w1 ⟨rfl, hb⟩; have HS1 := Aside0.mk (Buf.has_below HW.out hb); have HB1 := Aside0.mk (hb.mono hBw); have HK1 := Aside0.mk (Buf.kept_below (b := b) hb); clear HW hb)
    | (go_at_call 23; (refine (Buf.wrote B b acc n _ HS1.out (by have := HL.out; omega)).mono ?_); rintro e w2 ⟨rfl, hs2, hb2, hk2⟩; have HS2 := Aside0.mk hs2; have HB2 := Aside0.mk (HB1.out.trans hb2); have HK2 := Aside0.mk (HK1.out.trans hk2); clear HS1 HB1 HK1 hs2 hb2 hk2)
    | (go_at_call 23; (refine (Buf.wrote B b _ s _ HS2.out (by have := HL.out; rw [List.length_append, batch_Encode.len_bl]; omega)).mono ?_); rintro e w3 ⟨rfl, hs3, hb3, hk3⟩; have HS3 := Aside0.mk hs3; have HB3 := Aside0.mk (HB2.out.trans hb3); have HK3 := Aside0.mk (HK2.out.trans hk3); clear HS2 HB2 HK2 hs3 hb3 hk3))
  go_end0
  exact ⟨rfl, HS3.out, HB3.out, HK3.out⟩
theorem batch_Encode.may_len {l : List (S34)} (h : batch_May.f l = some true) : l.length ≤ 16 := by
  unfold batch_May.f at h
  split at h
  · split at h
    · omega
    · simp at h
  · simp at h
set_option maxHeartbeats 3200000 in
set_option maxRecDepth 100000 in
theorem batch_Encode.good (k : Nat) (a0 : Int) (A1 : Option Addr) (c1 : Nat) (l1 : List (S34)) (s1 s2 : ByteArray) (r : List UInt8) (w : World) (hr1 : Kd.C k34 w A1 l1.length l1) (hc1 : l1.length ≤ c1) (hm : batch_May.f l1 = some true) (hq : batch_numbered.f a0 (l1.length : Int) = some true) (h1 : num_Short.f k a0 = some s1) (h2 : num_Short.f k (l1.length : Int) = some s2) (h3 : s1.size + s2.size ≤ 140737488351232) (h4 : batch_Encode.go k l1 (Th.bl s1 ++ Th.bl s2) = some r) :
    Calls Try.prog 12 #[.int .u64 a0, .slice A1 l1.length c1] w fun e w' => e = .returned (.tuple #[.string (Th.lb r), .int .i64 0]) ∧ Below w.heap.size w w' := by
  have hu_ := Try.underlying34
  have hlen := batch_Encode.may_len hm
  have HR1 := Aside0.mk hr1
  have HC1 := Lib.hid hc1
  have HM := Lib.hid hm
  have HQ := Lib.hid hq
  have H1 := Lib.hid h1
  have H2 := Lib.hid h2
  have H3 := Lib.hid h3
  have HG := Lib.hid h4
  clear hr1 hm hq h1 h2 h3 h4 hc1
  go_enter Try.func12, Try.ntmps12
  go_wp2_with (fail)
  refine (batch_May.calls A1 c1 l1 true _ HR1.out HC1.out HM.out).mono ?_
  rintro e w1 ⟨rfl, hb⟩
  have HB1 := Aside0.mk hb
  clear hb
  go_wp2_with (fail)
  refine (batch_numbered.calls _ _ true _ HQ.out).mono ?_
  rintro e w2 ⟨rfl, hb⟩
  have HB2 := Aside0.mk (below_step HB1.out hb.below)
  clear hb HB1
  go_wp2_with (fail)
  obtain ⟨b, hb⟩ : ∃ b, b = w2.heap.size := ⟨_, rfl⟩
  have HS : Aside0 (Buf.Has w.heap.size b [] (w2.alloc (.cells #[.pointer none, .slice none 0 0] 49))) := ⟨by rw [hb]; exact Buf.B_ge (Buf.fresh w2) HB2.out.size⟩
  have HB : Aside0 (Below w.heap.size w (w2.alloc (.cells #[.pointer none, .slice none 0 0] 49))) := ⟨below_alloc HB2.out _⟩
  generalize (w2.alloc (.cells #[.pointer none, .slice none 0 0] 49)) = w3 at HS HB ⊢
  rw [← hb]
  clear hb HB2
  refine (num_Short.calls k a0 s1 _ H1.out).mono ?_
  rintro e w4 ⟨rfl, hb⟩
  have HS1 := Aside0.mk (Buf.has_below HS.out hb)
  have HB1 := Aside0.mk (below_step HB.out hb)
  clear HS HB hb
  go_wp2_with (fail)
  refine (Buf.wrote w.heap.size b [] s1 _ HS1.out (by have := H3.out; simp; omega)).mono ?_
  rintro e w5 ⟨rfl, hs2, hb2, _⟩
  have HS2 := Aside0.mk hs2
  have HB2 := Aside0.mk (HB1.out.trans hb2)
  clear HS1 HB1 hs2 hb2
  go_wp2_with (fail)
  refine (num_Short.calls k (l1.length : Int) s2 _ H2.out).mono ?_
  rintro e w6 ⟨rfl, hb⟩
  have HS3 := Aside0.mk (Buf.has_below HS2.out hb)
  have HB3 := Aside0.mk (below_step HB2.out hb)
  clear HS2 HB2 hb
  go_wp2_with (fail)
  refine (Buf.wrote w.heap.size b _ s2 _ HS3.out (by have := H3.out; rw [List.length_append, batch_Encode.len_bl]; simp; omega)).mono ?_
  rintro e w7 ⟨rfl, hs4, hb4, _⟩
  have HS4 := Aside0.mk hs4
  have HB4 := Aside0.mk (HB3.out.trans hb4)
  clear HS3 HB3 hs4 hb4
  go_wp2
  have HS : Aside0 (Buf.Has w.heap.size b (Th.bl s1 ++ Th.bl s2) w7) := ⟨by have := HS4.out; simpa [Th.bl] using this⟩
  have HB := HB4
  clear HS4 HB4
  go_loopg [29] l1.length (fun kq v29 w' => ∃ (i : Nat) (acc : List UInt8), v29 = .int .i64 (i : Int) ∧ Aside0 (kq + i = l1.length) ∧ Aside0 (batch_Encode.go k (l1.drop i) acc = some r) ∧ Aside0 (Buf.Has w.heap.size b acc w') ∧ Aside0 (Below w.heap.size w w'))
  case atStart => exact ⟨0, _, rfl, ⟨by omega⟩, ⟨HG.out⟩, HS, HB⟩
  case round =>
    clear HS HB HG
    obtain ⟨i, acc, rfl, HI, HG, HS, HB⟩ := hrel
    by_cases hlt : i < l1.length
    · have hkg : ∃ k1, gk = k1 + 1 := ⟨gk - 1, by have := HI.out; omega⟩
      obtain ⟨k1, rfl⟩ := hkg
      have hdr : l1.drop i = rd_T34 l1 (i : Int) :: l1.drop (i + 1) := by
        rw [List.drop_eq_getElem_cons hlt]; simp [rd_T34, hlt]
      have hg := HG.out
      rw [hdr] at hg
      clear hdr HG
      unfold batch_Encode.go at hg
      by_cases ha : acc.length + 1 ≤ 140737488351232
      case neg => rw [if_neg ha] at hg; exact absurd hg (by simp)
      rw [if_pos ha] at hg
      have HA := Lib.hid ha
      clear ha
      obtain ⟨ad, ead, hx0, hx1, hx2⟩ := at_T34 HR1.out (i : Int) (by omega) (by omega)
      subst ead
      have htn : ((i : Int)).toNat = i := by omega
      rw [htn] at hx0 hx1 hx2
      clear htn
      replace hx0 := (HB.out.cell (World.block_lt_of_cell? w _ hx0)).trans hx0
      replace hx1 := (HB.out.cell (World.block_lt_of_cell? w _ hx1)).trans hx1
      replace hx2 := (HB.out.cell (World.block_lt_of_cell? w _ hx2)).trans hx2
      obtain ⟨y0, ey0⟩ : ∃ y, (rd_T34 l1 (i : Int)).f0 = y := ⟨_, rfl⟩
      obtain ⟨y1, ey1⟩ : ∃ y, (rd_T34 l1 (i : Int)).f1 = y := ⟨_, rfl⟩
      obtain ⟨y2, ey2⟩ : ∃ y, (rd_T34 l1 (i : Int)).f2 = y := ⟨_, rfl⟩
      rw [ey0, ey1] at hg
      rw [ey2] at hg hx2
      rw [ey1] at hx1
      rw [ey0] at hx0
      have HG := Lib.hid hg
      clear hg ey0 ey1 ey2
      go_upto_region 11 with (fail)
      have BK : Aside0 ((wr.alloc (.cells #[.bool y0, .string y1, .string y2] 34)).heap[wr.heap.size]? = some (.cells #[.bool y0, .string y1, .string y2] 34 (0, 0))) := ⟨blk_new _ _⟩
      have HS0 := Aside0.mk (Buf.has_below HS.out (below_alloc (Below.refl wr.heap.size wr) (.cells #[.bool y0, .string y1, .string y2] 34)))
      have HB0 := Aside0.mk (below_alloc HB.out (.cells #[.bool y0, .string y1, .string y2] 34))
      have HNE : Hid (some wr.heap.size ≠ some b) := Lib.hid (by have := Buf.has_lt HS.out; intro e; injection e; omega)
      have HKN : Hid (∀ c fz, Obj.cells #[.bool y0, .string y1, .string y2] 34 (0, 0) ≠ .cells c 5 fz) := Lib.hid (by intro c fz e; injection e with _ e2 _; exact absurd e2 (by decide))
      clear HS HB hx0 hx1 hx2
      generalize (wr.alloc (.cells #[.bool y0, .string y1, .string y2] 34)) = x0 at BK HS0 HB0 ⊢
      obtain ⟨g, hg⟩ : ∃ g, wr.heap.size = g := ⟨_, rfl⟩
      rw [hg] at BK HNE ⊢
      clear hg
      have k0_ : x0.cell? ⟨g, 0, none⟩ = some (.bool y0) := (blk_cell BK.out 0).trans rfl
      cases y0 with
      | true =>
        have hg : ((batch_Encode.txt k (acc ++ [1]) y1).bind fun a1 => batch_Encode.go k (l1.drop (i + 1)) a1) = some r := by have := HG.out; rw [if_pos rfl] at this; exact this
        clear HG
        replace hg := Option.bind_eq_some_iff.mp hg
        obtain ⟨a1, ht1, hg⟩ := hg
        have HG := Lib.hid hg
        have HT1 := Lib.hid ht1
        clear hg ht1
        go_wp2_with (fail)
        clear k0_
        refine (Buf.wroteInt w.heap.size b acc _ 1 rfl _ HS0.out (by have := HA.out; omega)).mono ?_
        rintro e x1 ⟨rfl, hs, hb, hk⟩
        have HS1 := Aside0.mk hs
        have HB1 := Aside0.mk (HB0.out.trans hb)
        have BK1 := Aside0.mk (hk g _ BK.out HNE.out HKN.out)
        clear HS0 HB0 BK hs hb hk
        have k1_ : x1.cell? ⟨g, 1, none⟩ = some (.string y1) := (blk_cell BK1.out 1).trans rfl
        go_wp2_with (fail)
        clear k1_
        refine (batch_Encode.text k w.heap.size b _ a1 y1 _ HS1.out HT1.out).mono ?_
        rintro e x2 ⟨rfl, hs, hb, hk⟩
        have HS2 := Aside0.mk hs
        have HB2 := Aside0.mk (HB1.out.trans hb)
        clear HS1 HB1 BK1 hs hb hk
        go_wp2
        go_roundg k1
        case measure => omega
        case rel => exact ⟨i + 1, a1, by have hw : wrap64 ((i : Int) + 1) = (i : Int) + 1 := by { unfold wrap64; omega }; simp [hw], ⟨by have := HI.out; omega⟩, ⟨HG.out⟩, HS2, HB2⟩
      | false =>
        have hg : ((batch_Encode.txt k (acc ++ [0]) y1).bind fun a1 => (batch_Encode.txt k a1 y2).bind fun a2 => batch_Encode.go k (l1.drop (i + 1)) a2) = some r := by have := HG.out; rw [if_neg (by decide)] at this; exact this
        clear HG
        replace hg := Option.bind_eq_some_iff.mp hg
        obtain ⟨a1, ht1, hg⟩ := hg
        replace hg := Option.bind_eq_some_iff.mp hg
        obtain ⟨a2, ht2, hg⟩ := hg
        have HG := Lib.hid hg
        have HT1 := Lib.hid ht1
        have HT2 := Lib.hid ht2
        clear hg ht1 ht2
        go_wp2_with (fail)
        clear k0_
        refine (Buf.wroteInt w.heap.size b acc _ 0 rfl _ HS0.out (by have := HA.out; omega)).mono ?_
        rintro e x1 ⟨rfl, hs, hb, hk⟩
        have HS1 := Aside0.mk hs
        have HB1 := Aside0.mk (HB0.out.trans hb)
        have BK1 := Aside0.mk (hk g _ BK.out HNE.out HKN.out)
        clear HS0 HB0 BK hs hb hk
        have k1_ : x1.cell? ⟨g, 1, none⟩ = some (.string y1) := (blk_cell BK1.out 1).trans rfl
        go_wp2_with (fail)
        clear k1_
        refine (batch_Encode.text k w.heap.size b _ a1 y1 _ HS1.out HT1.out).mono ?_
        rintro e x2 ⟨rfl, hs, hb, hk⟩
        have HS2 := Aside0.mk hs
        have HB2 := Aside0.mk (HB1.out.trans hb)
        have BK2 := Aside0.mk (hk g _ BK1.out HNE.out HKN.out)
        clear HS1 HB1 BK1 hs hb hk
        have k2_ : x2.cell? ⟨g, 2, none⟩ = some (.string y2) := (blk_cell BK2.out 2).trans rfl
        go_wp2_with (fail)
        clear k2_
        refine (batch_Encode.text k w.heap.size b _ a2 y2 _ HS2.out HT2.out).mono ?_
        rintro e x3 ⟨rfl, hs, hb, hk⟩
        have HS3 := Aside0.mk hs
        have HB3 := Aside0.mk (HB2.out.trans hb)
        clear HS2 HB2 BK2 hs hb hk
        go_wp2
        go_roundg k1
        case measure => omega
        case rel => exact ⟨i + 1, a2, by have hw : wrap64 ((i : Int) + 1) = (i : Int) + 1 := by { unfold wrap64; omega }; simp [hw], ⟨by have := HI.out; omega⟩, ⟨HG.out⟩, HS3, HB3⟩
    · have hdr : l1.drop i = [] := List.drop_eq_nil_of_le (by omega)
      have hg := HG.out
      rw [hdr] at hg
      clear hdr HG
      obtain rfl : acc = r := by simpa [batch_Encode.go] using hg
      clear hg
      go_wp2_with (fail)
      refine (Buf.read w.heap.size b _ _ HS.out).mono ?_
      rintro e x4 ⟨rfl, hs, hb, _⟩
      have HB4 := Aside0.mk (HB.out.trans hb)
      clear HS HB hs hb
      go_wp2
      go_ret2
      exact ⟨by simp [Th.lb], HB4.out⟩
set_option maxHeartbeats 800000 in
theorem batch_Encode.calls (k : Nat) (a0 : Int) (A1 : Option Addr) (c1 : Nat) (l1 : List (S34)) (r1 : ByteArray) (r2 : Int) (w : World) (hr1 : Kd.C k34 w A1 l1.length l1) (hc1 : l1.length ≤ c1) (h : batch_Encode.f k a0 l1 = some (r1, r2)) :
    Calls Try.prog 12 #[.int .u64 a0, .slice A1 l1.length c1] w fun e w' => e = .returned (.tuple #[.string r1, .int .i64 r2]) ∧ Below w.heap.size w w' := by
  unfold batch_Encode.f at h
  replace h := Option.bind_eq_some_iff.mp h
  obtain ⟨m, hm, h⟩ := h
  cases m with
  | false =>
    rw [if_neg (by decide)] at h
    simp only [Option.some.injEq, Prod.mk.injEq] at h
    obtain ⟨rfl, rfl⟩ := h
    have HR1 := Aside0.mk hr1
    have HC1 := Lib.hid hc1
    have HM := Lib.hid hm
    clear hr1 hm hc1
    go_enter Try.func12, Try.ntmps12
    go_wp2_with (fail)
    refine (batch_May.calls A1 c1 l1 false _ HR1.out HC1.out HM.out).mono ?_
    rintro e w1 ⟨rfl, hb⟩
    have HB1 := Aside0.mk hb
    clear hb
    go_wp2
    go_ret2
    exact ⟨rfl, HB1.out⟩
  | true =>
    rw [if_pos rfl] at h
    replace h := Option.bind_eq_some_iff.mp h
    obtain ⟨q, hq, h⟩ := h
    cases q with
    | false =>
      rw [if_neg (by decide)] at h
      simp only [Option.some.injEq, Prod.mk.injEq] at h
      obtain ⟨rfl, rfl⟩ := h
      have HR1 := Aside0.mk hr1
      have HC1 := Lib.hid hc1
      have HM := Lib.hid hm
      have HQ := Lib.hid hq
      clear hr1 hm hc1 hq
      go_enter Try.func12, Try.ntmps12
      go_wp2_with (fail)
      refine (batch_May.calls A1 c1 l1 true _ HR1.out HC1.out HM.out).mono ?_
      rintro e w1 ⟨rfl, hb⟩
      have HB1 := Aside0.mk hb
      clear hb
      go_wp2_with (fail)
      refine (batch_numbered.calls _ _ false _ HQ.out).mono ?_
      rintro e w2 ⟨rfl, hb⟩
      have HB2 := Aside0.mk (below_step HB1.out hb.below)
      clear hb HB1
      go_wp2
      go_ret2
      exact ⟨rfl, HB2.out⟩
    | true =>
      rw [if_pos rfl] at h
      replace h := Option.bind_eq_some_iff.mp h
      obtain ⟨s1, h1, h⟩ := h
      replace h := Option.bind_eq_some_iff.mp h
      obtain ⟨s2, h2, h⟩ := h
      by_cases hl : s1.size + s2.size ≤ 140737488351232
      case neg => rw [if_neg hl] at h; exact absurd h (by simp)
      rw [if_pos hl] at h
      replace h := Option.bind_eq_some_iff.mp h
      obtain ⟨r, h3, h⟩ := h
      simp only [Option.some.injEq, Prod.mk.injEq] at h
      obtain ⟨rfl, rfl⟩ := h
      exact batch_Encode.good k a0 A1 c1 l1 s1 s2 r w hr1 hc1 hm hq h1 h2 hl h3

/-! ### batch_Entries: function 14 -/
def batch_Entries.l0 : Nat → Int → List (S32) → List (S34) → Int → Int → Option ((List (S32)))
  | 0, _, _, _, _, _ => none
  | k + 1, x0, x5, x11, x12, x13 => if x13 < x12 then (if 0 ≤ x13 then (if x13 < (x11.length : Int) then (if x5.length < 2932031007402 then (batch_Entries.l0 k x0 (x5 ++ [(⟨(rd_T34 x11 x13).f1, IntKind.u64.wrap (x0 + (IntKind.u64.wrap (x13))), (rd_T34 x11 x13).f0, (rd_T34 x11 x13).f2⟩ : S32)]) x11 x12 (wrap64 (x13 + 1))) else (none)) else (none)) else (none)) else (some x5)
def batch_Entries.f (k : Nat) (a0 : Int) (l1 : List (S34)) : Option ((List (S32))) := if 0 ≤ (l1.length : Int) then (if ((l1.length : Int) : Int).toNat ≤ 5864062014805 then (batch_Entries.l0 k a0 (([] : List (S32))) l1 (l1.length : Int) 0) else (none)) else (none)
theorem batch_Entries.mono_l : ∀ k, (∀ y0 y1 y2 y3 y4, LeO (batch_Entries.l0 k y0 y1 y2 y3 y4) (batch_Entries.l0 (k + 1) y0 y1 y2 y3 y4))
  | 0 => fun _ _ _ _ _ r h => by simp [batch_Entries.l0] at h
  | k + 1 => by
    have ih0 := batch_Entries.mono_l k
    · intro y0 y1 y2 y3 y4
      unfold batch_Entries.l0
      repeat' first
      | (with_reducible exact ih0 _ _ _ _ _)
      | (with_reducible exact LeO.refl _)
      | (with_reducible exact LeO.none _)
      | (with_reducible refine LeO.ite ?_ ?_)
      | (with_reducible refine LeO.bind ?_ (fun _ => ?_))
      | exact ih0 _ _ _ _ _
      | exact LeO.none _
      | refine LeO.ite ?_ ?_
      | refine LeO.bind ?_ (fun _ => ?_)
theorem batch_Entries.mono : ∀ a0 a1 k, LeO (batch_Entries.f k a0 a1) (batch_Entries.f (k + 1) a0 a1) := by
  intro a0 a1 k
  have ih0 := batch_Entries.mono_l k
  unfold batch_Entries.f
  repeat' first
      | (with_reducible exact ih0 _ _ _ _ _)
      | (with_reducible exact LeO.refl _)
      | (with_reducible exact LeO.none _)
      | (with_reducible refine LeO.ite ?_ ?_)
      | (with_reducible refine LeO.bind ?_ (fun _ => ?_))
      | exact ih0 _ _ _ _ _
      | exact LeO.none _
      | refine LeO.ite ?_ ?_
      | refine LeO.bind ?_ (fun _ => ?_)
set_option maxHeartbeats 8000000 in
set_option maxRecDepth 100000 in
theorem batch_Entries.calls (k : Nat) (a0 : Int) (A1 : Option Addr) (c1 : Nat) (l1 : List (S34)) (r : List (S32)) (w : World) (hr1 : Kd.C k34 w A1 l1.length l1) (hc1 : l1.length ≤ c1) (h : batch_Entries.f k a0 l1 = some r) :
    Calls Try.prog 14 #[.int .u64 a0, .slice A1 l1.length c1] w fun e w' => ∃ v0_ : Value, e = .returned (v0_) ∧ Kd.R k32 32 w' w.heap.size (fun _ => True) v0_ r ∧ Below w.heap.size w w' := by
  have hu34 := Try.underlying34
  have hu32 := Try.underlying32
  have HR1 := Aside0.mk hr1
  have HC1 := Aside0.mk hc1
  clear hr1 hc1
  have HB := Aside0.mk (Below.refl w.heap.size w)
  have H : (if 0 ≤ (l1.length : Int) then (if ((l1.length : Int) : Int).toNat ≤ 5864062014805 then (batch_Entries.l0 k a0 (([] : List (S32))) l1 (l1.length : Int) 0) else (none)) else (none)) = some r := h
  clear h
  by_cases c3 : 0 ≤ (l1.length : Int)
  · rw [if_pos c3] at H
    have c3b0 := eq_true c3
    have c3b1 : decide (0 ≤ (l1.length : Int)) = true := decide_eq_true c3
    clear c3
    by_cases c4 : ((l1.length : Int) : Int).toNat ≤ 5864062014805
    · rw [if_pos c4] at H
      have c4b0 := eq_true c4
      have c4b1 : decide (((l1.length : Int) : Int).toNat ≤ 5864062014805) = true := decide_eq_true c4
      clear c4
      obtain ⟨y111, hy111⟩ : ∃ y_ : List (S32), y_ = (([] : List (S32))) := ⟨_, rfl⟩
      replace H : (batch_Entries.l0 k a0 y111 l1 (l1.length : Int) 0) = some r := by first | (rw [hy111]; with_reducible exact H) | (have H2_ := (Option.bind_some _ _).symm.trans H; rw [hy111]; with_reducible exact H2_) | (have H2_ := (Option.bind_some _ _).symm.trans H; with_reducible exact H2_) | with_reducible exact H | (rw [hy111]; exact H) | exact H
      have Ny111 := Aside0.mk hy111
      clear hy111
      have H' := Aside0.mk H
      clear H
      go_enter Try.func14, Try.ntmps14
      go_wp2_with (first | ((with_reducible refine gate_dst (N := 10) rfl ?_); refine Mk.R_make0 k32 _ 32 rfl (N := 10) rfl 29 _ _ rfl (l1.length : Int) rfl rfl Try.underlying29 (.agg #[(.string ⟨#[]⟩), (.int .u64 0), (.bool false), (.string ⟨#[]⟩)]) 48 info32 rfl (by decide) (by omega) (ok := fun _ => True) trivial (of_decide_eq_true (by first | (with_reducible assumption) | assumption)) (Nat.le_trans (Nat.mul_le_mul_right _ (of_decide_eq_true (by first | (with_reducible assumption) | assumption) : (l1.length : Int).toNat ≤ 5864062014805)) (by omega)) (Below.refl _ _) (Nat.le_refl _) ?_; intro v112 w5 ho6 hb hg_ hnew_; clear hg_ hnew_; (first | rw [← Ny111.out] at ho6 | (simp only [Int.reduceToNat] at ho6; rw [← Ny111.out] at ho6)); have n0_ := Aside0.mk (Kd.R_lower ho6 (below_size (by repeat (first | (with_reducible first | exact HB.out | apply below_alloc | apply pw_below_drewN | apply below_drew1) | exact HB.out)))); have n1_ := Aside0.mk (below_step (by repeat (first | (with_reducible first | exact HB.out | apply below_alloc | apply pw_below_drewN | apply below_drew1) | exact HB.out)) hb); clear HB; have HO113 := n0_; have HB := n1_; clear n0_ n1_; clear hb ho6))
      go_loopg [5, 13] k (fun kq v5 v13 w' => ∃ (x5_1 : List (S32)) (x13_1 : Int), v13 = .int .i64 x13_1 ∧ Aside0 (batch_Entries.l0 kq a0 x5_1 l1 (l1.length : Int) x13_1 = some r) ∧ Aside0 (kq ≤ k) ∧ Aside0 (Kd.R k32 32 w' w.heap.size (fun _ => True) v5 x5_1) ∧ Aside0 (Below w.heap.size w w'))
      case atStart => exact ⟨(y111), (0), (by first | rfl | (simp; done) | (simp [*]; done)), H', ⟨Nat.le_refl _⟩, ⟨by (with_reducible repeat (first | apply Kd.R_alloc | apply Kd.R_drewN | apply Kd.R_drew)); exact HO113.out⟩, ⟨by repeat (first | (with_reducible first | exact HB.out | apply below_alloc | apply pw_below_drewN | apply below_drew1) | exact HB.out)⟩⟩
      case round =>
        clear H'
        try clear c1
        try clear p2
        try clear c3
        try clear c3b0
        try clear c3b1
        try clear c4
        try clear c4b0
        try clear c4b1
        obtain ⟨x5_1, x13_1, rfl, HA, HK1, HO_5, HB⟩ := hrel
        cases gk with
        | zero => exact absurd HA.out (by simp [batch_Entries.l0])
        | succ k1 =>
          have H := HA.out
          clear HA
          simp only [batch_Entries.l0] at H
          by_cases c7 : x13_1 < (l1.length : Int)
          · rw [if_pos c7] at H
            have c7b0 : decide (x13_1 < (l1.length : Int)) = true := decide_eq_true c7
            clear c7
            by_cases c8 : 0 ≤ x13_1
            · rw [if_pos c8] at H
              have c8b0 : decide (0 ≤ x13_1) = true := decide_eq_true c8
              clear c8
              by_cases c9 : x13_1 < (l1.length : Int)
              · rw [if_pos c9] at H
                have c9b0 : decide (x13_1 < (l1.length : Int)) = true := decide_eq_true c9
                clear c9
                by_cases c10 : x5_1.length < 2932031007402
                · rw [if_pos c10] at H
                  have LMc10 := Aside0.mk c10
                  clear c10
                  obtain ⟨y116, hy116⟩ : ∃ y_ : List (S32), y_ = (x5_1 ++ [(⟨(rd_T34 l1 x13_1).f1, IntKind.u64.wrap (a0 + (IntKind.u64.wrap (x13_1))), (rd_T34 l1 x13_1).f0, (rd_T34 l1 x13_1).f2⟩ : S32)]) := ⟨_, rfl⟩
                  replace H : (batch_Entries.l0 k1 a0 y116 l1 (l1.length : Int) (wrap64 (x13_1 + 1))) = some r := by first | (rw [hy116]; with_reducible exact H) | (have H2_ := (Option.bind_some _ _).symm.trans H; rw [hy116]; with_reducible exact H2_) | (have H2_ := (Option.bind_some _ _).symm.trans H; with_reducible exact H2_) | with_reducible exact H | (rw [hy116]; exact H) | exact H
                  have Ny116 := Aside0.mk hy116
                  clear hy116
                  have H' := Aside0.mk H
                  clear H
                  have p114 : 0 ≤ (x13_1 : Int) := of_decide_eq_true (by first | (with_reducible assumption) | assumption)
                  have q114 : x13_1 < (l1.length : Int) := of_decide_eq_true (by first | (with_reducible assumption) | assumption)
                  obtain ⟨ad114, e114, hx114_0, hx114_1, hx114_2⟩ := at_T34 HR1.out x13_1 p114 q114
                  cases e114
                  replace hx114_0 := (HB.out.cell (World.block_lt_of_cell? w _ hx114_0)).trans hx114_0
                  replace hx114_1 := (HB.out.cell (World.block_lt_of_cell? w _ hx114_1)).trans hx114_1
                  replace hx114_2 := (HB.out.cell (World.block_lt_of_cell? w _ hx114_2)).trans hx114_2
                  replace p114 := eq_true p114
                  replace q114 := eq_true q114
                  go_wp2_with (first | ((with_reducible refine gate_dst (N := 7) rfl ?_); refine box_event ?hg (N := 7) ?hd (cs := #[.bool false, .string (⟨#[]⟩ : ByteArray), .string (⟨#[]⟩ : ByteArray)]) (t := 34) ?hr ?_; (case hd => rfl); (case hg => rfl); (case hr => first | (go_simp; done) | (go_simp; rfl)); intro gb115 hg w11 hbox hb; have n0_ := Aside0.mk (Kd.R_below (by (with_reducible repeat (first | apply Kd.R_alloc | apply Kd.R_drewN | apply Kd.R_drew)); exact HO_5.out) hb); have n1_ := Aside0.mk (below_step (by repeat (first | (with_reducible first | exact HB.out | apply below_alloc | apply pw_below_drewN | apply below_drew1) | exact HB.out)) hb); have n2_ := Aside0.mk (hbox); have n3_ := Aside0.mk ((by rw [hg]; exact (below_size (by repeat (first | (with_reducible first | exact HB.out | apply below_alloc | apply pw_below_drewN | apply below_drew1) | exact HB.out))) : w.heap.size ≤ gb115)); have n4_ := Aside0.mk ((by rw [hg]; exact (below_size (by repeat (first | (with_reducible first | exact HB.out | apply below_alloc | apply pw_below_drewN | apply below_drew1) | exact HB.out))) : w.heap.size ≤ gb115)); clear HO_5; clear HB; have HO_5 := n0_; have HB := n1_; have BK115 := n2_; have GW115 := n3_; have GE115 := n4_; clear n0_ n1_ n2_ n3_ n4_; clear hb hbox hg; have hcz12_0 : w11.cell? ⟨gb115, 0, none⟩ = some (.bool false) := (blk_cell BK115.out 0).trans rfl; have hcz12_1 : w11.cell? ⟨gb115, 1, none⟩ = some (.string (⟨#[]⟩ : ByteArray)) := (blk_cell BK115.out 1).trans rfl; have hcz12_2 : w11.cell? ⟨gb115, 2, none⟩ = some (.string (⟨#[]⟩ : ByteArray)) := (blk_cell BK115.out 2).trans rfl; have hfz12_0 := blk_frozen BK115.out 0; have hfz12_1 := blk_frozen BK115.out 1; have hfz12_2 := blk_frozen BK115.out 2) | ((with_reducible refine gate_builtin (b := .append) (xs := #[.tmp 18, .tmp 30]) rfl ?_); at_builtin; refine Kd.R_append k32 (w0 := w) w.heap.size rfl (.tmp 18) (.tmp 30) 29 32 (.agg #[(.string ⟨#[]⟩), (.int .u64 0), (.bool false), (.string ⟨#[]⟩)]) 48 rfl Try.underlying29 info32 rfl (by decide) (by omega) u5 x5_1 (⟨(rd_T34 l1 x13_1).f1, IntKind.u64.wrap (a0 + (IntKind.u64.wrap (x13_1))), (rd_T34 l1 x13_1).f0, (rd_T34 l1 x13_1).f2⟩ : S32) [.string ((rd_T34 l1 x13_1).f1), .int .u64 (IntKind.u64.wrap (a0 + (IntKind.u64.wrap (x13_1)))), .bool ((rd_T34 l1 x13_1).f0), .string ((rd_T34 l1 x13_1).f2)] (fun _ => True) (fun _ => False) rfl (by first | (go_simp; done) | (go_simp; rfl)) ?aP (fun _ hk => hk.elim) ?aF ?aO ?aB ?aS ?aL ?_; (case aP => exact k32_mkM _ _ _ (⟨(rd_T34 l1 x13_1).f1, IntKind.u64.wrap (a0 + (IntKind.u64.wrap (x13_1))), (rd_T34 l1 x13_1).f0, (rd_T34 l1 x13_1).f2⟩ : S32)); (case aB => exact (by repeat (first | (with_reducible first | exact HB.out | apply below_alloc | apply pw_below_drewN | apply below_drew1 | refine below_set ?_ GE115.out) | exact HB.out))); (case aF => exact (fun _ _ => trivial)); (case aO => exact (by (with_reducible repeat (first | apply Kd.R_alloc | apply Kd.R_drewN | apply Kd.R_drew)); exact Kd.R_mono (Kd.R_far (p := ⟨gb115, 2, none⟩) (Kd.R_far (p := ⟨gb115, 1, none⟩) (Kd.R_far (p := ⟨gb115, 0, none⟩) (Kd.R_types HO_5.out BK115.out (by decide)) (fun _ hk => hk.2) (.bool ((rd_T34 l1 x13_1).f0))) (fun _ hk => hk.2) (.string ((rd_T34 l1 x13_1).f1))) (fun _ hk => hk.2) (.string ((rd_T34 l1 x13_1).f2))) (fun _ hk => trivial))); (case aS => exact (below_size (by repeat (first | (with_reducible first | exact HB.out | apply below_alloc | apply pw_below_drewN | apply below_drew1 | refine below_set ?_ GE115.out) | exact HB.out)))); (case aL => have := LMc10.out; omega); intro v117 w13 ho hb hg hat; rw [← Ny116.out] at ho; have n0_ := Aside0.mk (blk_grown (g := gb115) (o := .cells #[.bool ((rd_T34 l1 x13_1).f0), .string ((rd_T34 l1 x13_1).f1), .string ((rd_T34 l1 x13_1).f2)] 34 (0, 0)) (by (with_reducible repeat (first | refine blk_drewN ?_ _ | refine blk_drew ?_ | refine blk_alloc ?_ _)); refine blk_put (cs := #[.bool ((rd_T34 l1 x13_1).f0), .string ((rd_T34 l1 x13_1).f1), .string (⟨#[]⟩ : ByteArray)]) ?_ 2 _ rfl; (with_reducible repeat (first | refine blk_drewN ?_ _ | refine blk_drew ?_ | refine blk_alloc ?_ _)); refine blk_put (cs := #[.bool ((rd_T34 l1 x13_1).f0), .string (⟨#[]⟩ : ByteArray), .string (⟨#[]⟩ : ByteArray)]) ?_ 1 _ rfl; (with_reducible repeat (first | refine blk_drewN ?_ _ | refine blk_drew ?_ | refine blk_alloc ?_ _)); refine blk_put (cs := #[.bool false, .string (⟨#[]⟩ : ByteArray), .string (⟨#[]⟩ : ByteArray)]) ?_ 0 _ rfl; (with_reducible repeat (first | refine blk_drewN ?_ _ | refine blk_drew ?_ | refine blk_alloc ?_ _)); exact BK115.out) hg (Kd.R_ne HO_5.out BK115.out (by decide))); have n1_ := Aside0.mk (hb); have n2_ := Aside0.mk (ho); clear BK115; clear HB; clear HO_5; have BK115 := n0_; have HB := n1_; have HO118 := n2_; clear n0_ n1_ n2_; clear ho hb hg hat))
                  go_roundg k1
                  case measure => have := HK1.out; omega
                  case rel => exact ⟨(y116), (wrap64 (x13_1 + 1)), (by first | rfl | (simp; done) | (simp [*]; done)), (by first | (with_reducible exact H') | exact H' | (subst_vars; exact H')), ⟨by have := HK1.out; omega⟩, ⟨by (with_reducible repeat (first | apply Kd.R_alloc | apply Kd.R_drewN | apply Kd.R_drew)); exact HO118.out⟩, ⟨by repeat (first | (with_reducible first | exact HB.out | apply below_alloc | apply pw_below_drewN | apply below_drew1 | refine below_set ?_ GE115.out) | exact HB.out)⟩⟩
                · rw [if_neg c10] at H
                  exact absurd H (by simp)
              · rw [if_neg c9] at H
                exact absurd H (by simp)
            · rw [if_neg c8] at H
              exact absurd H (by simp)
          · rw [if_neg c7] at H
            have c7b0 : decide (x13_1 < (l1.length : Int)) = false := decide_eq_false c7
            clear c7
            obtain rfl := Option.some.inj H
            go_wp2
            go_ret
            exact ⟨_, by first | rfl | (simp [errW_none, errW_some] <;> rfl) | (simp (disch := omega) only [← i64_w, IntWalk.i64_in]; rfl) | (simp [*, errW_none, errW_some] <;> rfl), by (with_reducible repeat (first | apply Kd.R_alloc | apply Kd.R_drewN | apply Kd.R_drew)); exact HO_5.out, by repeat (first | (with_reducible first | exact HB.out | apply below_alloc | apply pw_below_drewN | apply below_drew1) | exact HB.out)⟩
    · rw [if_neg c4] at H
      exact absurd H (by simp)
  · rw [if_neg c3] at H
    exact absurd H (by simp)

end Go.Proofs.Ytfgelbkhjiajfaa.P
