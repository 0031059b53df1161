-- Printed by a program of this session's own (wip/tools/pprint.sh, over the kit's print, with given contracts): not typed by hand.
import Derived.Test.YteijlcnjnooiiaaPx0
import Derived.Test.YteijlcnjnooiiaaPx7
import Derived.Test.YteijlcnjnooiiaaPx8
import Derived.Test.YteijlcnjnooiiaaPx9
namespace Go.Proofs.Yteijlcnjnooiiaa.P
open Go.RowKit Go.Proofs.YteijlcnjnooiiaaW.PrintWords Go.Proofs.YteijlcnjnooiiaaW.PrintLast Go.Proofs.YteijlcnjnooiiaaW.PrintMore
set_option linter.unusedVariables false
set_option linter.unusedSimpArgs false
-- SQUEEZED

/-! ### api_Write: function 34 -/
theorem api_Write.fin (tmps : Array Value) (W : World) (g : Nat) (c0 c1 : Value) (hp : tmps.getD 6 undef = .pointer (some ⟨g, 0, none⟩)) (hg : W.heap[g]? = some (.cells #[c0, c1] 26 (0, 0))) : (results Try.f34 tmps).run Try.prog W = .ok (.tuple #[.agg #[c0, c1], tmps.getD 7 undef]) W :=
 results_ct rfl tmps W g _ #[c0, c1] (0, 0) _ hp hg Try.underlying26 rfl (by kernel_rfl)
set_option maxHeartbeats 1600000 in
set_option maxRecDepth 100000 in
theorem api_Write.good (k : Nat) (st kd : Int) (s is : ByteArray) (w : World) (h : col_Write.f k st kd = some (is, 0)) (hs : is.toList = s.toList) :
  Calls Try.prog 34 #[.agg #[.int .u64 st, .int .i64 kd], .string s, .func (.func 13) #[] #[]] w fun e' w' => e' = .returned (.tuple #[.agg #[.int .u64 st, .int .i64 kd], .int .i64 0]) ∧ Below w.heap.size w w' := by
 have hu24 := Try.underlying26
 have hfin := api_Write.fin
 have HC := Lib.hid h
 have s1_ : (is.toList == s.toList) = true := beq_iff_eq.mpr hs
 have s2_ : (is.toList != s.toList) = false := bne_eq_false_iff_eq.mpr hs
 clear h hs
 go_enter Try.func34, Try.ntmps34
 go_wp2_with (fail)
 have BL : Aside0 (((w.alloc (.cells #[.int .u64 st, .int .i64 kd] 26)).alloc (.cells #[.int .u64 0, .int .i64 0] 26)).heap[w.heap.size]? = some (.cells #[.int .u64 st, .int .i64 kd] 26 (0, 0))) := ⟨blk_alloc (blk_new _ _) _⟩
 have hR : ((w.alloc (.cells #[.int .u64 st, .int .i64 kd] 26)).alloc (.cells #[.int .u64 0, .int .i64 0] 26)).heap[w.heap.size + 1]? = some (.cells #[.int .u64 0, .int .i64 0] 26 (0, 0)) := by
  have := blk_new (w.alloc (.cells #[.int .u64 st, .int .i64 kd] 26)) (.cells #[.int .u64 0, .int .i64 0] 26)
  rwa [World.size_alloc] at this
 have BR := Aside0.mk hR
 clear hR
 have HB : Aside0 (Below w.heap.size w ((w.alloc (.cells #[.int .u64 st, .int .i64 kd] 26)).alloc (.cells #[.int .u64 0, .int .i64 0] 26))) := ⟨below_alloc (below_alloc (Below.refl _ _) _) _⟩
 generalize ((w.alloc (.cells #[.int .u64 st, .int .i64 kd] 26)).alloc (.cells #[.int .u64 0, .int .i64 0] 26)) = w1 at BL BR HB ⊢
 obtain ⟨g2, hg2⟩ : ∃ g, w.heap.size + 1 = g := ⟨_, rfl⟩
 have HG : Hid (w.heap.size ≤ g2) := Lib.hid (by omega)
 rw [hg2] at BR ⊢
 clear hg2
 refine (col_Write.calls k st kd is 0 w1 HC.out).mono ?_
 rintro e w2 ⟨rfl, hb⟩
 have BL2 := Aside0.mk (blk_below BL.out hb)
 have BR2 := Aside0.mk (blk_below BR.out hb)
 have HB2 := Aside0.mk (below_step HB.out hb)
 clear hb BL BR HB
 have l0_ : w2.cell? ⟨w.heap.size, 0, none⟩ = some (.int .u64 st) := (blk_cell BL2.out 0).trans rfl
 have l1_ : w2.cell? ⟨w.heap.size, 1, none⟩ = some (.int .i64 kd) := (blk_cell BL2.out 1).trans rfl
 have r0_ : w2.cell? ⟨g2, 0, none⟩ = some (.int .u64 0) := (blk_cell BR2.out 0).trans rfl
 have p0_ := blk_frozen BR2.out 0
 have r1_ : w2.cell? ⟨g2, 1, none⟩ = some (.int .i64 0) := (blk_cell BR2.out 1).trans rfl
 have p1_ := blk_frozen BR2.out 1
 go_wp2
 exact bodyPost_ret (hfin _ _ g2 _ _ rfl (blk_put (cs' := #[.int .u64 st, .int .i64 kd]) (blk_put (cs' := #[.int .u64 st, .int .i64 0]) BR2.out 0 _ rfl) 1 _ rfl)) rfl ⟨rfl, (HB2.out.setCell (p := ⟨g2, 0, none⟩) HG.out _).setCell (p := ⟨g2, 1, none⟩) HG.out _⟩
set_option maxHeartbeats 1600000 in
set_option maxRecDepth 100000 in
theorem api_Write.bad (k : Nat) (st kd : Int) (s is : ByteArray) (ee : Int) (w : World) (h : col_Write.f k st kd = some (is, ee)) (hs : ee ≠ 0 ∨ is.toList ≠ s.toList) :
  Calls Try.prog 34 #[.agg #[.int .u64 st, .int .i64 kd], .string s, .func (.func 13) #[] #[]] w fun e' w' => e' = .returned (.tuple #[.agg #[.int .u64 0, .int .i64 0], .int .i64 2]) ∧ Below w.heap.size w w' := by
 have hu24 := Try.underlying26
 have hfin := api_Write.fin
 have HC := Lib.hid h
 have HS := Lib.hid hs
 clear h hs
 go_enter Try.func34, Try.ntmps34
 go_wp2_with (fail)
 have BL : Aside0 (((w.alloc (.cells #[.int .u64 st, .int .i64 kd] 26)).alloc (.cells #[.int .u64 0, .int .i64 0] 26)).heap[w.heap.size]? = some (.cells #[.int .u64 st, .int .i64 kd] 26 (0, 0))) := ⟨blk_alloc (blk_new _ _) _⟩
 have hR : ((w.alloc (.cells #[.int .u64 st, .int .i64 kd] 26)).alloc (.cells #[.int .u64 0, .int .i64 0] 26)).heap[w.heap.size + 1]? = some (.cells #[.int .u64 0, .int .i64 0] 26 (0, 0)) := by
  have := blk_new (w.alloc (.cells #[.int .u64 st, .int .i64 kd] 26)) (.cells #[.int .u64 0, .int .i64 0] 26)
  rwa [World.size_alloc] at this
 have BR := Aside0.mk hR
 clear hR
 have HB : Aside0 (Below w.heap.size w ((w.alloc (.cells #[.int .u64 st, .int .i64 kd] 26)).alloc (.cells #[.int .u64 0, .int .i64 0] 26))) := ⟨below_alloc (below_alloc (Below.refl _ _) _) _⟩
 generalize ((w.alloc (.cells #[.int .u64 st, .int .i64 kd] 26)).alloc (.cells #[.int .u64 0, .int .i64 0] 26)) = w1 at BL BR HB ⊢
 obtain ⟨g2, hg2⟩ : ∃ g, w.heap.size + 1 = g := ⟨_, rfl⟩
 have HG : Hid (w.heap.size ≤ g2) := Lib.hid (by omega)
 rw [hg2] at BR ⊢
 clear hg2
 refine (col_Write.calls k st kd is ee w1 HC.out).mono ?_
 rintro e w2 ⟨rfl, hb⟩
 have BL2 := Aside0.mk (blk_below BL.out hb)
 have BR2 := Aside0.mk (blk_below BR.out hb)
 have HB2 := Aside0.mk (below_step HB.out hb)
 clear hb BL BR HB
 have l0_ : w2.cell? ⟨w.heap.size, 0, none⟩ = some (.int .u64 st) := (blk_cell BL2.out 0).trans rfl
 have l1_ : w2.cell? ⟨w.heap.size, 1, none⟩ = some (.int .i64 kd) := (blk_cell BL2.out 1).trans rfl
 have r0_ : w2.cell? ⟨g2, 0, none⟩ = some (.int .u64 0) := (blk_cell BR2.out 0).trans rfl
 have p0_ := blk_frozen BR2.out 0
 have r1_ : w2.cell? ⟨g2, 1, none⟩ = some (.int .i64 0) := (blk_cell BR2.out 1).trans rfl
 have p1_ := blk_frozen BR2.out 1
 by_cases he : ee = 0
 ·subst he
  have hs : is.toList ≠ s.toList := by simpa using HS.out
  have s1_ : (is.toList == s.toList) = false := beq_eq_false_iff_ne.mpr hs
  have s2_ : (is.toList != s.toList) = true := bne_iff_ne.mpr hs
  clear hs
  go_upto_region 4 with (fail)
  clear l0_ l1_ r0_ r1_ p0_ p1_
  have BR3 := Aside0.mk (blk_alloc BR2.out (.cells #[.int .u64 0, .int .i64 0] 26))
  have BN3 := Aside0.mk (blk_new w2 (.cells #[.int .u64 0, .int .i64 0] 26))
  have HB3 := Aside0.mk (below_alloc HB2.out (.cells #[.int .u64 0, .int .i64 0] 26))
  generalize (w2.alloc (.cells #[.int .u64 0, .int .i64 0] 26)) = w3 at BR3 BN3 HB3 ⊢
  generalize w2.heap.size = g4 at BN3 ⊢
  have n0_ : w3.cell? ⟨g4, 0, none⟩ = some (.int .u64 0) := (blk_cell BN3.out 0).trans rfl
  have n1_ : w3.cell? ⟨g4, 1, none⟩ = some (.int .i64 0) := (blk_cell BN3.out 1).trans rfl
  have r0_ : w3.cell? ⟨g2, 0, none⟩ = some (.int .u64 0) := (blk_cell BR3.out 0).trans rfl
  have p0_ := blk_frozen BR3.out 0
  have r1_ : w3.cell? ⟨g2, 1, none⟩ = some (.int .i64 0) := (blk_cell BR3.out 1).trans rfl
  have p1_ := blk_frozen BR3.out 1
  go_wp2
  exact bodyPost_ret (hfin _ _ g2 _ _ rfl (blk_put (cs' := #[.int .u64 0, .int .i64 0]) (blk_put (cs' := #[.int .u64 0, .int .i64 0]) BR3.out 0 _ rfl) 1 _ rfl)) rfl ⟨rfl, (HB3.out.setCell (p := ⟨g2, 0, none⟩) HG.out _).setCell (p := ⟨g2, 1, none⟩) HG.out _⟩
 ·have e1_ : (ee == 0) = false := beq_eq_false_iff_ne.mpr he
  have e2_ : (ee != 0) = true := bne_iff_ne.mpr he
  clear he
  go_upto_region 4 with (fail)
  clear l0_ l1_ r0_ r1_ p0_ p1_
  have BR3 := Aside0.mk (blk_alloc BR2.out (.cells #[.int .u64 0, .int .i64 0] 26))
  have BN3 := Aside0.mk (blk_new w2 (.cells #[.int .u64 0, .int .i64 0] 26))
  have HB3 := Aside0.mk (below_alloc HB2.out (.cells #[.int .u64 0, .int .i64 0] 26))
  generalize (w2.alloc (.cells #[.int .u64 0, .int .i64 0] 26)) = w3 at BR3 BN3 HB3 ⊢
  generalize w2.heap.size = g4 at BN3 ⊢
  have n0_ : w3.cell? ⟨g4, 0, none⟩ = some (.int .u64 0) := (blk_cell BN3.out 0).trans rfl
  have n1_ : w3.cell? ⟨g4, 1, none⟩ = some (.int .i64 0) := (blk_cell BN3.out 1).trans rfl
  have r0_ : w3.cell? ⟨g2, 0, none⟩ = some (.int .u64 0) := (blk_cell BR3.out 0).trans rfl
  have p0_ := blk_frozen BR3.out 0
  have r1_ : w3.cell? ⟨g2, 1, none⟩ = some (.int .i64 0) := (blk_cell BR3.out 1).trans rfl
  have p1_ := blk_frozen BR3.out 1
  go_wp2
  exact bodyPost_ret (hfin _ _ g2 _ _ rfl (blk_put (cs' := #[.int .u64 0, .int .i64 0]) (blk_put (cs' := #[.int .u64 0, .int .i64 0]) BR3.out 0 _ rfl) 1 _ rfl)) rfl ⟨rfl, (HB3.out.setCell (p := ⟨g2, 0, none⟩) HG.out _).setCell (p := ⟨g2, 1, none⟩) HG.out _⟩
theorem api_Write.chk (k : Nat) (st kd : Int) (s is : ByteArray) (ee : Int) (v1 v2 v4 : Int) (w : World) (h : col_Write.f k st kd = some (is, ee)) (hr : (if ee ≠ 0 ∨ is.toList ≠ s.toList then some ((0 : Int), (0 : Int), (2 : Int)) else some (st, kd, 0)) = some (v1, v2, v4)) :
  Calls Try.prog 34 #[.agg #[.int .u64 st, .int .i64 kd], .string s, .func (.func 13) #[] #[]] w fun e' w' => e' = .returned (.tuple #[.agg #[.int .u64 v1, .int .i64 v2], .int .i64 v4]) ∧ Below w.heap.size w w' := by
 by_cases hb : ee ≠ 0 ∨ is.toList ≠ s.toList
 ·rw [if_pos hb] at hr
  simp only [Option.some.injEq, Prod.mk.injEq] at hr
  obtain ⟨rfl, rfl, rfl⟩ := hr
  exact api_Write.bad k st kd s is ee w h hb
 ·rw [if_neg hb] at hr
  simp only [Option.some.injEq, Prod.mk.injEq] at hr
  obtain ⟨rfl, rfl, rfl⟩ := hr
  have he : ee = 0 := Classical.not_not.1 fun e => hb (Or.inl e)
  subst he
  exact api_Write.good k st kd s is w h (Classical.not_not.1 fun e => hb (Or.inr e))
def api_Write.f (k : Nat) (a0_0 a0_1 : Int) (a1 : ByteArray) : Option (Int × Int × Int) :=
 (col_Write.f k a0_0 a0_1).bind fun c => if c.2 ≠ 0 ∨ c.1.toList ≠ a1.toList then some (0, 0, 2) else some (a0_0, a0_1, 0)
theorem api_Write.mono : ∀ a0 a1 a2 k, LeO (api_Write.f k a0 a1 a2) (api_Write.f (k + 1) a0 a1 a2) := by
 intro a0 a1 a2 k
 unfold api_Write.f
 exact LeO.bind (col_Write.mono _ _ _) (fun _ => LeO.refl _)
theorem api_Write.calls (k : Nat) (a0_0 a0_1 : Int) (a1 : ByteArray) (r1 r2 r3 : Int) (w : World) (h : api_Write.f k a0_0 a0_1 a1 = some (r1, r2, r3)) :
  Calls Try.prog 34 #[.agg #[.int .u64 a0_0, .int .i64 a0_1], .string a1, .func (.func 13) #[] #[]] w fun e w' => e = .returned (.tuple #[.agg #[.int .u64 r1, .int .i64 r2], .int .i64 r3]) ∧ Below w.heap.size w w' := by
 unfold api_Write.f at h
 replace h := Option.bind_eq_some_iff.mp h
 obtain ⟨⟨is, ee⟩, hC, h⟩ := h
 exact api_Write.chk k a0_0 a0_1 a1 is ee r1 r2 r3 w hC h

/-! ### col_Unwrite: function 20 -/
def col_Unwrite.f (k : Nat) (a0 : ByteArray) : Option (Int × Int × Int) := if a0.toList = ([] : List UInt8) then (some (0, 0, 2)) else (if 1 ≤ (a0.size : Int) then ((col_numbers.f k (a0.extract 1 a0.size) 1).bind fun bt149 => (if bt149.2.2 = true then (if 0 < (bt149.1.length : Int) then (if 0 < (a0.size : Int) then ((api_Write.f k (rd bt149.1 0) (wrap64 (bt a0 0)) a0).bind fun bt155 => (some (bt155.1, bt155.2.1, bt155.2.2))) else (none)) else (none)) else (some (0, 0, 2)))) else (none))
theorem col_Unwrite.mono : ∀ a0 k, LeO (col_Unwrite.f k a0) (col_Unwrite.f (k + 1) a0) := by
 intro a0 k
 unfold col_Unwrite.f
 repeat' first
   | (with_reducible exact api_Write.mono _ _ _ _)
   | (with_reducible exact col_numbers.mono _ _ _)
   | (with_reducible exact LeO.refl _)
   | (with_reducible exact LeO.none _)
   | (with_reducible refine LeO.ite ?_ ?_)
   | (with_reducible refine LeO.bind ?_ (fun _ => ?_))
   | exact api_Write.mono _ _ _ _
   | exact col_numbers.mono _ _ _
   | exact LeO.none _
   | refine LeO.ite ?_ ?_
   | refine LeO.bind ?_ (fun _ => ?_)
def col_Unwrite.T6 : Bool × List (List Nat × List Nat) := (true, [([], []), ([0], [0]), ([1], [1]), ([], []), ([3], [3]), ([4], [4]), ([2, 5], [2, 5]), ([], []), ([6, 7], [6, 7]), ([8], [8]), ([8], [8]), ([9, 8, 0, 1, 2, 3, 4, 5, 6, 7, 8, 9, 10], [9]), ([10, 11, 0, 1, 2, 3, 4, 5, 6, 7, 8, 9, 10, 11], [10])])
def col_Unwrite.B6 : List Nat := [0, 1, 3, 0, 8, 24, 63, 0, 255, 511, 511, 2047, 4095]
theorem col_Unwrite.tab6 : rtab .any (opsOf Try.f20 6) = col_Unwrite.T6 := by kernel_rfl
theorem col_Unwrite.bits6 : waitsOk col_Unwrite.T6.2 col_Unwrite.B6 = true := by kernel_rfl
set_option maxHeartbeats 8000000 in
set_option maxRecDepth 100000 in
theorem col_Unwrite.calls (k : Nat) (a0 : ByteArray) (r1 : Int) (r2 : Int) (r3 : Int) (w : World) (h : col_Unwrite.f k a0 = some (r1, r2, r3)) :
  Calls Try.prog 20 #[.string a0] w fun e w' => e = .returned (.tuple #[.agg #[.int .u64 r1, .int .i64 r2], .int .i64 r3]) ∧ Below w.heap.size w w' := by
 have hu26 := Try.underlying26
 have HB := Aside0.mk (Below.refl w.heap.size w)
 have H : (if a0.toList = ([] : List UInt8) then (some (0, 0, 2)) else (if 1 ≤ (a0.size : Int) then ((col_numbers.f k (a0.extract 1 a0.size) 1).bind fun bt149 => (if bt149.2.2 = true then (if 0 < (bt149.1.length : Int) then (if 0 < (a0.size : Int) then ((api_Write.f k (rd bt149.1 0) (wrap64 (bt a0 0)) a0).bind fun bt155 => (some (bt155.1, bt155.2.1, bt155.2.2))) else (none)) else (none)) else (some (0, 0, 2)))) else (none))) = some (r1, r2, r3) := h
 clear h
 by_cases c2 : a0.toList = ([] : List UInt8)
 ·rw [if_pos c2] at H
  have c2b0 : (a0.toList == ([] : List UInt8)) = true := beq_iff_eq.mpr c2
  have c2b1 : (a0.toList != ([] : List UInt8)) = false := bne_eq_false_iff_eq.mpr c2
  clear c2
  simp only [Option.some.injEq, Prod.mk.injEq] at H
  obtain ⟨rfl, rfl, rfl⟩ := H
  go_enter Try.func20, Try.ntmps20
  go_wp2_with (first | ((with_reducible refine gate_dst (N := 2) rfl ?_); refine box_event ?hg (N := 2) ?hd (cs := #[.int .u64 0, .int .i64 0]) (t := 26) ?hr ?_; (case hd => rfl); (case hg => rfl); (case hr => first | (go_simp; done) | (go_simp; rfl)); intro gb148 hg w3 hbox hb; have n0_ := Aside0.mk (below_step hB_ hb); have n1_ := Aside0.mk (hbox); have n2_ := Aside0.mk ((by rw [hg]; exact (below_size hB_) : w.heap.size ≤ gb148)); have n3_ := Aside0.mk ((by rw [hg]; exact (below_size hB_) : w.heap.size ≤ gb148)); clear HB; have HB := n0_; have BK148 := n1_; have GW148 := n2_; have GE148 := n3_; clear n0_ n1_ n2_ n3_; clear hb hbox hg; have hcz4_0 : w3.cell? ⟨gb148, 0, none⟩ = some (.int .u64 0) := (blk_cell BK148.out 0).trans rfl; have hcz4_1 : w3.cell? ⟨gb148, 1, none⟩ = some (.int .i64 0) := (blk_cell BK148.out 1).trans rfl; have hfz4_0 := blk_frozen BK148.out 0; have hfz4_1 := blk_frozen BK148.out 1))
  refine bodyPost_ret (results_ct rfl _ _ gb148 26 #[.int .u64 0, .int .i64 0] (0, 0) _ rfl (by (with_reducible repeat (first | refine blk_drewN ?_ _ | refine blk_drew ?_ | refine blk_alloc ?_ _)); refine blk_put (cs := #[.int .u64 0, .int .i64 0]) ?_ 1 _ rfl; (with_reducible repeat (first | refine blk_drewN ?_ _ | refine blk_drew ?_ | refine blk_alloc ?_ _)); refine blk_put (cs := #[.int .u64 0, .int .i64 0]) ?_ 0 _ rfl; (with_reducible repeat (first | refine blk_drewN ?_ _ | refine blk_drew ?_ | refine blk_alloc ?_ _)); exact BK148.out) Try.underlying26 rfl (by kernel_rfl)) rfl ?_
  exact ⟨rf_, by repeat (first | (with_reducible first | exact HB.out | apply below_alloc | apply pw_below_drewN | apply below_drew1 | refine below_set ?_ GE148.out) | exact HB.out)⟩
 ·rw [if_neg c2] at H
  have c2b0 : (a0.toList == ([] : List UInt8)) = false := beq_eq_false_iff_ne.mpr c2
  have c2b1 : (a0.toList != ([] : List UInt8)) = true := bne_iff_ne.mpr c2
  by_cases c5 : 1 ≤ (a0.size : Int)
  ·rw [if_pos c5] at H
   have c5b0 := eq_true c5
   have c5b1 : decide (1 ≤ (a0.size : Int)) = true := decide_eq_true c5
   clear c5
   replace H := Option.bind_eq_some_iff.mp H
   obtain ⟨⟨t149, t150, t151⟩, A60, H⟩ := H
   try dsimp only at H
   have A6 := Aside0.mk A60
   clear A60
   by_cases c7 : t151 = true
   ·subst c7
    have H1 : (if 0 < (t149.length : Int) then (if 0 < (a0.size : Int) then ((api_Write.f k (rd t149 0) (wrap64 (bt a0 0)) a0).bind fun bt155 => (some (bt155.1, bt155.2.1, bt155.2.2))) else (none)) else (none)) = some (r1, r2, r3) := by rw [if_pos rfl] at H; exact H
    clear H
    have H := H1
    clear H1
    by_cases c8 : 0 < (t149.length : Int)
    ·rw [if_pos c8] at H
     have c8b0 : decide (0 < (t149.length : Int)) = true := decide_eq_true c8
     have c8b1 : decide (0 < t149.length) = true := decide_eq_true (by omega)
     clear c8
     by_cases c9 : 0 < (a0.size : Int)
     ·rw [if_pos c9] at H
      have c9b0 : decide (0 < (a0.size : Int)) = true := decide_eq_true c9
      have c9b1 : decide (0 < a0.size) = true := decide_eq_true (by omega)
      clear c9
      replace H := Option.bind_eq_some_iff.mp H
      obtain ⟨⟨t155, t156, t157⟩, A110, H⟩ := H
      try dsimp only at H
      have A11 := Aside0.mk A110
      clear A110
      simp only [Option.some.injEq, Prod.mk.injEq] at H
      obtain ⟨rfl, rfl, rfl⟩ := H
      go_enter Try.func20, Try.ntmps20
      try go_wp2_with (first | ((with_reducible refine gate_dst (N := 2) rfl ?_); refine box_event ?hg (N := 2) ?hd (cs := #[.int .u64 0, .int .i64 0]) (t := 26) ?hr ?_; (case hd => rfl); (case hg => rfl); (case hr => first | (go_simp; done) | (go_simp; rfl)); intro gb148 hg w12 hbox hb; have n0_ := Aside0.mk (below_step hB_ hb); have n1_ := Aside0.mk (hbox); have n2_ := Aside0.mk ((by rw [hg]; exact (below_size hB_) : w.heap.size ≤ gb148)); have n3_ := Aside0.mk ((by rw [hg]; exact (below_size hB_) : w.heap.size ≤ gb148)); clear HB; have HB := n0_; have BK148 := n1_; have GW148 := n2_; have GE148 := n3_; clear n0_ n1_ n2_ n3_; clear hb hbox hg) | ((with_reducible refine gate_callee (f := 31) rfl ?_); refine goesL_ (some 13) rfl rfl Try.func31 (by kernel_rfl) rfl #[.string (a0.extract 1 a0.size), .int .i64 1] rfl hA_ ?_; (with_reducible refine (col_numbers.calls k (a0.extract 1 a0.size) 1 t149 t150 true _ A6.out).mono ?_); rintro e w13 ⟨v152, rfl, ho0, hb⟩; refine ⟨_, rfl, ?_⟩; have n0_ := Aside0.mk (Kd.R_lower ho0 (below_size (by repeat (first | (with_reducible first | exact HB.out | apply below_alloc | apply pw_below_drewN | apply below_drew1 | refine below_set ?_ GE148.out) | exact HB.out)))); have n1_ := Aside0.mk (blk_below (g := gb148) (o := .cells #[.int .u64 0, .int .i64 0] 26 (0, 0)) (by (with_reducible repeat (first | refine blk_drewN ?_ _ | refine blk_drew ?_ | refine blk_alloc ?_ _)); exact BK148.out) hb); have n2_ := Aside0.mk (below_step (by repeat (first | (with_reducible first | exact HB.out | apply below_alloc | apply pw_below_drewN | apply below_drew1 | refine below_set ?_ GE148.out) | exact HB.out)) hb); clear BK148; clear HB; have HO153 := n0_; have BK148 := n1_; have HB := n2_; clear n0_ n1_ n2_; (try clear hb); (try clear hb2); (try clear hk); (try clear hi); (try clear ho0); (try clear A6)))
      have n0_ := Aside0.mk (Kd.R_drew HO153.out)
      have n1_ := Aside0.mk (blk_drew BK148.out)
      have n2_ := Aside0.mk (below_drew1 HB.out)
      clear HO153
      clear BK148
      clear HB
      have HO153 := n0_
      have BK148 := n1_
      have HB := n2_
      clear n0_ n1_ n2_
      obtain ⟨Ao15, co15, eo15⟩ := Kd.R_slice HO153.out
      (first | subst eo15 | (injection eo15 with f1_ f2_ f3_; have f4_ := f1_.symm; have f5_ := f3_.symm; clear f1_ f2_ f3_; subst f4_; subst f5_))
      have p154 : 0 ≤ (0 : Int) := (by omega)
      have q154 : 0 < (t149.length : Int) := of_decide_eq_true as_
      obtain ⟨ad154, e154, hx154_0⟩ := Kd.at_int (Kd.R_reads' HO153.out).2.2 0 p154 q154
      cases e154
      have qi154 : (0 < t149.length) = True := eq_true (by omega)
      (try rw [show ((0 : Int)).toNat = 0 from rfl] at hx154_0)
      (try rw [Addr.add_zero'] at hx154_0)
      replace p154 := eq_true p154
      replace q154 := eq_true q154
      have p10 : 0 ≤ (0 : Int) := (by omega)
      have q10 : 0 < a0.size := (by have : (0 : Int) < (a0.size : Int) := of_decide_eq_true as_; omega)
      have hx10 : ∀ h : 0 < a0.size, ((a0[0]'h).toNat : Int) = bt a0 0 := bt_at a0 0
      clear p10
      have qi10 : (0 < (a0.size : Int)) = True := eq_true (of_decide_eq_true as_)
      replace q10 := eq_true q10
      refine start_ (n := 13) (S := fun w' => w'.cell? ad154 = some (.int .u64 (rd t149 0))) (ds := []) #[N,N,N,N,N,N,N,N,N,N,N,N,N] (by kernel_rfl) rfl rfl (hx154_0) (fun hHeld => ?_); refine with_tabW col_Unwrite.tab6 col_Unwrite.bits6 (fun HT_ HW_ => ?_)
      generalize w13.drew = w14 at HO153 BK148 HB hx154_0 hHeld ⊢
      refine pure_ (i := 0) (N := some 20) (v := ?_) (a' := ?_) #[Y,N,N,N,N,N,N,N,N,N,N,N,N] rfl rfl (any_of HT_.out (by kernel_rfl)) (fun _ _ _ h => h) (Or.inl ⟨by rfl, ?_⟩) ?_ ?_
      rotate_left
      ·intro w'
       go_simp
       with_reducible rfl
      rotate_left
      ·simp only [Act.put, List.setIfInBounds_toArray, List.set_cons_zero, List.set_cons_succ, i64_w, i32_w]
       rfl
      refine pure_ (i := 1) (N := some 21) (v := ?_) (a' := ?_) #[Y,Y,N,N,N,N,N,N,N,N,N,N,N] rfl rfl (any_of HT_.out (by kernel_rfl)) (fun _ _ _ h => h) (Or.inl ⟨by rfl, ?_⟩) ?_ ?_
      rotate_left
      ·intro w'
       go_simp
       with_reducible rfl
      rotate_left
      ·simp only [Act.put, List.setIfInBounds_toArray, List.set_cons_zero, List.set_cons_succ, i64_w, i32_w]
       rfl
      refine pure_ (i := 3) (N := some 23) (v := ?_) (a' := ?_) #[Y,Y,N,Y,N,N,N,N,N,N,N,N,N] rfl rfl (any_of HT_.out (by kernel_rfl)) (fun _ _ _ h => h) (Or.inl ⟨by rfl, ?_⟩) ?_ ?_
      rotate_left
      ·intro w'
       go_simp
       with_reducible rfl
      rotate_left
      ·simp only [Act.put, List.setIfInBounds_toArray, List.set_cons_zero, List.set_cons_succ, i64_w, i32_w]
       rfl
      refine pure_ (i := 7) (N := some 27) (v := ?_) (a' := ?_) #[Y,Y,N,Y,N,N,N,Y,N,N,N,N,N] rfl rfl (any_of HT_.out (by kernel_rfl)) (fun _ _ _ h => h) (Or.inl ⟨by rfl, ?_⟩) ?_ ?_
      rotate_left
      ·intro w'
       go_simp
       with_reducible rfl
      rotate_left
      ·simp only [Act.put, List.setIfInBounds_toArray, List.set_cons_zero, List.set_cons_succ, i64_w, i32_w]
       rfl
      refine take_ (i := 2) (N := some 22) (v := ?_) (a' := ?_) #[Y,Y,Y,Y,N,N,N,Y,N,N,N,N,N] rfl rfl (take_ofW HT_.out HW_.out (by kernel_rfl)) (fun _ _ _ h => h) (Or.inl ⟨by rfl, ?_⟩) hHeld ?_ ?_
      rotate_left
      ·intro w' s0
       go_simp
       with_reducible rfl
      rotate_left
      ·simp only [Act.put, List.setIfInBounds_toArray, List.set_cons_zero, List.set_cons_succ, i64_w, i32_w]
       rfl
      refine take_ (i := 4) (N := some 24) (v := ?_) (a' := ?_) #[Y,Y,Y,Y,Y,N,N,Y,N,N,N,N,N] rfl rfl (take_ofW HT_.out HW_.out (by kernel_rfl)) (fun _ _ _ h => h) (Or.inl ⟨by rfl, ?_⟩) hHeld ?_ ?_
      rotate_left
      ·intro w' s0
       go_simp
       with_reducible rfl
      rotate_left
      ·simp only [Act.put, List.setIfInBounds_toArray, List.set_cons_zero, List.set_cons_succ, i64_w, i32_w]
       rfl
      refine pure_ (i := 5) (N := some 25) (v := ?_) (a' := ?_) #[Y,Y,Y,Y,Y,Y,N,Y,N,N,N,N,N] rfl rfl (any_of HT_.out (by kernel_rfl)) (fun _ _ _ h => h) (Or.inl ⟨by rfl, ?_⟩) ?_ ?_
      rotate_left
      ·intro w'
       go_simp
       with_reducible rfl
      rotate_left
      ·simp only [Act.put, List.setIfInBounds_toArray, List.set_cons_zero, List.set_cons_succ, i64_w, i32_w]
       rfl
      refine pure_ (i := 6) (N := some 26) (v := ?_) (a' := ?_) #[Y,Y,Y,Y,Y,Y,Y,Y,N,N,N,N,N] rfl rfl (any_of HT_.out (by kernel_rfl)) (fun _ _ _ h => h) (Or.inl ⟨by rfl, ?_⟩) ?_ ?_
      rotate_left
      ·intro w'
       go_simp
       with_reducible rfl
      rotate_left
      ·simp only [Act.put, List.setIfInBounds_toArray, List.set_cons_zero, List.set_cons_succ, i64_w, i32_w]
       rfl
      refine one_ (i := 8) (N := some 28) #[Y,Y,Y,Y,Y,Y,Y,Y,Y,N,N,N,N] rfl rfl (one_of HT_.out (by kernel_rfl)) (by decide) (fun K hK => ?_)
      refine goes_ Try.func34 (by kernel_rfl) rfl #[.agg #[.int .u64 (rd t149 0), .int .i64 (wrap64 (bt a0 0))], .string a0, .func (.func 13) #[] #[]] (by rfl) rfl rfl hA_ ?_
      with_reducible refine (api_Write.calls k (rd t149 0) (wrap64 (bt a0 0)) a0  t155 t156 t157 _ A11.out).mono ?_
      rintro e w16 ⟨rfl, hb⟩
      have HS0_ := (hb.cell (World.block_lt_of_cell? _ _ (hHeld))).trans (hHeld)
      refine ⟨_, rfl, ?_⟩
      have n0_ := Aside0.mk (Kd.R_below (by (with_reducible repeat (first | apply Kd.R_alloc | apply Kd.R_drewN | apply Kd.R_drew)); exact HO153.out) hb)
      have n1_ := Aside0.mk (blk_below (g := gb148) (o := .cells #[.int .u64 0, .int .i64 0] 26 (0, 0)) (by (with_reducible repeat (first | refine blk_drewN ?_ _ | refine blk_drew ?_ | refine blk_alloc ?_ _)); exact BK148.out) hb)
      have n2_ := Aside0.mk (below_step (by repeat (first | (with_reducible first | exact HB.out | apply below_alloc | apply pw_below_drewN | apply below_drew1 | refine below_set ?_ GE148.out) | exact HB.out)) hb)
      clear HO153
      clear BK148
      clear HB
      have HO153 := n0_
      have BK148 := n1_
      have HB := n2_
      clear n0_ n1_ n2_
      (try clear hb)
      (try clear hb2)
      (try clear hk)
      (try clear hi)
      (try clear A11)
      refine hK.out _ _ (HS0_) (fun hHeld => ?_)
      clear hK K
      refine norm_ (a' := ?_) ?_ ?_
      rotate_left
      ·show Act.put _ (some 28) _ = _
       simp only [Act.put, List.setIfInBounds_toArray, List.set_cons_zero, List.set_cons_succ, i64_w, i32_w]
       rfl
      refine pure_ (i := 9) (N := some 29) (v := ?_) (a' := ?_) #[Y,Y,Y,Y,Y,Y,Y,Y,Y,Y,N,N,N] rfl rfl (any_of HT_.out (by kernel_rfl)) (fun _ _ _ h => h) (Or.inl ⟨by rfl, ?_⟩) ?_ ?_
      rotate_left
      ·intro w'
       go_simp
       with_reducible rfl
      rotate_left
      ·simp only [Act.put, List.setIfInBounds_toArray, List.set_cons_zero, List.set_cons_succ, i64_w, i32_w]
       rfl
      refine pure_ (i := 10) (N := some 30) (v := ?_) (a' := ?_) #[Y,Y,Y,Y,Y,Y,Y,Y,Y,Y,Y,N,N] rfl rfl (any_of HT_.out (by kernel_rfl)) (fun _ _ _ h => h) (Or.inl ⟨by rfl, ?_⟩) ?_ ?_
      rotate_left
      ·intro w'
       go_simp
       with_reducible rfl
      rotate_left
      ·simp only [Act.put, List.setIfInBounds_toArray, List.set_cons_zero, List.set_cons_succ, i64_w, i32_w]
       rfl
      refine one_ (i := 11) (N := none) #[Y,Y,Y,Y,Y,Y,Y,Y,Y,Y,Y,Y,N] rfl rfl (one_of HT_.out (by kernel_rfl)) (by decide) (fun K hK => ?_)
      have hs17 : w16.cell? ⟨gb148, 0, none⟩ = some (.int .u64 0) := (blk_cell BK148.out 0).trans rfl
      have hfs17 := blk_frozen BK148.out 0
      have hs18 : w16.cell? ⟨gb148, 1, none⟩ = some (.int .i64 0) := (blk_cell BK148.out 1).trans rfl
      have hfs18 := blk_frozen BK148.out 1
      refine skip_ (w1 := ?_) (by rfl) rfl ?_ ?_
      rotate_left
      ·go_simp
       rfl
      refine hK.out _ _ (((cell_far (p := ⟨gb148, _, none⟩) (by first | exact Kd.own_blk (Kd.R_ne HO153.out BK148.out (by decide)) | (rw [add_block]; exact Kd.own_blk (Kd.R_ne HO153.out BK148.out (by decide))) | (show (Addr.add _ _).block ≠ _; rw [add_block]; exact Kd.own_blk (Kd.R_ne HO153.out BK148.out (by decide))) | (dsimp only; exact Kd.own_blk (Kd.R_ne HO153.out BK148.out (by decide)))) _).trans (((cell_far (p := ⟨gb148, _, none⟩) (by first | exact Kd.own_blk (Kd.R_ne HO153.out BK148.out (by decide)) | (rw [add_block]; exact Kd.own_blk (Kd.R_ne HO153.out BK148.out (by decide))) | (show (Addr.add _ _).block ≠ _; rw [add_block]; exact Kd.own_blk (Kd.R_ne HO153.out BK148.out (by decide))) | (dsimp only; exact Kd.own_blk (Kd.R_ne HO153.out BK148.out (by decide)))) _).trans (hHeld))))) (fun hHeld => ?_)
      clear hK K
      refine pure_ (i := 12) (N := some 3) (v := ?_) (a' := ?_) #[Y,Y,Y,Y,Y,Y,Y,Y,Y,Y,Y,Y,Y] rfl rfl (any_of HT_.out (by kernel_rfl)) (fun _ _ _ h => h) (Or.inl ⟨by rfl, ?_⟩) ?_ ?_
      rotate_left
      ·intro w'
       go_simp
       with_reducible rfl
      rotate_left
      ·simp only [Act.put, List.setIfInBounds_toArray, List.set_cons_zero, List.set_cons_succ, i64_w, i32_w]
       rfl
      refine done_ (done_of HT_.out (by kernel_rfl)) ?_
      (try clear hHeld)
      (try clear c5b0); (try clear c5b1); (try clear c5b2); (try clear c5b3); (try clear c5b4); (try clear c5b5); (try clear c5b6)
      try go_wp2
      refine bodyPost_ret (results_ct rfl _ _ gb148 26 #[.int .u64 t155, .int .i64 t156] (0, 0) _ rfl (by (with_reducible repeat (first | refine blk_drewN ?_ _ | refine blk_drew ?_ | refine blk_alloc ?_ _)); refine blk_put (cs := #[.int .u64 t155, .int .i64 0]) ?_ 1 _ rfl; (with_reducible repeat (first | refine blk_drewN ?_ _ | refine blk_drew ?_ | refine blk_alloc ?_ _)); refine blk_put (cs := #[.int .u64 0, .int .i64 0]) ?_ 0 _ rfl; (with_reducible repeat (first | refine blk_drewN ?_ _ | refine blk_drew ?_ | refine blk_alloc ?_ _)); exact BK148.out) Try.underlying26 rfl (by kernel_rfl)) rfl ?_
      exact ⟨rf_, by repeat (first | (with_reducible first | exact HB.out | apply below_alloc | apply pw_below_drewN | apply below_drew1 | refine below_set ?_ GE148.out) | exact HB.out)⟩
     ·rw [if_neg c9] at H
      exact absurd H (by simp)
    ·rw [if_neg c8] at H
     exact absurd H (by simp)
   ·replace c7 := Bool.eq_false_iff.mpr c7
    subst c7
    have H1 : (some (0, 0, 2)) = some (r1, r2, r3) := by rw [if_neg (show ¬ (false = true) by decide)] at H; exact H
    clear H
    have H := H1
    clear H1
    simp only [Option.some.injEq, Prod.mk.injEq] at H
    obtain ⟨rfl, rfl, rfl⟩ := H
    go_enter Try.func20, Try.ntmps20
    go_wp2_with (first | ((with_reducible refine gate_dst (N := 2) rfl ?_); refine box_event ?hg (N := 2) ?hd (cs := #[.int .u64 0, .int .i64 0]) (t := 26) ?hr ?_; (case hd => rfl); (case hg => rfl); (case hr => first | (go_simp; done) | (go_simp; rfl)); intro gb148 hg w19 hbox hb; have n0_ := Aside0.mk (below_step hB_ hb); have n1_ := Aside0.mk (hbox); have n2_ := Aside0.mk ((by rw [hg]; exact (below_size hB_) : w.heap.size ≤ gb148)); have n3_ := Aside0.mk ((by rw [hg]; exact (below_size hB_) : w.heap.size ≤ gb148)); clear HB; have HB := n0_; have BK148 := n1_; have GW148 := n2_; have GE148 := n3_; clear n0_ n1_ n2_ n3_; clear hb hbox hg) | ((with_reducible refine gate_callee (f := 31) rfl ?_); refine goesL_ (some 13) rfl rfl Try.func31 (by kernel_rfl) rfl #[.string (a0.extract 1 a0.size), .int .i64 1] rfl hA_ ?_; (with_reducible refine (col_numbers.calls k (a0.extract 1 a0.size) 1 t149 t150 false _ A6.out).mono ?_); rintro e w20 ⟨v152, rfl, ho0, hb⟩; refine ⟨_, rfl, ?_⟩; have n0_ := Aside0.mk (Kd.R_lower ho0 (below_size (by repeat (first | (with_reducible first | exact HB.out | apply below_alloc | apply pw_below_drewN | apply below_drew1 | refine below_set ?_ GE148.out) | exact HB.out)))); have n1_ := Aside0.mk (blk_below (g := gb148) (o := .cells #[.int .u64 0, .int .i64 0] 26 (0, 0)) (by (with_reducible repeat (first | refine blk_drewN ?_ _ | refine blk_drew ?_ | refine blk_alloc ?_ _)); exact BK148.out) hb); have n2_ := Aside0.mk (below_step (by repeat (first | (with_reducible first | exact HB.out | apply below_alloc | apply pw_below_drewN | apply below_drew1 | refine below_set ?_ GE148.out) | exact HB.out)) hb); clear BK148; clear HB; have HO153 := n0_; have BK148 := n1_; have HB := n2_; clear n0_ n1_ n2_; (try clear hb); (try clear hb2); (try clear hk); (try clear hi); (try clear ho0); (try clear A6); have hcz21_0 : w20.cell? ⟨gb148, 0, none⟩ = some (.int .u64 0) := (blk_cell BK148.out 0).trans rfl; have hcz21_1 : w20.cell? ⟨gb148, 1, none⟩ = some (.int .i64 0) := (blk_cell BK148.out 1).trans rfl; have hfz21_0 := blk_frozen BK148.out 0; have hfz21_1 := blk_frozen BK148.out 1))
    refine bodyPost_ret (results_ct rfl _ _ gb148 26 #[.int .u64 0, .int .i64 0] (0, 0) _ rfl (by (with_reducible repeat (first | refine blk_drewN ?_ _ | refine blk_drew ?_ | refine blk_alloc ?_ _)); refine blk_put (cs := #[.int .u64 0, .int .i64 0]) ?_ 1 _ rfl; (with_reducible repeat (first | refine blk_drewN ?_ _ | refine blk_drew ?_ | refine blk_alloc ?_ _)); refine blk_put (cs := #[.int .u64 0, .int .i64 0]) ?_ 0 _ rfl; (with_reducible repeat (first | refine blk_drewN ?_ _ | refine blk_drew ?_ | refine blk_alloc ?_ _)); exact BK148.out) Try.underlying26 rfl (by kernel_rfl)) rfl ?_
    exact ⟨rf_, by repeat (first | (with_reducible first | exact HB.out | apply below_alloc | apply pw_below_drewN | apply below_drew1 | refine below_set ?_ GE148.out) | exact HB.out)⟩
  ·rw [if_neg c5] at H
   exact absurd H (by simp)

-- NOT PRINTED: function 35 (col_Lease)

/-! ### col_Unlease: function 22 -/
def col_Unlease.c (k : Nat) (l0 : List (S51)) (a1 : ByteArray) : Option (List (S51) × Int) :=
 (col_Leases.f k l0).bind fun c => if c.2 ≠ 0 ∨ c.1.toList ≠ a1.toList then some ([], 2) else some (l0, 0)
theorem col_Unlease.c_mono (l0 : List (S51)) (a1 : ByteArray) (k : Nat) : LeO (col_Unlease.c k l0 a1) (col_Unlease.c (k + 1) l0 a1) := by
 unfold col_Unlease.c
 exact LeO.bind (col_Leases.mono _ _) (fun _ => LeO.refl _)
mutual
def col_Unlease.l0 : Nat → ByteArray → List (S51) → ByteArray → Option ((List (S51)) × Int)
 | 0, _, _, _ => none
 | k + 1, x0, x4, x5 => if x5.toList = ([] : List UInt8) then (col_Unlease.j1 k x0 x4 x5 false) else (col_Unlease.j1 k x0 x4 x5 (decide ((x4.length : Int) ≤ 5)))
def col_Unlease.j1 : Nat → ByteArray → List (S51) → ByteArray → Bool → Option ((List (S51)) × Int)
 | 0, _, _, _, _ => none
 | k + 1, x0, x4, x5, x16 => if x16 = true then ((col_numbers.f k x5 3).bind fun bt158 => (if bt158.2.2 = true then (if 0 < (bt158.1.length : Int) then (if 1 < (bt158.1.length : Int) then (if 2 < (bt158.1.length : Int) then (if x4.length < 5864062014805 then (col_Unlease.l0 k x0 (x4 ++ [(⟨rd bt158.1 0, rd bt158.1 1, rd bt158.1 2⟩ : S51)]) bt158.2.1) else (none)) else (none)) else (none)) else (none)) else (some (([] : List (S51)), 2)))) else ((col_Unlease.c k x4 x0).bind fun bt169 => (some (bt169.1, bt169.2)))
end
def col_Unlease.f (k : Nat) (a0 : ByteArray) : Option ((List (S51)) × Int) := col_Unlease.l0 k a0 ([] : List (S51)) a0
theorem col_Unlease.mono_l : ∀ k, (∀ y0 y1 y2, LeO (col_Unlease.l0 k y0 y1 y2) (col_Unlease.l0 (k + 1) y0 y1 y2)) ∧ (∀ y0 y1 y2 y3, LeO (col_Unlease.j1 k y0 y1 y2 y3) (col_Unlease.j1 (k + 1) y0 y1 y2 y3))
 | 0 => ⟨fun _ _ _ r h => by simp [col_Unlease.l0] at h, fun _ _ _ _ r h => by simp [col_Unlease.j1] at h⟩
 | k + 1 => by
  obtain ⟨ih0, ih1⟩ := col_Unlease.mono_l k
  refine ⟨?_, ?_⟩
  ·intro y0 y1 y2
   unfold col_Unlease.l0
   repeat' first
   | (with_reducible exact ih0 _ _ _)
   | (with_reducible exact ih1 _ _ _ _)
   | (with_reducible exact col_Unlease.c_mono _ _ _)
   | (with_reducible exact col_numbers.mono _ _ _)
   | (with_reducible exact LeO.refl _)
   | (with_reducible exact LeO.none _)
   | (with_reducible refine LeO.ite ?_ ?_)
   | (with_reducible refine LeO.bind ?_ (fun _ => ?_))
   | exact ih0 _ _ _
   | exact ih1 _ _ _ _
   | exact col_Unlease.c_mono _ _ _
   | exact col_numbers.mono _ _ _
   | exact LeO.none _
   | refine LeO.ite ?_ ?_
   | refine LeO.bind ?_ (fun _ => ?_)
  ·intro y0 y1 y2 y3
   unfold col_Unlease.j1
   repeat' first
   | (with_reducible exact ih0 _ _ _)
   | (with_reducible exact ih1 _ _ _ _)
   | (with_reducible exact col_Unlease.c_mono _ _ _)
   | (with_reducible exact col_numbers.mono _ _ _)
   | (with_reducible exact LeO.refl _)
   | (with_reducible exact LeO.none _)
   | (with_reducible refine LeO.ite ?_ ?_)
   | (with_reducible refine LeO.bind ?_ (fun _ => ?_))
   | exact ih0 _ _ _
   | exact ih1 _ _ _ _
   | exact col_Unlease.c_mono _ _ _
   | exact col_numbers.mono _ _ _
   | exact LeO.none _
   | refine LeO.ite ?_ ?_
   | refine LeO.bind ?_ (fun _ => ?_)
theorem col_Unlease.mono : ∀ a0 k, LeO (col_Unlease.f k a0) (col_Unlease.f (k + 1) a0) := by
 intro a0 k
 obtain ⟨ih0, ih1⟩ := col_Unlease.mono_l k
 unfold col_Unlease.f
 repeat' first
   | (with_reducible exact ih0 _ _ _)
   | (with_reducible exact ih1 _ _ _ _)
   | (with_reducible exact col_Unlease.c_mono _ _ _)
   | (with_reducible exact col_numbers.mono _ _ _)
   | (with_reducible exact LeO.refl _)
   | (with_reducible exact LeO.none _)
   | (with_reducible refine LeO.ite ?_ ?_)
   | (with_reducible refine LeO.bind ?_ (fun _ => ?_))
   | exact ih0 _ _ _
   | exact ih1 _ _ _ _
   | exact col_Unlease.c_mono _ _ _
   | exact col_numbers.mono _ _ _
   | exact LeO.none _
   | refine LeO.ite ?_ ?_
   | refine LeO.bind ?_ (fun _ => ?_)
set_option maxHeartbeats 1600000 in
set_option maxRecDepth 100000 in
theorem col_Unlease.good (k : Nat) (A0 : Option Addr) (c0 : Nat) (l0 : List (S51)) (s is : ByteArray) (w : World) (hr0 : Kd.C k51 w A0 l0.length l0) (hc0 : l0.length ≤ c0) (h : col_Leases.f k l0 = some (is, 0)) (hs : is.toList = s.toList) :
  Calls Try.prog 35 #[.slice A0 l0.length c0, .string s, .func (.func 15) #[] #[]] w fun e' w' => e' = .returned (.tuple #[.slice A0 l0.length c0, .int .i64 0]) ∧ Below w.heap.size w w' := by
 have HC := Lib.hid h
 have HR := Lib.hid hr0
 have HL := Lib.hid hc0
 have s1_ : (is.toList == s.toList) = true := beq_iff_eq.mpr hs
 have s2_ : (is.toList != s.toList) = false := bne_eq_false_iff_eq.mpr hs
 clear h hs hr0 hc0
 go_enter Try.func35, Try.ntmps35
 go_wp2_with (fail)
 refine (col_Leases.calls k A0 c0 l0 is 0 w HR.out HL.out HC.out).mono ?_
 rintro e w2 ⟨rfl, hb⟩
 have HB2 := Aside0.mk hb
 clear hb
 go_wp2
 go_ret2
 exact ⟨rfl, HB2.out⟩
set_option maxHeartbeats 1600000 in
set_option maxRecDepth 100000 in
theorem col_Unlease.bad (k : Nat) (A0 : Option Addr) (c0 : Nat) (l0 : List (S51)) (s is : ByteArray) (ee : Int) (w : World) (hr0 : Kd.C k51 w A0 l0.length l0) (hc0 : l0.length ≤ c0) (h : col_Leases.f k l0 = some (is, ee)) (hs : ee ≠ 0 ∨ is.toList ≠ s.toList) :
  Calls Try.prog 35 #[.slice A0 l0.length c0, .string s, .func (.func 15) #[] #[]] w fun e' w' => e' = .returned (.tuple #[.slice none 0 0, .int .i64 2]) ∧ Below w.heap.size w w' := by
 have HC := Lib.hid h
 have HR := Lib.hid hr0
 have HL := Lib.hid hc0
 have HS := Lib.hid hs
 clear h hs hr0 hc0
 go_enter Try.func35, Try.ntmps35
 go_wp2_with (fail)
 refine (col_Leases.calls k A0 c0 l0 is ee w HR.out HL.out HC.out).mono ?_
 rintro e w2 ⟨rfl, hb⟩
 have HB2 := Aside0.mk hb
 clear hb
 by_cases h1 : ee = 0
 ·subst h1
  have hs1 := HS.out.resolve_left (fun x => x rfl)
  have s1_ : (is.toList == s.toList) = false := beq_eq_false_iff_ne.mpr hs1
  have s2_ : (is.toList != s.toList) = true := bne_iff_ne.mpr hs1
  clear hs1
  go_wp2
  go_ret2
  exact ⟨rfl, HB2.out⟩
 ·have e1_ : (ee == 0) = false := beq_eq_false_iff_ne.mpr h1
  have e2_ : (ee != 0) = true := bne_iff_ne.mpr h1
  clear h1
  go_wp2
  go_ret2
  exact ⟨rfl, HB2.out⟩
theorem col_Unlease.chk (k : Nat) (n : Nat) (A0 : Option Addr) (c0 : Nat) (l0 : List (S51)) (s : ByteArray) (r1 : List (S51)) (r2 : Int) (w : World) (hr : Kd.R k51 51 w n (fun _ => True) (.slice A0 l0.length c0) l0) (h : col_Unlease.c k l0 s = some (r1, r2)) :
  Calls Try.prog 35 #[.slice A0 l0.length c0, .string s, .func (.func 15) #[] #[]] w fun e' w' => ∃ v0_ : Value, e' = .returned (.tuple #[v0_, .int .i64 r2]) ∧ Kd.R k51 51 w' n (fun _ => True) v0_ r1 ∧ Below w.heap.size w w' := by
 unfold col_Unlease.c at h
 replace h := Option.bind_eq_some_iff.mp h
 obtain ⟨⟨is, ee⟩, hC, h⟩ := h
 have hh := Kd.R_reads' hr
 by_cases hb : ee ≠ 0 ∨ is.toList ≠ s.toList
 ·rw [if_pos hb] at h
  simp only [Option.some.injEq, Prod.mk.injEq] at h
  obtain ⟨rfl, rfl⟩ := h
  refine (col_Unlease.bad k A0 c0 l0 s is ee w hh.2.2 hh.2.1 hC hb).mono ?_
  rintro e w2 ⟨rfl, hb⟩
  exact ⟨_, rfl, Kd.R_nil _ _ _ _ _, hb⟩
 ·rw [if_neg hb] at h
  simp only [Option.some.injEq, Prod.mk.injEq] at h
  obtain ⟨rfl, rfl⟩ := h
  have he : ee = 0 := Classical.not_not.1 fun e => hb (Or.inl e)
  subst he
  refine (col_Unlease.good k A0 c0 l0 s is w hh.2.2 hh.2.1 hC (Classical.not_not.1 fun e => hb (Or.inr e))).mono ?_
  rintro e w2 ⟨rfl, hb⟩
  exact ⟨_, rfl, Kd.R_below hr hb, hb⟩
def col_Unlease.T7 : Bool × List (List Nat × List Nat) := (true, [([], []), ([], []), ([1], [1]), ([2], [2]), ([], []), ([4], [4]), ([5], [5]), ([], []), ([7], [7]), ([8], [8]), ([3, 6, 9], [3, 6, 9]), ([10], [10]), ([0, 11], [0, 11]), ([12, 12, 0, 1, 2, 3, 4, 5, 6, 7, 8, 9, 10, 11, 12], [0, 12])])
def col_Unlease.B7 : List Nat := [0, 0, 2, 6, 0, 16, 48, 0, 128, 384, 1022, 2046, 4095, 8191]
theorem col_Unlease.tab7 : rtab .any (opsOf Try.f22 7) = col_Unlease.T7 := by kernel_rfl
theorem col_Unlease.bits7 : waitsOk col_Unlease.T7.2 col_Unlease.B7 = true := by kernel_rfl
set_option maxHeartbeats 8000000 in
set_option maxRecDepth 100000 in
theorem col_Unlease.calls (k : Nat) (a0 : ByteArray) (r1 : List (S51)) (r2 : Int) (w : World) (h : col_Unlease.f k a0 = some (r1, r2)) :
  Calls Try.prog 22 #[.string a0] w fun e w' => ∃ v0_ : Value, e = .returned (.tuple #[v0_, .int .i64 r2]) ∧ Kd.R k51 51 w' w.heap.size (fun _ => True) v0_ r1 ∧ Below w.heap.size w w' := by
 have hu51 := Try.underlying51
 have HB := Aside0.mk (Below.refl w.heap.size w)
 have H : (col_Unlease.l0 k a0 ([] : List (S51)) a0) = some (r1, r2) := h
 clear h
 have H' := Aside0.mk H
 clear H
 go_enter Try.func22, Try.ntmps22
 go_wp2
 go_loopg [4, 5] k (fun kq v4 v5 w' => ∃ (x4_1 : List (S51)) (x5_1 : ByteArray), v5 = .string x5_1 ∧ Aside0 (col_Unlease.l0 kq a0 x4_1 x5_1 = some (r1, r2)) ∧ Aside0 (kq ≤ k) ∧ Aside0 (Kd.R k51 51 w' w.heap.size (fun _ => True) v4 x4_1) ∧ Aside0 (Below w.heap.size w w'))
 case atStart => exact ⟨(([] : List (S51))), (a0), rs_, H', ⟨Nat.le_refl _⟩, ⟨by first | exact Kd.R_nil _ _ _ _ _ | exact Kd.N_nil _ _ _ _ _ | exact Kd.V_nil _ _ _ _ _ | exact Kd.Q_nil _ _ _ _ _ | exact Kd.S_nil _ _ _ _ _⟩, ⟨hB_⟩⟩
 case round =>
  clear H'
  obtain ⟨x4_1, x5_1, rfl, HA, HK1, HO_4, HB⟩ := hrel
  cases gk with
  | zero => exact absurd HA.out (by simp [col_Unlease.l0])
  | succ k1 =>
   have H := HA.out
   clear HA
   simp only [col_Unlease.l0] at H
   have HC2 := Aside0.mk H
   clear H
   go_upto_region 3 with (fail)
   go_cut [16] (fun v16 wc => ∃ (kq : Nat) (x16_1 : Bool), v16 = .bool x16_1 ∧ Aside0 (col_Unlease.j1 kq a0 x4_1 x5_1 x16_1 = some (r1, r2)) ∧ Aside0 (kq ≤ k1) ∧ Aside0 (Kd.R k51 51 wc w.heap.size (fun _ => True) u4 x4_1) ∧ Aside0 (Below w.heap.size w wc))
   case first =>
    have H := HC2.out
    clear HC2
    by_cases c3 : x5_1.toList = ([] : List UInt8)
    ·rw [if_pos c3] at H
     have c3b0 : (x5_1.toList == ([] : List UInt8)) = true := beq_iff_eq.mpr c3
     have c3b1 : (x5_1.toList != ([] : List UInt8)) = false := bne_eq_false_iff_eq.mpr c3
     clear c3
     (first | rw [c3b0] | (simp only [i64_w, i32_w]; rw [c3b0]) | skip)
     have H' := Aside0.mk H
     clear H
     go_wp2
     go_meet
     case rel => exact ⟨_, (false), rs_, hH_, ⟨by have := HK1.out; first | omega | exact Nat.le_refl _⟩, ⟨by (with_reducible repeat (first | apply Kd.R_alloc | apply Kd.R_drewN | apply Kd.R_drew)); exact HO_4.out⟩, ⟨hB_⟩⟩
    ·rw [if_neg c3] at H
     have c3b0 : (x5_1.toList == ([] : List UInt8)) = false := beq_eq_false_iff_ne.mpr c3
     have c3b1 : (x5_1.toList != ([] : List UInt8)) = true := bne_iff_ne.mpr c3
     (first | rw [c3b0] | (simp only [i64_w, i32_w]; rw [c3b0]) | skip)
     have H' := Aside0.mk H
     clear H
     obtain ⟨Ao4, co4, eo4⟩ := Kd.R_slice HO_4.out
     subst eo4
     go_wp2
     go_meet
     case rel => exact ⟨_, (decide ((x4_1.length : Int) ≤ 5)), rs_, hH_, ⟨by have := HK1.out; first | omega | exact Nat.le_refl _⟩, ⟨by (with_reducible repeat (first | apply Kd.R_alloc | apply Kd.R_drewN | apply Kd.R_drew)); exact HO_4.out⟩, ⟨hB_⟩⟩
   case rest =>
    clear HC2
    try clear c2
    try clear p2
    try clear c3
    try clear c3b0
    try clear c3b1
    obtain ⟨kq, x16_1, rfl, HA, HJ1, HO_4, HB⟩ := hcut
    cases kq with
    | zero => exact absurd HA.out (by simp [col_Unlease.j1])
    | succ kj1 =>
     have H := HA.out
     clear HA
     simp only [col_Unlease.j1] at H
     by_cases c5 : x16_1 = true
     ·subst c5
      have H1 : ((col_numbers.f kj1 x5_1 3).bind fun bt158 => (if bt158.2.2 = true then (if 0 < (bt158.1.length : Int) then (if 1 < (bt158.1.length : Int) then (if 2 < (bt158.1.length : Int) then (if x4_1.length < 5864062014805 then (col_Unlease.l0 kj1 a0 (x4_1 ++ [(⟨rd bt158.1 0, rd bt158.1 1, rd bt158.1 2⟩ : S51)]) bt158.2.1) else (none)) else (none)) else (none)) else (none)) else (some (([] : List (S51)), 2)))) = some (r1, r2) := by rw [if_pos rfl] at H; exact H
      clear H
      have H := H1
      clear H1
      replace H := Option.bind_eq_some_iff.mp H
      obtain ⟨⟨t158, t159, t160⟩, A60, H⟩ := H
      try dsimp only at H
      have A6 := Aside0.mk A60
      clear A60
      by_cases c7 : t160 = true
      ·subst c7
       have H1 : (if 0 < (t158.length : Int) then (if 1 < (t158.length : Int) then (if 2 < (t158.length : Int) then (if x4_1.length < 5864062014805 then (col_Unlease.l0 kj1 a0 (x4_1 ++ [(⟨rd t158 0, rd t158 1, rd t158 2⟩ : S51)]) t159) else (none)) else (none)) else (none)) else (none)) = some (r1, r2) := by rw [if_pos rfl] at H; exact H
       clear H
       have H := H1
       clear H1
       by_cases c8 : 0 < (t158.length : Int)
       ·rw [if_pos c8] at H
        have c8b0 : decide (0 < (t158.length : Int)) = true := decide_eq_true c8
        have c8b1 : decide (0 < t158.length) = true := decide_eq_true (by omega)
        clear c8
        by_cases c9 : 1 < (t158.length : Int)
        ·rw [if_pos c9] at H
         have c9b0 : decide (1 < (t158.length : Int)) = true := decide_eq_true c9
         have c9b1 : decide (1 < t158.length) = true := decide_eq_true (by omega)
         clear c9
         by_cases c10 : 2 < (t158.length : Int)
         ·rw [if_pos c10] at H
          have c10b0 : decide (2 < (t158.length : Int)) = true := decide_eq_true c10
          have c10b1 : decide (2 < t158.length) = true := decide_eq_true (by omega)
          clear c10
          by_cases c11 : x4_1.length < 5864062014805
          ·rw [if_pos c11] at H
           have LMc11 := Aside0.mk c11
           clear c11
           obtain ⟨y166, hy166⟩ : ∃ y_ : List (S51), y_ = (x4_1 ++ [(⟨rd t158 0, rd t158 1, rd t158 2⟩ : S51)]) := ⟨_, rfl⟩
           replace H : (col_Unlease.l0 kj1 a0 y166 t159) = some (r1, r2) := by first | (rw [hy166]; with_reducible exact H) | (have H2_ := (Option.bind_some _ _).symm.trans H; rw [hy166]; with_reducible exact H2_) | (have H2_ := (Option.bind_some _ _).symm.trans H; with_reducible exact H2_) | with_reducible exact H | (rw [hy166]; exact H) | exact H
           have Ny166 := Aside0.mk hy166
           clear hy166
           have H' := Aside0.mk H
           clear H
           try go_wp2_with (first | ((with_reducible refine gate_callee (f := 31) rfl ?_); refine goesL_ (some 19) rfl rfl Try.func31 (by kernel_rfl) rfl #[.string x5_1, .int .i64 3] rfl hA_ ?_; (with_reducible refine (col_numbers.calls kj1 x5_1 3 t158 t159 true _ A6.out).mono ?_); rintro e w12 ⟨v161, rfl, ho0, hb⟩; refine ⟨_, rfl, ?_⟩; have n0_ := Aside0.mk (Kd.R_below (by (with_reducible repeat (first | apply Kd.R_alloc | apply Kd.R_drewN | apply Kd.R_drew)); exact HO_4.out) hb); have n1_ := Aside0.mk (Kd.R_lower ho0 (below_size hB_)); have n2_ := Aside0.mk (below_step hB_ hb); clear HO_4; clear HB; have HO_4 := n0_; have HO162 := n1_; have HB := n2_; clear n0_ n1_ n2_; (try clear hb); (try clear hb2); (try clear hk); (try clear hi); (try clear ho0); (try clear A6)))
           have n0_ := Aside0.mk (Kd.R_drew HO_4.out)
           have n1_ := Aside0.mk (Kd.R_drew HO162.out)
           have n2_ := Aside0.mk (below_drew1 HB.out)
           clear HO_4
           clear HO162
           clear HB
           have HO_4 := n0_
           have HO162 := n1_
           have HB := n2_
           clear n0_ n1_ n2_
           obtain ⟨Ao14, co14, eo14⟩ := Kd.R_slice HO162.out
           (first | subst eo14 | (injection eo14 with f1_ f2_ f3_; have f4_ := f1_.symm; have f5_ := f3_.symm; clear f1_ f2_ f3_; subst f4_; subst f5_))
           have p163 : 0 ≤ (0 : Int) := (by omega)
           have q163 : 0 < (t158.length : Int) := of_decide_eq_true as_
           obtain ⟨ad163, e163, hx163_0⟩ := Kd.at_int (Kd.R_reads' HO162.out).2.2 0 p163 q163
           cases e163
           have qi163 : (0 < t158.length) = True := eq_true (by omega)
           (try rw [show ((0 : Int)).toNat = 0 from rfl] at hx163_0)
           (try rw [Addr.add_zero'] at hx163_0)
           replace p163 := eq_true p163
           replace q163 := eq_true q163
           have p164 : 0 ≤ (1 : Int) := (by omega)
           have q164 : 1 < (t158.length : Int) := of_decide_eq_true as_
           obtain ⟨ad164, e164, hx164_0⟩ := Kd.at_int (Kd.R_reads' HO162.out).2.2 1 p164 q164
           obtain rfl : ad163 = ad164 := (by injection e164)
           (try simp only [show (1 : Int).toNat = 1 from rfl, Nat.reduceMul, Nat.reduceEqDiff, Go.Addr.add, ↓reduceIte] at hx164_0)
           have qi164 : (1 < t158.length) = True := eq_true (by omega)
           (try rw [show ((1 : Int)).toNat = 1 from rfl] at hx164_0)
           replace p164 := eq_true p164
           replace q164 := eq_true q164
           have p165 : 0 ≤ (2 : Int) := (by omega)
           have q165 : 2 < (t158.length : Int) := of_decide_eq_true as_
           obtain ⟨ad165, e165, hx165_0⟩ := Kd.at_int (Kd.R_reads' HO162.out).2.2 2 p165 q165
           obtain rfl : ad163 = ad165 := (by injection e165)
           (try simp only [show (2 : Int).toNat = 2 from rfl, Nat.reduceMul, Nat.reduceEqDiff, Go.Addr.add, ↓reduceIte] at hx165_0)
           have qi165 : (2 < t158.length) = True := eq_true (by omega)
           (try rw [show ((2 : Int)).toNat = 2 from rfl] at hx165_0)
           replace p165 := eq_true p165
           replace q165 := eq_true q165
           refine start_ (n := 14) (S := fun w' => w'.cell? ad163 = some (.int .u64 (rd t158 0)) ∧ w'.cell? ⟨ad163.block, ad163.off + 1, none⟩ = some (.int .u64 (rd t158 1)) ∧ w'.cell? ⟨ad163.block, ad163.off + 2, none⟩ = some (.int .u64 (rd t158 2))) (ds := [11, 12]) #[N,N,N,N,N,N,N,N,N,N,N,N,N,N] (by kernel_rfl) rfl rfl ⟨hx163_0, hx164_0, hx165_0⟩ (fun hHeld => ?_); refine with_tabW col_Unlease.tab7 col_Unlease.bits7 (fun HT_ HW_ => ?_)
           generalize w12.drew = w13 at HO_4 HO162 HB hx163_0 hx164_0 hx165_0 hHeld ⊢
           refine pure_ (i := 0) (N := some 25) (v := ?_) (a' := ?_) #[Y,N,N,N,N,N,N,N,N,N,N,N,N,N] rfl rfl (any_of HT_.out (by kernel_rfl)) (fun _ _ _ h => h) (Or.inl ⟨by rfl, ?_⟩) ?_ ?_
           rotate_left
           ·intro w'
            go_simp
            with_reducible rfl
           rotate_left
           ·simp only [Act.put, List.setIfInBounds_toArray, List.set_cons_zero, List.set_cons_succ, i64_w, i32_w]
            rfl
           refine pure_ (i := 1) (N := some 26) (v := ?_) (a' := ?_) #[Y,Y,N,N,N,N,N,N,N,N,N,N,N,N] rfl rfl (any_of HT_.out (by kernel_rfl)) (fun _ _ _ h => h) (Or.inl ⟨by rfl, ?_⟩) ?_ ?_
           rotate_left
           ·intro w'
            go_simp
            with_reducible rfl
           rotate_left
           ·simp only [Act.put, List.setIfInBounds_toArray, List.set_cons_zero, List.set_cons_succ, i64_w, i32_w]
            rfl
           refine pure_ (i := 2) (N := some 27) (v := ?_) (a' := ?_) #[Y,Y,Y,N,N,N,N,N,N,N,N,N,N,N] rfl rfl (any_of HT_.out (by kernel_rfl)) (fun _ _ _ h => h) (Or.inl ⟨by rfl, ?_⟩) ?_ ?_
           rotate_left
           ·intro w'
            go_simp
            with_reducible rfl
           rotate_left
           ·simp only [Act.put, List.setIfInBounds_toArray, List.set_cons_zero, List.set_cons_succ, i64_w, i32_w]
            rfl
           refine pure_ (i := 4) (N := some 29) (v := ?_) (a' := ?_) #[Y,Y,Y,N,Y,N,N,N,N,N,N,N,N,N] rfl rfl (any_of HT_.out (by kernel_rfl)) (fun _ _ _ h => h) (Or.inl ⟨by rfl, ?_⟩) ?_ ?_
           rotate_left
           ·intro w'
            go_simp
            with_reducible rfl
           rotate_left
           ·simp only [Act.put, List.setIfInBounds_toArray, List.set_cons_zero, List.set_cons_succ, i64_w, i32_w]
            rfl
           refine pure_ (i := 5) (N := some 30) (v := ?_) (a' := ?_) #[Y,Y,Y,N,Y,Y,N,N,N,N,N,N,N,N] rfl rfl (any_of HT_.out (by kernel_rfl)) (fun _ _ _ h => h) (Or.inl ⟨by rfl, ?_⟩) ?_ ?_
           rotate_left
           ·intro w'
            go_simp
            with_reducible rfl
           rotate_left
           ·simp only [Act.put, List.setIfInBounds_toArray, List.set_cons_zero, List.set_cons_succ, i64_w, i32_w]
            rfl
           refine pure_ (i := 7) (N := some 32) (v := ?_) (a' := ?_) #[Y,Y,Y,N,Y,Y,N,Y,N,N,N,N,N,N] rfl rfl (any_of HT_.out (by kernel_rfl)) (fun _ _ _ h => h) (Or.inl ⟨by rfl, ?_⟩) ?_ ?_
           rotate_left
           ·intro w'
            go_simp
            with_reducible rfl
           rotate_left
           ·simp only [Act.put, List.setIfInBounds_toArray, List.set_cons_zero, List.set_cons_succ, i64_w, i32_w]
            rfl
           refine pure_ (i := 8) (N := some 33) (v := ?_) (a' := ?_) #[Y,Y,Y,N,Y,Y,N,Y,Y,N,N,N,N,N] rfl rfl (any_of HT_.out (by kernel_rfl)) (fun _ _ _ h => h) (Or.inl ⟨by rfl, ?_⟩) ?_ ?_
           rotate_left
           ·intro w'
            go_simp
            with_reducible rfl
           rotate_left
           ·simp only [Act.put, List.setIfInBounds_toArray, List.set_cons_zero, List.set_cons_succ, i64_w, i32_w]
            rfl
           refine take_ (i := 3) (N := some 28) (v := ?_) (a' := ?_) #[Y,Y,Y,Y,Y,Y,N,Y,Y,N,N,N,N,N] rfl rfl (take_ofW HT_.out HW_.out (by kernel_rfl)) (fun _ _ _ h => h) (Or.inl ⟨by rfl, ?_⟩) hHeld ?_ ?_
           rotate_left
           ·rintro w' ⟨s0, s1, s2⟩
            go_simp
            with_reducible rfl
           rotate_left
           ·simp only [Act.put, List.setIfInBounds_toArray, List.set_cons_zero, List.set_cons_succ, i64_w, i32_w]
            rfl
           refine take_ (i := 6) (N := some 31) (v := ?_) (a' := ?_) #[Y,Y,Y,Y,Y,Y,Y,Y,Y,N,N,N,N,N] rfl rfl (take_ofW HT_.out HW_.out (by kernel_rfl)) (fun _ _ _ h => h) (Or.inl ⟨by rfl, ?_⟩) hHeld ?_ ?_
           rotate_left
           ·rintro w' ⟨s0, s1, s2⟩
            go_simp
            with_reducible rfl
           rotate_left
           ·simp only [Act.put, List.setIfInBounds_toArray, List.set_cons_zero, List.set_cons_succ, i64_w, i32_w]
            rfl
           refine take_ (i := 9) (N := some 34) (v := ?_) (a' := ?_) #[Y,Y,Y,Y,Y,Y,Y,Y,Y,Y,N,N,N,N] rfl rfl (take_ofW HT_.out HW_.out (by kernel_rfl)) (fun _ _ _ h => h) (Or.inl ⟨by rfl, ?_⟩) hHeld ?_ ?_
           rotate_left
           ·rintro w' ⟨s0, s1, s2⟩
            go_simp
            with_reducible rfl
           rotate_left
           ·simp only [Act.put, List.setIfInBounds_toArray, List.set_cons_zero, List.set_cons_succ, i64_w, i32_w]
            rfl
           refine pure_ (i := 10) (N := some 35) (v := ?_) (a' := ?_) #[Y,Y,Y,Y,Y,Y,Y,Y,Y,Y,Y,N,N,N] rfl rfl (any_of HT_.out (by kernel_rfl)) (fun _ _ _ h => h) (Or.inl ⟨by rfl, ?_⟩) ?_ ?_
           rotate_left
           ·intro w'
            go_simp
            with_reducible rfl
           rotate_left
           ·simp only [Act.put, List.setIfInBounds_toArray, List.set_cons_zero, List.set_cons_succ, i64_w, i32_w]
            rfl
           refine last_ (i := 11) (N := some 36) #[Y,Y,Y,Y,Y,Y,Y,Y,Y,Y,Y,Y,N,N] rfl rfl (one_of HT_.out (by kernel_rfl)) (by decide) (fun K hK => ?_)
           refine value_ (w1 := ?_) (v := ?_) (by rfl) rfl ?_ ?_
           rotate_left 2
           ·go_simp
            constructor
            ·rfl
            ·rfl
           refine hK.out _ _ ?_
           clear hK K
           refine norm_ (a' := ?_) ?_ ?_
           rotate_left
           ·show Act.put _ (some 36) _ = _
            simp only [Act.put, List.setIfInBounds_toArray, List.set_cons_zero, List.set_cons_succ, i64_w, i32_w]
            rfl
           refine last_ (i := 12) (N := some 37) #[Y,Y,Y,Y,Y,Y,Y,Y,Y,Y,Y,Y,Y,N] rfl rfl (one_of HT_.out (by kernel_rfl)) (by decide) (fun K hK => ?_)
           refine Kd.R_append_step k51 (w0 := w) w.heap.size (by rfl) (.tmp 25) (.tmp 36) 27 51 (.agg #[(.int .u64 0), (.int .u64 0), (.int .u64 0)]) 24 rfl Try.underlying27 info51 rfl (by decide) (by omega) u4 x4_1 (⟨rd t158 0, rd t158 1, rd t158 2⟩ : S51) [.int .u64 (rd t158 0), .int .u64 (rd t158 1), .int .u64 (rd t158 2)] (fun _ => True) (fun _ => False) rfl rfl ?aP (fun _ hk => hk.elim) ?aF ?aO ?aB ?aS ?aL ?_
           (case aP => exact k51_mkM _ _ _ (⟨rd t158 0, rd t158 1, rd t158 2⟩ : S51))
           (case aB => exact hB_)
           (case aF => exact (fun _ _ => trivial))
           (case aO => exact (by (with_reducible repeat (first | apply Kd.R_alloc | apply Kd.R_drewN | apply Kd.R_drew)); exact HO_4.out))
           (case aS => exact (below_size hB_))
           (case aL => have := LMc11.out; omega)
           intro v167 w15 ho hb hg hat
           rw [← Ny166.out] at ho
           have n0_ := Aside0.mk (Kd.R_over' (by (with_reducible repeat (first | apply Kd.R_alloc | apply Kd.R_drewN | apply Kd.R_drew)); exact HO162.out) (Kd.R_typed (by (with_reducible repeat (first | apply Kd.R_alloc | apply Kd.R_drewN | apply Kd.R_drew)); exact HO_4.out)) (by decide) hg)
           have n1_ := Aside0.mk (hb)
           have n2_ := Aside0.mk (ho)
           clear HO162
           clear HB
           clear HO_4
           have HO162 := n0_
           have HB := n1_
           have HO168 := n2_
           clear n0_ n1_ n2_
           clear ho hb hg hat
           refine hK.out _ _ ?_
           clear hK K
           refine norm_ (a' := ?_) ?_ ?_
           rotate_left
           ·show Act.put _ (some 37) _ = _
            simp only [Act.put, List.setIfInBounds_toArray, List.set_cons_zero, List.set_cons_succ, i64_w, i32_w]
            rfl
           refine pure_ (i := 13) (N := some 4) (v := ?_) (a' := ?_) #[Y,Y,Y,Y,Y,Y,Y,Y,Y,Y,Y,Y,Y,Y] rfl rfl (any_of HT_.out (by kernel_rfl)) (fun _ _ _ h => h) (Or.inl ⟨by rfl, ?_⟩) ?_ ?_
           rotate_left
           ·intro w'
            go_simp
            with_reducible rfl
           rotate_left
           ·simp only [Act.put, List.setIfInBounds_toArray, List.set_cons_zero, List.set_cons_succ, i64_w, i32_w]
            rfl
           refine done_ (done_of HT_.out (by kernel_rfl)) ?_
           (try clear hHeld)
           try go_wp2
           go_roundg kj1
           case measure => have := HK1.out; have := HJ1.out; omega
           case rel => exact ⟨(y166), (t159), rs_, hH_, ⟨by have := HK1.out; have := HJ1.out; omega⟩, ⟨by (with_reducible repeat (first | apply Kd.R_alloc | apply Kd.R_drewN | apply Kd.R_drew)); exact HO168.out⟩, ⟨hB_⟩⟩
          ·rw [if_neg c11] at H
           exact absurd H (by simp)
         ·rw [if_neg c10] at H
          exact absurd H (by simp)
        ·rw [if_neg c9] at H
         exact absurd H (by simp)
       ·rw [if_neg c8] at H
        exact absurd H (by simp)
      ·replace c7 := Bool.eq_false_iff.mpr c7
       subst c7
       have H1 : (some (([] : List (S51)), 2)) = some (r1, r2) := by rw [if_neg (show ¬ (false = true) by decide)] at H; exact H
       clear H
       have H := H1
       clear H1
       simp only [Option.some.injEq, Prod.mk.injEq] at H
       obtain ⟨rfl, rfl⟩ := H
       go_wp2_with (first | ((with_reducible refine gate_callee (f := 31) rfl ?_); refine goesL_ (some 19) rfl rfl Try.func31 (by kernel_rfl) rfl #[.string x5_1, .int .i64 3] rfl hA_ ?_; (with_reducible refine (col_numbers.calls kj1 x5_1 3 t158 t159 false _ A6.out).mono ?_); rintro e w16 ⟨v161, rfl, ho0, hb⟩; refine ⟨_, rfl, ?_⟩; have n0_ := Aside0.mk (Kd.R_below (by (with_reducible repeat (first | apply Kd.R_alloc | apply Kd.R_drewN | apply Kd.R_drew)); exact HO_4.out) hb); have n1_ := Aside0.mk (Kd.R_lower ho0 (below_size hB_)); have n2_ := Aside0.mk (below_step hB_ hb); clear HO_4; clear HB; have HO_4 := n0_; have HO162 := n1_; have HB := n2_; clear n0_ n1_ n2_; (try clear hb); (try clear hb2); (try clear hk); (try clear hi); (try clear ho0); (try clear A6)))
       go_ret2
       exact ⟨_, by first | rfl | (simp [errW_none, errW_some] <;> rfl) | (simp (disch := omega) only [← i64_w, IntWalk.i64_in]; rfl) | (simp (disch := omega) only [← i64_w, IntWalk.i64_in]; rfl) | (simp [*, errW_none, errW_some] <;> rfl), by first | exact Kd.R_nil _ _ _ _ _ | exact Kd.N_nil _ _ _ _ _ | exact Kd.V_nil _ _ _ _ _ | exact Kd.Q_nil _ _ _ _ _ | exact Kd.S_nil _ _ _ _ _, hB_⟩
     ·replace c5 := Bool.eq_false_iff.mpr c5
      subst c5
      have H1 : ((col_Unlease.c kj1 x4_1 a0).bind fun bt169 => (some (bt169.1, bt169.2))) = some (r1, r2) := by rw [if_neg (show ¬ (false = true) by decide)] at H; exact H
      clear H
      have H := H1
      clear H1
      replace H := Option.bind_eq_some_iff.mp H
      obtain ⟨⟨t169, t170⟩, A170, H⟩ := H
      try dsimp only at H
      have A17 := Aside0.mk A170
      clear A170
      simp only [Option.some.injEq, Prod.mk.injEq] at H
      obtain ⟨rfl, rfl⟩ := H
      obtain ⟨Ao18, co18, eo18⟩ := Kd.R_slice HO_4.out
      subst eo18
      go_wp2_with (first | ((with_reducible refine gate_callee (f := 35) rfl ?_); refine goesL_ (some 41) rfl rfl Try.func35 (by kernel_rfl) rfl #[.slice Ao18 x4_1.length co18, .string a0, .func (.func 15) #[] #[]] rfl hA_ ?_; (with_reducible refine (col_Unlease.chk kj1 w.heap.size _ _ x4_1 a0 t169 t170 _ ?side1 A17.out).mono ?_); (case side1 => (with_reducible repeat (first | apply Kd.R_alloc | apply Kd.R_drewN | apply Kd.R_drew)); exact HO_4.out); rintro e w19 ⟨v171, rfl, ho0, hb⟩; refine ⟨_, rfl, ?_⟩; have n1_ := Aside0.mk ho0; have n2_ := Aside0.mk (below_step hB_ hb); clear HB; have HO172 := n1_; have HB := n2_; clear n1_ n2_; (try clear hb); (try clear ho0); (try clear A17)))
      go_ret2
      exact ⟨_, by first | rfl | (simp [errW_none, errW_some] <;> rfl) | (simp (disch := omega) only [← i64_w, IntWalk.i64_in]; rfl) | (simp (disch := omega) only [← i64_w, IntWalk.i64_in]; rfl) | (simp [*, errW_none, errW_some] <;> rfl), by (with_reducible repeat (first | apply Kd.R_alloc | apply Kd.R_drewN | apply Kd.R_drew)); exact Kd.R_mono HO172.out (fun _ hk => trivial), hB_⟩

end Go.Proofs.Yteijlcnjnooiiaa.P
