-- Printed by a program of this session's own (wip/tools/pprint.sh, over the kit's print, with given contracts): not typed by hand.
import Derived.Test.YtcdadhgcjkgnoaaPx0
import Derived.Test.YtcdadhgcjkgnoaaPx3
import Derived.Test.YtcdadhgcjkgnoaaPx4
import Derived.Test.YtcdadhgcjkgnoaaPx6
namespace Go.Proofs.Ytcdadhgcjkgnoaa.P
open Go.RowKit Go.Proofs.YtcdadhgcjkgnoaaW.PrintWords Go.Proofs.YtcdadhgcjkgnoaaW.PrintLast Go.Proofs.YtcdadhgcjkgnoaaW.PrintMore
set_option linter.unusedVariables false
set_option linter.unusedSimpArgs false
-- SQUEEZED3

/-! ### api_Write: function 58 -/
theorem api_Write.fin (tmps : Array Value) (W : World) (g : Nat) (c0 c1 : Value) (hp : tmps.getD 6 undef = .pointer (some ⟨g, 0, none⟩)) (hg : W.heap[g]? = some (.cells #[c0, c1] 42 (0, 0))) : (results Try.f58 tmps).run Try.prog W = .ok (.tuple #[.agg #[c0, c1], tmps.getD 7 undef]) W :=
 results_ct rfl tmps W g _ #[c0, c1] (0, 0) _ hp hg Try.underlying42 rfl r6_
set_option maxHeartbeats 1600000 in
set_option maxRecDepth 100000 in
theorem api_Write.good (k : Nat) (st kd : Int) (s is : ByteArray) (w : World) (h : col_Write.f k st kd = some (is, 0)) (hs : is.toList = s.toList) :
  Calls Try.prog 58 #[.agg #[.int .u64 st, .int .i64 kd], .string s, .func (.func 59) #[] #[]] w fun e' w' => e' = .returned (.tuple #[.agg #[.int .u64 st, .int .i64 kd], .int .i64 0]) ∧ Below w.heap.size w w' := by
 have hu24 := Try.underlying42
 have hfin := api_Write.fin
 have HC := Lib.hid h
 have s1_ : (is.toList == s.toList) = true := beq_iff_eq.mpr hs
 have s2_ : (is.toList != s.toList) = false := bne_eq_false_iff_eq.mpr hs
 clear h hs
 go_enter Try.func58, Try.ntmps58
 go_wp2_with (fail)
 have BL : Aside0 (((w.alloc (.cells #[.int .u64 st, .int .i64 kd] 42)).alloc (.cells #[.int .u64 0, .int .i64 0] 42)).heap[w.heap.size]? = some (.cells #[.int .u64 st, .int .i64 kd] 42 (0, 0))) := ⟨blk_alloc (blk_new _ _) _⟩
 have hR : ((w.alloc (.cells #[.int .u64 st, .int .i64 kd] 42)).alloc (.cells #[.int .u64 0, .int .i64 0] 42)).heap[w.heap.size + 1]? = some (.cells #[.int .u64 0, .int .i64 0] 42 (0, 0)) := by
  have := blk_new (w.alloc (.cells #[.int .u64 st, .int .i64 kd] 42)) (.cells #[.int .u64 0, .int .i64 0] 42)
  rwa [World.size_alloc] at this
 have BR := Aside0.mk hR
 clear hR
 have HB : Aside0 (Below w.heap.size w ((w.alloc (.cells #[.int .u64 st, .int .i64 kd] 42)).alloc (.cells #[.int .u64 0, .int .i64 0] 42))) := ⟨below_alloc (below_alloc (Below.refl _ _) _) _⟩
 generalize ((w.alloc (.cells #[.int .u64 st, .int .i64 kd] 42)).alloc (.cells #[.int .u64 0, .int .i64 0] 42)) = w1 at BL BR HB ⊢
 obtain ⟨g2, hg2⟩ : ∃ g, w.heap.size + 1 = g := ⟨_, rfl⟩
 have HG : Hid (w.heap.size ≤ g2) := Lib.hid r37_
 rw [hg2] at BR ⊢
 clear hg2
 refine (col_Write.calls k st kd is 0 w1 HC.out).mono ?_
 rintro e w2 ⟨rfl, hb⟩
 have BL2 := Aside0.mk (blk_below BL.out hb)
 have BR2 := Aside0.mk (blk_below BR.out hb)
 have HB2 := Aside0.mk (below_step HB.out hb)
 clear hb BL BR HB
 have l0_ : w2.cell? ⟨w.heap.size, 0, none⟩ = some (.int .u64 st) := (blk_cell BL2.out 0).trans rfl
 have l1_ : w2.cell? ⟨w.heap.size, 1, none⟩ = some (.int .i64 kd) := (blk_cell BL2.out 1).trans rfl
 have r0_ : w2.cell? ⟨g2, 0, none⟩ = some (.int .u64 0) := (blk_cell BR2.out 0).trans rfl
 have p0_ := blk_frozen BR2.out 0
 have r1_ : w2.cell? ⟨g2, 1, none⟩ = some (.int .i64 0) := (blk_cell BR2.out 1).trans rfl
 have p1_ := blk_frozen BR2.out 1
 go_wp2
 exact bodyPost_ret (hfin _ _ g2 _ _ rfl (blk_put (cs' := #[.int .u64 st, .int .i64 kd]) (blk_put (cs' := #[.int .u64 st, .int .i64 0]) BR2.out 0 _ rfl) 1 _ rfl)) rfl ⟨rfl, (HB2.out.setCell (p := ⟨g2, 0, none⟩) HG.out _).setCell (p := ⟨g2, 1, none⟩) HG.out _⟩
set_option maxHeartbeats 1600000 in
set_option maxRecDepth 100000 in
theorem api_Write.bad (k : Nat) (st kd : Int) (s is : ByteArray) (ee : Int) (w : World) (h : col_Write.f k st kd = some (is, ee)) (hs : ee ≠ 0 ∨ is.toList ≠ s.toList) :
  Calls Try.prog 58 #[.agg #[.int .u64 st, .int .i64 kd], .string s, .func (.func 59) #[] #[]] w fun e' w' => e' = .returned (.tuple #[.agg #[.int .u64 0, .int .i64 0], .int .i64 2]) ∧ Below w.heap.size w w' := by
 have hu24 := Try.underlying42
 have hfin := api_Write.fin
 have HC := Lib.hid h
 have HS := Lib.hid hs
 clear h hs
 go_enter Try.func58, Try.ntmps58
 go_wp2_with (fail)
 have BL : Aside0 (((w.alloc (.cells #[.int .u64 st, .int .i64 kd] 42)).alloc (.cells #[.int .u64 0, .int .i64 0] 42)).heap[w.heap.size]? = some (.cells #[.int .u64 st, .int .i64 kd] 42 (0, 0))) := ⟨blk_alloc (blk_new _ _) _⟩
 have hR : ((w.alloc (.cells #[.int .u64 st, .int .i64 kd] 42)).alloc (.cells #[.int .u64 0, .int .i64 0] 42)).heap[w.heap.size + 1]? = some (.cells #[.int .u64 0, .int .i64 0] 42 (0, 0)) := by
  have := blk_new (w.alloc (.cells #[.int .u64 st, .int .i64 kd] 42)) (.cells #[.int .u64 0, .int .i64 0] 42)
  rwa [World.size_alloc] at this
 have BR := Aside0.mk hR
 clear hR
 have HB : Aside0 (Below w.heap.size w ((w.alloc (.cells #[.int .u64 st, .int .i64 kd] 42)).alloc (.cells #[.int .u64 0, .int .i64 0] 42))) := ⟨below_alloc (below_alloc (Below.refl _ _) _) _⟩
 generalize ((w.alloc (.cells #[.int .u64 st, .int .i64 kd] 42)).alloc (.cells #[.int .u64 0, .int .i64 0] 42)) = w1 at BL BR HB ⊢
 obtain ⟨g2, hg2⟩ : ∃ g, w.heap.size + 1 = g := ⟨_, rfl⟩
 have HG : Hid (w.heap.size ≤ g2) := Lib.hid r37_
 rw [hg2] at BR ⊢
 clear hg2
 refine (col_Write.calls k st kd is ee w1 HC.out).mono ?_
 rintro e w2 ⟨rfl, hb⟩
 have BL2 := Aside0.mk (blk_below BL.out hb)
 have BR2 := Aside0.mk (blk_below BR.out hb)
 have HB2 := Aside0.mk (below_step HB.out hb)
 clear hb BL BR HB
 have l0_ : w2.cell? ⟨w.heap.size, 0, none⟩ = some (.int .u64 st) := (blk_cell BL2.out 0).trans rfl
 have l1_ : w2.cell? ⟨w.heap.size, 1, none⟩ = some (.int .i64 kd) := (blk_cell BL2.out 1).trans rfl
 have r0_ : w2.cell? ⟨g2, 0, none⟩ = some (.int .u64 0) := (blk_cell BR2.out 0).trans rfl
 have p0_ := blk_frozen BR2.out 0
 have r1_ : w2.cell? ⟨g2, 1, none⟩ = some (.int .i64 0) := (blk_cell BR2.out 1).trans rfl
 have p1_ := blk_frozen BR2.out 1
 by_cases he : ee = 0
 rotate_left
 ·have e1_ : (ee == 0) = false := beq_eq_false_iff_ne.mpr he
  have e2_ : (ee != 0) = true := bne_iff_ne.mpr he
  clear he
  go_upto_region 4 with (fail)
  clear l0_ l1_ r0_ r1_ p0_ p1_
  have BR3 := Aside0.mk (blk_alloc BR2.out (.cells #[.int .u64 0, .int .i64 0] 42))
  have BN3 := Aside0.mk (blk_new w2 (.cells #[.int .u64 0, .int .i64 0] 42))
  have HB3 := Aside0.mk (below_alloc HB2.out (.cells #[.int .u64 0, .int .i64 0] 42))
  generalize (w2.alloc (.cells #[.int .u64 0, .int .i64 0] 42)) = w3 at BR3 BN3 HB3 ⊢
  generalize w2.heap.size = g4 at BN3 ⊢
  have n0_ : w3.cell? ⟨g4, 0, none⟩ = some (.int .u64 0) := (blk_cell BN3.out 0).trans rfl
  have n1_ : w3.cell? ⟨g4, 1, none⟩ = some (.int .i64 0) := (blk_cell BN3.out 1).trans rfl
  have r0_ : w3.cell? ⟨g2, 0, none⟩ = some (.int .u64 0) := (blk_cell BR3.out 0).trans rfl
  have p0_ := blk_frozen BR3.out 0
  have r1_ : w3.cell? ⟨g2, 1, none⟩ = some (.int .i64 0) := (blk_cell BR3.out 1).trans rfl
  have p1_ := blk_frozen BR3.out 1
  go_wp2
  exact bodyPost_ret (hfin _ _ g2 _ _ rfl (blk_put (cs' := #[.int .u64 0, .int .i64 0]) (blk_put (cs' := #[.int .u64 0, .int .i64 0]) BR3.out 0 _ rfl) 1 _ rfl)) rfl ⟨rfl, (HB3.out.setCell (p := ⟨g2, 0, none⟩) HG.out _).setCell (p := ⟨g2, 1, none⟩) HG.out _⟩
 subst he
 have hs : is.toList ≠ s.toList := by simpa using HS.out
 have s1_ : (is.toList == s.toList) = false := beq_eq_false_iff_ne.mpr hs
 have s2_ : (is.toList != s.toList) = true := bne_iff_ne.mpr hs
 clear hs
 go_upto_region 4 with (fail)
 clear l0_ l1_ r0_ r1_ p0_ p1_
 have BR3 := Aside0.mk (blk_alloc BR2.out (.cells #[.int .u64 0, .int .i64 0] 42))
 have BN3 := Aside0.mk (blk_new w2 (.cells #[.int .u64 0, .int .i64 0] 42))
 have HB3 := Aside0.mk (below_alloc HB2.out (.cells #[.int .u64 0, .int .i64 0] 42))
 generalize (w2.alloc (.cells #[.int .u64 0, .int .i64 0] 42)) = w3 at BR3 BN3 HB3 ⊢
 generalize w2.heap.size = g4 at BN3 ⊢
 have n0_ : w3.cell? ⟨g4, 0, none⟩ = some (.int .u64 0) := (blk_cell BN3.out 0).trans rfl
 have n1_ : w3.cell? ⟨g4, 1, none⟩ = some (.int .i64 0) := (blk_cell BN3.out 1).trans rfl
 have r0_ : w3.cell? ⟨g2, 0, none⟩ = some (.int .u64 0) := (blk_cell BR3.out 0).trans rfl
 have p0_ := blk_frozen BR3.out 0
 have r1_ : w3.cell? ⟨g2, 1, none⟩ = some (.int .i64 0) := (blk_cell BR3.out 1).trans rfl
 have p1_ := blk_frozen BR3.out 1
 go_wp2
 exact bodyPost_ret (hfin _ _ g2 _ _ rfl (blk_put (cs' := #[.int .u64 0, .int .i64 0]) (blk_put (cs' := #[.int .u64 0, .int .i64 0]) BR3.out 0 _ rfl) 1 _ rfl)) rfl ⟨rfl, (HB3.out.setCell (p := ⟨g2, 0, none⟩) HG.out _).setCell (p := ⟨g2, 1, none⟩) HG.out _⟩
theorem api_Write.chk (k : Nat) (st kd : Int) (s is : ByteArray) (ee : Int) (v1 v2 v4 : Int) (w : World) (h : col_Write.f k st kd = some (is, ee)) (hr : (if ee ≠ 0 ∨ is.toList ≠ s.toList then some ((0 : Int), (0 : Int), (2 : Int)) else some (st, kd, 0)) = some (v1, v2, v4)) :
  Calls Try.prog 58 #[.agg #[.int .u64 st, .int .i64 kd], .string s, .func (.func 59) #[] #[]] w fun e' w' => e' = .returned (.tuple #[.agg #[.int .u64 v1, .int .i64 v2], .int .i64 v4]) ∧ Below w.heap.size w w' := by
 by_cases hb : ee ≠ 0 ∨ is.toList ≠ s.toList
 ·rw [if_pos hb] at hr
  simp only [Option.some.injEq, Prod.mk.injEq] at hr
  obtain ⟨rfl, rfl, rfl⟩ := hr
  exact api_Write.bad k st kd s is ee w h hb
 rw [if_neg hb] at hr
 simp only [Option.some.injEq, Prod.mk.injEq] at hr
 obtain ⟨rfl, rfl, rfl⟩ := hr
 have he : ee = 0 := Classical.not_not.1 fun e => hb (Or.inl e)
 subst he
 exact api_Write.good k st kd s is w h (Classical.not_not.1 fun e => hb (Or.inr e))
def api_Write.f (k : Nat) (a0_0 a0_1 : Int) (a1 : ByteArray) : Option (Int × Int × Int) :=
 (col_Write.f k a0_0 a0_1).bind fun c => if c.2 ≠ 0 ∨ c.1.toList ≠ a1.toList then some (0, 0, 2) else some (a0_0, a0_1, 0)
theorem api_Write.mono : ∀ a0 a1 a2 k, LeO (api_Write.f k a0 a1 a2) (api_Write.f (k + 1) a0 a1 a2) := by
 intro a0 a1 a2 k
 unfold api_Write.f
 exact LeO.bind (col_Write.mono _ _ _) (fun _ => LeO.refl _)
theorem api_Write.calls (k : Nat) (a0_0 a0_1 : Int) (a1 : ByteArray) (r1 r2 r3 : Int) (w : World) (h : api_Write.f k a0_0 a0_1 a1 = some (r1, r2, r3)) :
  Calls Try.prog 58 #[.agg #[.int .u64 a0_0, .int .i64 a0_1], .string a1, .func (.func 59) #[] #[]] w fun e w' => e = .returned (.tuple #[.agg #[.int .u64 r1, .int .i64 r2], .int .i64 r3]) ∧ Below w.heap.size w w' := by
 unfold api_Write.f at h
 replace h := Option.bind_eq_some_iff.mp h
 obtain ⟨⟨is, ee⟩, hC, h⟩ := h
 exact api_Write.chk k a0_0 a0_1 a1 is ee r1 r2 r3 w hC h

/-! ### col_Unwrite: function 40 -/
def col_Unwrite.f (k : Nat) (a0 : ByteArray) : Option (Int × Int × Int) := if a0.toList = ([] : List UInt8) then (some (0, 0, 2)) else (if 1 ≤ (a0.size : Int) then ((col_numbers.f k (a0.extract 1 a0.size) 1).bind fun bt166 => (if bt166.2.2 = true then (if 0 < (bt166.1.length : Int) then (if 0 < (a0.size : Int) then ((api_Write.f k (rd bt166.1 0) (wrap64 (bt a0 0)) a0).bind fun bt172 => (some (bt172.1, bt172.2.1, bt172.2.2))) else (none)) else (none)) else (some (0, 0, 2)))) else (none))
theorem col_Unwrite.mono : ∀ a0 k, LeO (col_Unwrite.f k a0) (col_Unwrite.f (k + 1) a0) := by
 intro a0 k
 unfold col_Unwrite.f
 repeat' first
   | (with_reducible exact LeO.refl _)
   | (with_reducible exact LeO.none _)
   | (with_reducible refine LeO.ite ?_ ?_)
   | (with_reducible refine LeO.bind ?_ (fun _ => ?_))
   | exact api_Write.mono _ _ _ _
   | exact col_numbers.mono _ _ _
   | exact LeO.none _
   | refine LeO.ite ?_ ?_
   | refine LeO.bind ?_ (fun _ => ?_)
def col_Unwrite.T6 : Bool × List (List Nat × List Nat) := (true, [([], []), ([0], [0]), ([1], [1]), ([], []), ([3], [3]), ([4], [4]), ([2, 5], [2, 5]), ([], []), ([6, 7], [6, 7]), ([8], [8]), ([8], [8]), ([9, 8, 0, 1, 2, 3, 4, 5, 6, 7, 8, 9, 10], [9]), ([10, 11, 0, 1, 2, 3, 4, 5, 6, 7, 8, 9, 10, 11], [10])])
def col_Unwrite.B6 : List Nat := [0, 1, 3, 0, 8, 24, 63, 0, 255, 511, 511, 2047, 4095]
theorem col_Unwrite.tab6 : rtab .any (opsOf Try.f40 6) = col_Unwrite.T6 := by kernel_rfl
theorem col_Unwrite.bits6 : waitsOk col_Unwrite.T6.2 col_Unwrite.B6 = true := by kernel_rfl
set_option maxHeartbeats 8000000 in
set_option maxRecDepth 100000 in
theorem col_Unwrite.calls (k : Nat) (a0 : ByteArray) (r1 : Int) (r2 : Int) (r3 : Int) (w : World) (h : col_Unwrite.f k a0 = some (r1, r2, r3)) :
  Calls Try.prog 40 #[.string a0] w fun e w' => e = .returned (.tuple #[.agg #[.int .u64 r1, .int .i64 r2], .int .i64 r3]) ∧ Below w.heap.size w w' := by
 have hu42 := Try.underlying42
 have HB := Aside0.mk (Below.refl w.heap.size w)
 have H : (if a0.toList = ([] : List UInt8) then (some (0, 0, 2)) else (if 1 ≤ (a0.size : Int) then ((col_numbers.f k (a0.extract 1 a0.size) 1).bind fun bt166 => (if bt166.2.2 = true then (if 0 < (bt166.1.length : Int) then (if 0 < (a0.size : Int) then ((api_Write.f k (rd bt166.1 0) (wrap64 (bt a0 0)) a0).bind fun bt172 => (some (bt172.1, bt172.2.1, bt172.2.2))) else (none)) else (none)) else (some (0, 0, 2)))) else (none))) = some (r1, r2, r3) := h
 clear h
 by_cases c2 : a0.toList = ([] : List UInt8)
 ·rw [if_pos c2] at H
  have c2b0 := beq_iff_eq.mpr c2
  have c2b1 := bne_eq_false_iff_eq.mpr c2
  clear c2
  simp only [Option.some.injEq, Prod.mk.injEq] at H
  obtain ⟨rfl, rfl, rfl⟩ := H
  go_enter Try.func40, Try.ntmps40
  go_wp2_with (first | ((with_reducible refine gate_dst (N := 2) rfl ?_); refine box_event ?hg (N := 2) ?hd (cs := #[.int .u64 0, .int .i64 0]) (t := 42) ?hr ?_; (case hd => rfl); (case hg => rfl); (case hr => first | (go_simp; done) | (go_simp; rfl)); intro gb165 hg w3 hbox hb; have BK165 := Aside0.mk (hbox); have GW165 := Aside0.mk ((by rw [hg]; exact (below_size hB_) : w.heap.size ≤ gb165)); have GE165 := Aside0.mk ((by rw [hg]; exact (below_size hB_) : w.heap.size ≤ gb165)); replace HB := Aside0.mk (below_step hB_ hb); clear hb hbox hg; have hcz4_0 : w3.cell? ⟨gb165, 0, none⟩ = some (.int .u64 0) := (blk_cell BK165.out 0).trans rfl; have hcz4_1 : w3.cell? ⟨gb165, 1, none⟩ = some (.int .i64 0) := (blk_cell BK165.out 1).trans rfl; have hfz4_0 := blk_frozen BK165.out 0; have hfz4_1 := blk_frozen BK165.out 1))
  refine bodyPost_ret (results_ct rfl _ _ gb165 42 #[.int .u64 0, .int .i64 0] (0, 0) _ rfl (by (with_reducible repeat (first | refine blk_drewN ?_ _ | refine blk_drew ?_ | refine blk_alloc ?_ _)); refine blk_put (cs := #[.int .u64 0, .int .i64 0]) ?_ 1 _ rfl; (with_reducible repeat (first | refine blk_drewN ?_ _ | refine blk_drew ?_ | refine blk_alloc ?_ _)); refine blk_put (cs := #[.int .u64 0, .int .i64 0]) ?_ 0 _ rfl; (with_reducible repeat (first | refine blk_drewN ?_ _ | refine blk_drew ?_ | refine blk_alloc ?_ _)); exact BK165.out) Try.underlying42 rfl r6_) rfl ?_
  exact ⟨rf_, r31_⟩
 rw [if_neg c2] at H
 have c2b0 := beq_eq_false_iff_ne.mpr c2
 have c2b1 := bne_iff_ne.mpr c2
 by_cases c5 : 1 ≤ (a0.size : Int)
 rotate_left
 ·rw [if_neg c5] at H
  exact absurd H r34_
 rw [if_pos c5] at H
 have c5b0 := eq_true c5
 have c5b1 : decide (1 ≤ (a0.size : Int)) = true := decide_eq_true c5
 clear c5
 replace H := Option.bind_eq_some_iff.mp H
 obtain ⟨⟨t166, t167, t168⟩, A60, H⟩ := H
 try dsimp only at H
 have A6 := Aside0.mk A60
 clear A60
 by_cases c7 : t168 = true
 rotate_left
 ·replace c7 := Bool.eq_false_iff.mpr c7
  subst c7
  rw [if_neg ff_] at H
  simp only [Option.some.injEq, Prod.mk.injEq] at H
  obtain ⟨rfl, rfl, rfl⟩ := H
  go_enter Try.func40, Try.ntmps40
  go_wp2_with (first | ((with_reducible refine gate_dst (N := 2) rfl ?_); refine box_event ?hg (N := 2) ?hd (cs := #[.int .u64 0, .int .i64 0]) (t := 42) ?hr ?_; (case hd => rfl); (case hg => rfl); (case hr => first | (go_simp; done) | (go_simp; rfl)); intro gb165 hg w19 hbox hb; have BK165 := Aside0.mk (hbox); have GW165 := Aside0.mk ((by rw [hg]; exact (below_size hB_) : w.heap.size ≤ gb165)); have GE165 := Aside0.mk ((by rw [hg]; exact (below_size hB_) : w.heap.size ≤ gb165)); replace HB := Aside0.mk (below_step hB_ hb); clear hb hbox hg) | ((with_reducible refine gate_callee (f := 55) rfl ?_); refine goesL_ (some 13) rfl rfl Try.func55 r6_ rfl #[.string (a0.extract 1 a0.size), .int .i64 1] rfl hA_ ?_; (with_reducible refine (col_numbers.calls k (a0.extract 1 a0.size) 1 t166 t167 false _ A6.out).mono ?_); rintro e w20 ⟨v169, rfl, ho0, hb⟩; refine ⟨_, rfl, ?_⟩; have HO170 := Aside0.mk (Kd.R_lower ho0 (below_size r31_)); replace BK165 := Aside0.mk (blk_below (g := gb165) (o := .cells #[.int .u64 0, .int .i64 0] 42 (0, 0)) r68_ hb); replace HB := Aside0.mk (below_step r31_ hb); clear hb ho0 A6; have hcz21_0 : w20.cell? ⟨gb165, 0, none⟩ = some (.int .u64 0) := (blk_cell BK165.out 0).trans rfl; have hcz21_1 : w20.cell? ⟨gb165, 1, none⟩ = some (.int .i64 0) := (blk_cell BK165.out 1).trans rfl; have hfz21_0 := blk_frozen BK165.out 0; have hfz21_1 := blk_frozen BK165.out 1))
  refine bodyPost_ret (results_ct rfl _ _ gb165 42 #[.int .u64 0, .int .i64 0] (0, 0) _ rfl (by (with_reducible repeat (first | refine blk_drewN ?_ _ | refine blk_drew ?_ | refine blk_alloc ?_ _)); refine blk_put (cs := #[.int .u64 0, .int .i64 0]) ?_ 1 _ rfl; (with_reducible repeat (first | refine blk_drewN ?_ _ | refine blk_drew ?_ | refine blk_alloc ?_ _)); refine blk_put (cs := #[.int .u64 0, .int .i64 0]) ?_ 0 _ rfl; (with_reducible repeat (first | refine blk_drewN ?_ _ | refine blk_drew ?_ | refine blk_alloc ?_ _)); exact BK165.out) Try.underlying42 rfl r6_) rfl ?_
  exact ⟨rf_, r31_⟩
 subst c7
 rw [if_pos rfl] at H
 by_cases c8 : 0 < (t166.length : Int)
 rotate_left
 ·rw [if_neg c8] at H
  exact absurd H r34_
 rw [if_pos c8] at H
 have c8b0 := decide_eq_true c8
 have c8b1 : decide (0 < t166.length) = true := decide_eq_true r37_
 clear c8
 by_cases c9 : 0 < (a0.size : Int)
 rotate_left
 ·rw [if_neg c9] at H
  exact absurd H r34_
 rw [if_pos c9] at H
 have c9b0 := decide_eq_true c9
 have c9b1 : decide (0 < a0.size) = true := decide_eq_true r37_
 clear c9
 replace H := Option.bind_eq_some_iff.mp H
 obtain ⟨⟨t172, t173, t174⟩, A110, H⟩ := H
 try dsimp only at H
 have A11 := Aside0.mk A110
 clear A110
 simp only [Option.some.injEq, Prod.mk.injEq] at H
 obtain ⟨rfl, rfl, rfl⟩ := H
 go_enter Try.func40, Try.ntmps40
 try go_wp2_with (first | ((with_reducible refine gate_dst (N := 2) rfl ?_); refine box_event ?hg (N := 2) ?hd (cs := #[.int .u64 0, .int .i64 0]) (t := 42) ?hr ?_; (case hd => rfl); (case hg => rfl); (case hr => first | (go_simp; done) | (go_simp; rfl)); intro gb165 hg w12 hbox hb; have BK165 := Aside0.mk (hbox); have GW165 := Aside0.mk ((by rw [hg]; exact (below_size hB_) : w.heap.size ≤ gb165)); have GE165 := Aside0.mk ((by rw [hg]; exact (below_size hB_) : w.heap.size ≤ gb165)); replace HB := Aside0.mk (below_step hB_ hb); clear hb hbox hg) | ((with_reducible refine gate_callee (f := 55) rfl ?_); refine goesL_ (some 13) rfl rfl Try.func55 r6_ rfl #[.string (a0.extract 1 a0.size), .int .i64 1] rfl hA_ ?_; (with_reducible refine (col_numbers.calls k (a0.extract 1 a0.size) 1 t166 t167 true _ A6.out).mono ?_); rintro e w13 ⟨v169, rfl, ho0, hb⟩; refine ⟨_, rfl, ?_⟩; have HO170 := Aside0.mk (Kd.R_lower ho0 (below_size r31_)); replace BK165 := Aside0.mk (blk_below (g := gb165) (o := .cells #[.int .u64 0, .int .i64 0] 42 (0, 0)) r68_ hb); replace HB := Aside0.mk (below_step r31_ hb); clear hb ho0 A6))
 replace HO170 := Aside0.mk (Kd.R_drew HO170.out)
 replace BK165 := Aside0.mk (blk_drew BK165.out)
 replace HB := Aside0.mk (below_drew1 HB.out)
 obtain ⟨Ao15, co15, eo15⟩ := Kd.R_slice HO170.out
 (first | subst eo15 | (injection eo15 with f1_ f2_ f3_; have f4_ := f1_.symm; have f5_ := f3_.symm; clear f1_ f2_ f3_; subst f4_; subst f5_))
 have p171 : 0 ≤ (0 : Int) := r37_
 have q171 : 0 < (t166.length : Int) := of_decide_eq_true as_
 obtain ⟨ad171, e171, hx171_0⟩ := Kd.at_int (Kd.R_reads' HO170.out).2.2 0 p171 q171
 cases e171
 have qi171 : (0 < t166.length) = True := eq_true r37_
 (try rw [show ((0 : Int)).toNat = 0 from rfl] at hx171_0)
 (try rw [Addr.add_zero'] at hx171_0)
 replace p171 := eq_true p171
 replace q171 := eq_true q171
 have p10 : 0 ≤ (0 : Int) := r37_
 have q10 : 0 < a0.size := (by have : (0 : Int) < (a0.size : Int) := of_decide_eq_true as_; omega)
 have hx10 : ∀ h : 0 < a0.size, ((a0[0]'h).toNat : Int) = bt a0 0 := bt_at a0 0
 clear p10
 have qi10 : (0 < (a0.size : Int)) = True := eq_true (of_decide_eq_true as_)
 replace q10 := eq_true q10
 refine start_ (n := 13) (S := fun w' => w'.cell? ad171 = some (.int .u64 (rd t166 0))) (ds := []) #[N,N,N,N,N,N,N,N,N,N,N,N,N] r6_ rfl rfl (hx171_0) (fun hHeld => ?_); refine with_tabW col_Unwrite.tab6 col_Unwrite.bits6 (fun HT_ HW_ => ?_)
 generalize w13.drew = w14 at HO170 BK165 HB hx171_0 hHeld ⊢
 refine pure_ (i := 0) (N := some 20) (v := ?_) (a' := ?_) #[Y,N,N,N,N,N,N,N,N,N,N,N,N] rfl rfl (any_of HT_.out r6_) (fun _ _ _ h => h) (Or.inl ⟨by rfl, ?_⟩) ?_ ?_
 rotate_left
 ·intro w'
  go_simp
  with_reducible rfl
 rotate_left
 ·simp only [Act.put, sp_, i64_w, i32_w]
  rfl
 refine pure_ (i := 1) (N := some 21) (v := ?_) (a' := ?_) #[Y,Y,N,N,N,N,N,N,N,N,N,N,N] rfl rfl (any_of HT_.out r6_) (fun _ _ _ h => h) (Or.inl ⟨by rfl, ?_⟩) ?_ ?_
 rotate_left
 ·intro w'
  go_simp
  with_reducible rfl
 rotate_left
 ·simp only [Act.put, sp_, i64_w, i32_w]
  rfl
 refine pure_ (i := 3) (N := some 23) (v := ?_) (a' := ?_) #[Y,Y,N,Y,N,N,N,N,N,N,N,N,N] rfl rfl (any_of HT_.out r6_) (fun _ _ _ h => h) (Or.inl ⟨by rfl, ?_⟩) ?_ ?_
 rotate_left
 ·intro w'
  go_simp
  with_reducible rfl
 rotate_left
 ·simp only [Act.put, sp_, i64_w, i32_w]
  rfl
 refine pure_ (i := 7) (N := some 27) (v := ?_) (a' := ?_) #[Y,Y,N,Y,N,N,N,Y,N,N,N,N,N] rfl rfl (any_of HT_.out r6_) (fun _ _ _ h => h) (Or.inl ⟨by rfl, ?_⟩) ?_ ?_
 rotate_left
 ·intro w'
  go_simp
  with_reducible rfl
 rotate_left
 ·simp only [Act.put, sp_, i64_w, i32_w]
  rfl
 refine take_ (i := 2) (N := some 22) (v := ?_) (a' := ?_) #[Y,Y,Y,Y,N,N,N,Y,N,N,N,N,N] rfl rfl (take_ofW HT_.out HW_.out r6_) (fun _ _ _ h => h) (Or.inl ⟨by rfl, ?_⟩) hHeld ?_ ?_
 rotate_left
 ·intro w' s0
  go_simp
  with_reducible rfl
 rotate_left
 ·simp only [Act.put, sp_, i64_w, i32_w]
  rfl
 refine take_ (i := 4) (N := some 24) (v := ?_) (a' := ?_) #[Y,Y,Y,Y,Y,N,N,Y,N,N,N,N,N] rfl rfl (take_ofW HT_.out HW_.out r6_) (fun _ _ _ h => h) (Or.inl ⟨by rfl, ?_⟩) hHeld ?_ ?_
 rotate_left
 ·intro w' s0
  go_simp
  with_reducible rfl
 rotate_left
 ·simp only [Act.put, sp_, i64_w, i32_w]
  rfl
 refine pure_ (i := 5) (N := some 25) (v := ?_) (a' := ?_) #[Y,Y,Y,Y,Y,Y,N,Y,N,N,N,N,N] rfl rfl (any_of HT_.out r6_) (fun _ _ _ h => h) (Or.inl ⟨by rfl, ?_⟩) ?_ ?_
 rotate_left
 ·intro w'
  go_simp
  with_reducible rfl
 rotate_left
 ·simp only [Act.put, sp_, i64_w, i32_w]
  rfl
 refine pure_ (i := 6) (N := some 26) (v := ?_) (a' := ?_) #[Y,Y,Y,Y,Y,Y,Y,Y,N,N,N,N,N] rfl rfl (any_of HT_.out r6_) (fun _ _ _ h => h) (Or.inl ⟨by rfl, ?_⟩) ?_ ?_
 rotate_left
 ·intro w'
  go_simp
  with_reducible rfl
 rotate_left
 ·simp only [Act.put, sp_, i64_w, i32_w]
  rfl
 refine one_ (i := 8) (N := some 28) #[Y,Y,Y,Y,Y,Y,Y,Y,Y,N,N,N,N] rfl rfl (one_of HT_.out r6_) r44_ (fun K hK => ?_)
 refine goes_ Try.func58 r6_ rfl #[.agg #[.int .u64 (rd t166 0), .int .i64 (wrap64 (bt a0 0))], .string a0, .func (.func 59) #[] #[]] (by rfl) rfl rfl hA_ ?_
 with_reducible refine (api_Write.calls k (rd t166 0) (wrap64 (bt a0 0)) a0  t172 t173 t174 _ A11.out).mono ?_
 rintro e w16 ⟨rfl, hb⟩
 have HS0_ := (hb.cell (World.block_lt_of_cell? _ _ (hHeld))).trans (hHeld)
 refine ⟨_, rfl, ?_⟩
 replace HO170 := Aside0.mk (Kd.R_below (by (with_reducible repeat (first | apply Kd.R_alloc | apply Kd.R_drewN | apply Kd.R_drew)); exact HO170.out) hb)
 replace BK165 := Aside0.mk (blk_below (g := gb165) (o := .cells #[.int .u64 0, .int .i64 0] 42 (0, 0)) r68_ hb)
 replace HB := Aside0.mk (below_step r31_ hb)
 (try clear hb)
 (try clear hb2)
 (try clear hk)
 (try clear hi)
 (try clear A11)
 refine hK.out _ _ (HS0_) (fun hHeld => ?_)
 clear hK K
 refine norm_ (a' := ?_) ?_ ?_
 rotate_left
 ·show Act.put _ (some 28) _ = _
  simp only [Act.put, sp_, i64_w, i32_w]
  rfl
 refine pure_ (i := 9) (N := some 29) (v := ?_) (a' := ?_) #[Y,Y,Y,Y,Y,Y,Y,Y,Y,Y,N,N,N] rfl rfl (any_of HT_.out r6_) (fun _ _ _ h => h) (Or.inl ⟨by rfl, ?_⟩) ?_ ?_
 rotate_left
 ·intro w'
  go_simp
  with_reducible rfl
 rotate_left
 ·simp only [Act.put, sp_, i64_w, i32_w]
  rfl
 refine pure_ (i := 10) (N := some 30) (v := ?_) (a' := ?_) #[Y,Y,Y,Y,Y,Y,Y,Y,Y,Y,Y,N,N] rfl rfl (any_of HT_.out r6_) (fun _ _ _ h => h) (Or.inl ⟨by rfl, ?_⟩) ?_ ?_
 rotate_left
 ·intro w'
  go_simp
  with_reducible rfl
 rotate_left
 ·simp only [Act.put, sp_, i64_w, i32_w]
  rfl
 refine one_ (i := 11) (N := none) #[Y,Y,Y,Y,Y,Y,Y,Y,Y,Y,Y,Y,N] rfl rfl (one_of HT_.out r6_) r44_ (fun K hK => ?_)
 have hs17 : w16.cell? ⟨gb165, 0, none⟩ = some (.int .u64 0) := (blk_cell BK165.out 0).trans rfl
 have hfs17 := blk_frozen BK165.out 0
 have hs18 : w16.cell? ⟨gb165, 1, none⟩ = some (.int .i64 0) := (blk_cell BK165.out 1).trans rfl
 have hfs18 := blk_frozen BK165.out 1
 refine skip_ (w1 := ?_) (by rfl) rfl ?_ ?_
 rotate_left
 ·go_simp
  rfl
 refine hK.out _ _ (((cell_far (p := ⟨gb165, _, none⟩) (by first | exact Kd.own_blk (Kd.R_ne HO170.out BK165.out r44_) | (rw [add_block]; exact Kd.own_blk (Kd.R_ne HO170.out BK165.out r44_)) | (show (Addr.add _ _).block ≠ _; rw [add_block]; exact Kd.own_blk (Kd.R_ne HO170.out BK165.out r44_)) | (dsimp only; exact Kd.own_blk (Kd.R_ne HO170.out BK165.out r44_))) _).trans (((cell_far (p := ⟨gb165, _, none⟩) (by first | exact Kd.own_blk (Kd.R_ne HO170.out BK165.out r44_) | (rw [add_block]; exact Kd.own_blk (Kd.R_ne HO170.out BK165.out r44_)) | (show (Addr.add _ _).block ≠ _; rw [add_block]; exact Kd.own_blk (Kd.R_ne HO170.out BK165.out r44_)) | (dsimp only; exact Kd.own_blk (Kd.R_ne HO170.out BK165.out r44_))) _).trans (hHeld))))) (fun hHeld => ?_)
 clear hK K
 refine pure_ (i := 12) (N := some 3) (v := ?_) (a' := ?_) #[Y,Y,Y,Y,Y,Y,Y,Y,Y,Y,Y,Y,Y] rfl rfl (any_of HT_.out r6_) (fun _ _ _ h => h) (Or.inl ⟨by rfl, ?_⟩) ?_ ?_
 rotate_left
 ·intro w'
  go_simp
  with_reducible rfl
 rotate_left
 ·simp only [Act.put, sp_, i64_w, i32_w]
  rfl
 refine done_ (done_of HT_.out r6_) ?_
 (try clear hHeld)
 (try clear c5b0); (try clear c5b1); (try clear c5b2); (try clear c5b3); (try clear c5b4); (try clear c5b5); (try clear c5b6)
 try go_wp2
 refine bodyPost_ret (results_ct rfl _ _ gb165 42 #[.int .u64 t172, .int .i64 t173] (0, 0) _ rfl (by (with_reducible repeat (first | refine blk_drewN ?_ _ | refine blk_drew ?_ | refine blk_alloc ?_ _)); refine blk_put (cs := #[.int .u64 t172, .int .i64 0]) ?_ 1 _ rfl; (with_reducible repeat (first | refine blk_drewN ?_ _ | refine blk_drew ?_ | refine blk_alloc ?_ _)); refine blk_put (cs := #[.int .u64 0, .int .i64 0]) ?_ 0 _ rfl; (with_reducible repeat (first | refine blk_drewN ?_ _ | refine blk_drew ?_ | refine blk_alloc ?_ _)); exact BK165.out) Try.underlying42 rfl r6_) rfl ?_
 exact ⟨rf_, r31_⟩

/-! ### gc_read: function 29 -/
/-- What a record says: family, user's key, time; lock; write. -/
structure gc_read.R where
 cf : Int
 us : ByteArray
 tm : Int
 lp : ByteArray
 ls : Int
 lk : Int
 la : Int
 ws : Int
 wk : Int
def gc_read.R.cells (x : gc_read.R) : Array Value := #[.int .i64 x.cf, .string x.us, .int .u64 x.tm, .string x.lp, .int .u64 x.ls, .int .i64 x.lk, .int .u64 x.la, .int .u64 x.ws, .int .i64 x.wk]
def gc_read.none_ : gc_read.R := ⟨0, ⟨#[]⟩, 0, ⟨#[]⟩, 0, 0, 0, 0, 0⟩
def gc_read.f (k : Nat) (a0_0 : ByteArray) (a0_3 : ByteArray) : Option (gc_read.R × Bool) :=
 (key_Read.f k a0_0).bind fun p => if p.2.2.2 ≠ 0 then some (gc_read.none_, false)
  else if p.1 = 1 then (col_Unlock.f k a0_3).bind fun l => some (⟨p.1, p.2.1, p.2.2.1, l.1, l.2.1, l.2.2.1, l.2.2.2.1, 0, 0⟩, decide (l.2.2.2.2 = 0))
  else if p.1 = 2 then (col_Unwrite.f k a0_3).bind fun l => some (⟨p.1, p.2.1, p.2.2.1, ⟨#[]⟩, 0, 0, 0, l.1, l.2.1⟩, decide (l.2.2 = 0))
  else some (⟨p.1, p.2.1, p.2.2.1, ⟨#[]⟩, 0, 0, 0, 0, 0⟩, decide (p.1 ≠ 4))
theorem gc_read.mono : ∀ a0 a3 k, LeO (gc_read.f k a0 a3) (gc_read.f (k + 1) a0 a3) := by
 intro a0 a3 k
 unfold gc_read.f
 exact LeO.bind (key_Read.mono _ _) (fun _ => LeO.ite (LeO.refl _) (LeO.ite (LeO.bind (col_Unlock.mono _ _) (fun _ => LeO.refl _)) (LeO.ite (LeO.bind (col_Unwrite.mono _ _) (fun _ => LeO.refl _)) (LeO.refl _))))
set_option maxHeartbeats 3200000 in
set_option maxRecDepth 100000 in
theorem gc_read.calls (k : Nat) (a0 : ByteArray) (a1 : Int) (a2 : Bool) (a3 : ByteArray) (r : gc_read.R) (ok : Bool) (w : World) (h : gc_read.f k a0 a3 = some (r, ok)) :
  Calls Try.prog 29 #[.agg #[.string a0, .int .u64 a1, .bool a2, .string a3]] w fun e w' => e = .returned (.tuple #[.agg r.cells, .bool ok]) ∧ Below w.heap.size w w' := by
 have hu63 := Try.underlying63
 have hu61 := Try.underlying61
 have hu47 := Try.underlying47
 unfold gc_read.f at h
 replace h := Option.bind_eq_some_iff.mp h
 obtain ⟨⟨p1, p2, p3, p4⟩, hP, h⟩ := h
 have HP := Lib.hid hP
 clear hP
 go_enter Try.func29, Try.ntmps29
 go_wp2_with (fail)
 have hX : ((w.alloc (.cells #[.string a0, .int .u64 a1, .bool a2, .string a3] 47)).alloc (.cells #[.int .i64 0, .string ⟨#[]⟩, .int .u64 0, .string ⟨#[]⟩, .int .u64 0, .int .i64 0, .int .u64 0, .int .u64 0, .int .i64 0] 63)).heap[w.heap.size]? = some (.cells #[.string a0, .int .u64 a1, .bool a2, .string a3] 47 (0, 0)) := blk_alloc (blk_new w _) _
 have hZ : ((w.alloc (.cells #[.string a0, .int .u64 a1, .bool a2, .string a3] 47)).alloc (.cells #[.int .i64 0, .string ⟨#[]⟩, .int .u64 0, .string ⟨#[]⟩, .int .u64 0, .int .i64 0, .int .u64 0, .int .u64 0, .int .i64 0] 63)).heap[w.heap.size + 1]? = some (.cells #[.int .i64 0, .string ⟨#[]⟩, .int .u64 0, .string ⟨#[]⟩, .int .u64 0, .int .i64 0, .int .u64 0, .int .u64 0, .int .i64 0] 63 (0, 0)) := by
  have := blk_new (w.alloc (.cells #[.string a0, .int .u64 a1, .bool a2, .string a3] 47)) (.cells #[.int .i64 0, .string ⟨#[]⟩, .int .u64 0, .string ⟨#[]⟩, .int .u64 0, .int .i64 0, .int .u64 0, .int .u64 0, .int .i64 0] 63)
  rwa [World.size_alloc] at this
 have hB : Below w.heap.size w ((w.alloc (.cells #[.string a0, .int .u64 a1, .bool a2, .string a3] 47)).alloc (.cells #[.int .i64 0, .string ⟨#[]⟩, .int .u64 0, .string ⟨#[]⟩, .int .u64 0, .int .i64 0, .int .u64 0, .int .u64 0, .int .i64 0] 63)) := below_alloc (below_alloc (Below.refl _ _) _) _
 have BX1 := Aside0.mk hX
 have BZ1 := Aside0.mk hZ
 have HB1 := Aside0.mk hB
 clear hX hZ hB
 generalize ((w.alloc (.cells #[.string a0, .int .u64 a1, .bool a2, .string a3] 47)).alloc (.cells #[.int .i64 0, .string ⟨#[]⟩, .int .u64 0, .string ⟨#[]⟩, .int .u64 0, .int .i64 0, .int .u64 0, .int .u64 0, .int .i64 0] 63)) = W1 at BX1 BZ1 HB1 ⊢
 obtain ⟨g1, hg1⟩ : ∃ g, w.heap.size = g := ⟨_, rfl⟩
 obtain ⟨g2, hg2⟩ : ∃ g, w.heap.size + 1 = g := ⟨_, rfl⟩
 have HG : Hid (w.heap.size ≤ g1 ∧ w.heap.size ≤ g2 ∧ g1 ≠ g2) := Lib.hid ⟨r37_, r37_, r37_⟩
 have BX2 : Aside0 (W1.heap[g1]? = some (.cells #[.string a0, .int .u64 a1, .bool a2, .string a3] 47 (0, 0))) := by rw [← hg1]; exact BX1
 have BZ2 : Aside0 (W1.heap[g2]? = some (.cells #[.int .i64 0, .string ⟨#[]⟩, .int .u64 0, .string ⟨#[]⟩, .int .u64 0, .int .i64 0, .int .u64 0, .int .u64 0, .int .i64 0] 63 (0, 0))) := by rw [← hg2]; exact BZ1
 clear BX1 BZ1
 rw [hg2]
 refine (key_Read.calls k a0 p1 p2 p3 p4 _ HP.out).mono ?_
 rintro e w2 ⟨rfl, hb⟩
 have BX := Aside0.mk (blk_below BX2.out hb)
 have BZ := Aside0.mk (blk_below BZ2.out hb)
 have HB := Aside0.mk (below_step HB1.out hb)
 clear hb BX2 BZ2 HB1 HP
 rw [hg1]
 clear hg1 hg2
 by_cases h4 : p4 = 0
 case neg =>
  have d1 : (p4 == 0) = false := beq_eq_false_iff_ne.mpr h4
  have d2 : (p4 != 0) = true := bne_iff_ne.mpr h4
  rw [if_pos h4] at h
  simp only [Option.some.injEq, Prod.mk.injEq] at h
  obtain ⟨rfl, rfl⟩ := h
  go_upto_region 3 with (fail)
  have BX4 := Aside0.mk (blk_alloc BX.out (.cells #[.int .i64 p1, .string p2, .int .u64 p3] 61))
  have BZ4 := Aside0.mk (blk_alloc BZ.out (.cells #[.int .i64 p1, .string p2, .int .u64 p3] 61))
  have B44 := Aside0.mk (blk_new w2 (.cells #[.int .i64 p1, .string p2, .int .u64 p3] 61))
  have HB4 := Aside0.mk (below_alloc HB.out (.cells #[.int .i64 p1, .string p2, .int .u64 p3] 61))
  have HG4 : Hid (w.heap.size ≤ w2.heap.size ∧ g1 ≠ w2.heap.size ∧ g2 ≠ w2.heap.size) := Lib.hid ⟨HB.out.size, by have := blk_lt BX.out; omega, by have := blk_lt BZ.out; omega⟩
  clear BX BZ HB
  have BX := BX4
  have BZ := BZ4
  have B4 := B44
  have HB := HB4
  clear BX4 BZ4 B44 HB4
  generalize (w2.alloc (.cells #[.int .i64 p1, .string p2, .int .u64 p3] 61)) = w4 at BX BZ B4 HB ⊢
  generalize w2.heap.size = g4 at B4 HG4 ⊢
  have z0_ : w4.cell? ⟨g2, 0, none⟩ = some (.int .i64 0) := (blk_cell BZ.out 0).trans rfl
  have z1_ : w4.cell? ⟨g2, 1, none⟩ = some (.string ⟨#[]⟩) := (blk_cell BZ.out 1).trans rfl
  have z2_ : w4.cell? ⟨g2, 2, none⟩ = some (.int .u64 0) := (blk_cell BZ.out 2).trans rfl
  have z3_ : w4.cell? ⟨g2, 3, none⟩ = some (.string ⟨#[]⟩) := (blk_cell BZ.out 3).trans rfl
  have z4_ : w4.cell? ⟨g2, 4, none⟩ = some (.int .u64 0) := (blk_cell BZ.out 4).trans rfl
  have z5_ : w4.cell? ⟨g2, 5, none⟩ = some (.int .i64 0) := (blk_cell BZ.out 5).trans rfl
  have z6_ : w4.cell? ⟨g2, 6, none⟩ = some (.int .u64 0) := (blk_cell BZ.out 6).trans rfl
  have z7_ : w4.cell? ⟨g2, 7, none⟩ = some (.int .u64 0) := (blk_cell BZ.out 7).trans rfl
  have z8_ : w4.cell? ⟨g2, 8, none⟩ = some (.int .i64 0) := (blk_cell BZ.out 8).trans rfl
  have fz0_ := blk_frozen BZ.out 0
  have fz1_ := blk_frozen BZ.out 1
  have fz2_ := blk_frozen BZ.out 2
  have fz3_ := blk_frozen BZ.out 3
  have fz4_ := blk_frozen BZ.out 4
  have fz5_ := blk_frozen BZ.out 5
  have fz6_ := blk_frozen BZ.out 6
  have fz7_ := blk_frozen BZ.out 7
  have fz8_ := blk_frozen BZ.out 8
  go_wp2
  exact bodyPost_ret (results_ct rfl _ _ g2 _ #[.int .i64 0, .string ⟨#[]⟩, .int .u64 0, .string ⟨#[]⟩, .int .u64 0, .int .i64 0, .int .u64 0, .int .u64 0, .int .i64 0] (0, 0) _ rfl (blk_put (cs' := #[.int .i64 0, .string ⟨#[]⟩, .int .u64 0, .string ⟨#[]⟩, .int .u64 0, .int .i64 0, .int .u64 0, .int .u64 0, .int .i64 0]) (blk_put (cs' := #[.int .i64 0, .string ⟨#[]⟩, .int .u64 0, .string ⟨#[]⟩, .int .u64 0, .int .i64 0, .int .u64 0, .int .u64 0, .int .i64 0]) (blk_put (cs' := #[.int .i64 0, .string ⟨#[]⟩, .int .u64 0, .string ⟨#[]⟩, .int .u64 0, .int .i64 0, .int .u64 0, .int .u64 0, .int .i64 0]) (blk_put (cs' := #[.int .i64 0, .string ⟨#[]⟩, .int .u64 0, .string ⟨#[]⟩, .int .u64 0, .int .i64 0, .int .u64 0, .int .u64 0, .int .i64 0]) (blk_put (cs' := #[.int .i64 0, .string ⟨#[]⟩, .int .u64 0, .string ⟨#[]⟩, .int .u64 0, .int .i64 0, .int .u64 0, .int .u64 0, .int .i64 0]) (blk_put (cs' := #[.int .i64 0, .string ⟨#[]⟩, .int .u64 0, .string ⟨#[]⟩, .int .u64 0, .int .i64 0, .int .u64 0, .int .u64 0, .int .i64 0]) (blk_put (cs' := #[.int .i64 0, .string ⟨#[]⟩, .int .u64 0, .string ⟨#[]⟩, .int .u64 0, .int .i64 0, .int .u64 0, .int .u64 0, .int .i64 0]) (blk_put (cs' := #[.int .i64 0, .string ⟨#[]⟩, .int .u64 0, .string ⟨#[]⟩, .int .u64 0, .int .i64 0, .int .u64 0, .int .u64 0, .int .i64 0]) (blk_put (cs' := #[.int .i64 0, .string ⟨#[]⟩, .int .u64 0, .string ⟨#[]⟩, .int .u64 0, .int .i64 0, .int .u64 0, .int .u64 0, .int .i64 0]) BZ.out 0 _ rfl) 1 _ rfl) 2 _ rfl) 3 _ rfl) 4 _ rfl) 5 _ rfl) 6 _ rfl) 7 _ rfl) 8 _ rfl) hu63 rfl r6_) rfl ⟨rfl, (((((((((HB.out.setCell (p := ⟨g2, 0, none⟩) HG.out.2.1 _).setCell (p := ⟨g2, 1, none⟩) HG.out.2.1 _).setCell (p := ⟨g2, 2, none⟩) HG.out.2.1 _).setCell (p := ⟨g2, 3, none⟩) HG.out.2.1 _).setCell (p := ⟨g2, 4, none⟩) HG.out.2.1 _).setCell (p := ⟨g2, 5, none⟩) HG.out.2.1 _).setCell (p := ⟨g2, 6, none⟩) HG.out.2.1 _).setCell (p := ⟨g2, 7, none⟩) HG.out.2.1 _).setCell (p := ⟨g2, 8, none⟩) HG.out.2.1 _)⟩
 subst h4
 rw [if_neg r34_] at h
 go_upto_region 4 with (fail)
 have BX4 := Aside0.mk (blk_alloc BX.out (.cells #[.int .i64 p1, .string p2, .int .u64 p3] 61))
 have BZ4 := Aside0.mk (blk_alloc BZ.out (.cells #[.int .i64 p1, .string p2, .int .u64 p3] 61))
 have B44 := Aside0.mk (blk_new w2 (.cells #[.int .i64 p1, .string p2, .int .u64 p3] 61))
 have HB4 := Aside0.mk (below_alloc HB.out (.cells #[.int .i64 p1, .string p2, .int .u64 p3] 61))
 have HG4 : Hid (w.heap.size ≤ w2.heap.size ∧ g1 ≠ w2.heap.size ∧ g2 ≠ w2.heap.size) := Lib.hid ⟨HB.out.size, by have := blk_lt BX.out; omega, by have := blk_lt BZ.out; omega⟩
 clear BX BZ HB
 have BX := BX4
 have BZ := BZ4
 have B4 := B44
 have HB := HB4
 clear BX4 BZ4 B44 HB4
 generalize (w2.alloc (.cells #[.int .i64 p1, .string p2, .int .u64 p3] 61)) = w4 at BX BZ B4 HB ⊢
 generalize w2.heap.size = g4 at B4 HG4 ⊢
 have y0_ : w4.cell? ⟨g4, 0, none⟩ = some (.int .i64 p1) := (blk_cell B4.out 0).trans rfl
 have y1_ : w4.cell? ⟨g4, 1, none⟩ = some (.string p2) := (blk_cell B4.out 1).trans rfl
 have y2_ : w4.cell? ⟨g4, 2, none⟩ = some (.int .u64 p3) := (blk_cell B4.out 2).trans rfl
 go_upto_region 5 with (fail)
 have BX6 := Aside0.mk (blk_alloc BX.out (.cells #[.int .i64 p1, .string p2, .int .u64 p3, .string ⟨#[]⟩, .int .u64 0, .int .i64 0, .int .u64 0, .int .u64 0, .int .i64 0] 63))
 have BZ6 := Aside0.mk (blk_alloc BZ.out (.cells #[.int .i64 p1, .string p2, .int .u64 p3, .string ⟨#[]⟩, .int .u64 0, .int .i64 0, .int .u64 0, .int .u64 0, .int .i64 0] 63))
 have B46 := Aside0.mk (blk_alloc B4.out (.cells #[.int .i64 p1, .string p2, .int .u64 p3, .string ⟨#[]⟩, .int .u64 0, .int .i64 0, .int .u64 0, .int .u64 0, .int .i64 0] 63))
 have B66 := Aside0.mk (blk_new w4 (.cells #[.int .i64 p1, .string p2, .int .u64 p3, .string ⟨#[]⟩, .int .u64 0, .int .i64 0, .int .u64 0, .int .u64 0, .int .i64 0] 63))
 have HB6 := Aside0.mk (below_alloc HB.out (.cells #[.int .i64 p1, .string p2, .int .u64 p3, .string ⟨#[]⟩, .int .u64 0, .int .i64 0, .int .u64 0, .int .u64 0, .int .i64 0] 63))
 have HG6 : Hid (w.heap.size ≤ w4.heap.size ∧ g1 ≠ w4.heap.size ∧ g2 ≠ w4.heap.size ∧ g4 ≠ w4.heap.size) := Lib.hid ⟨HB.out.size, by have := blk_lt BX.out; omega, by have := blk_lt BZ.out; omega, by have := blk_lt B4.out; omega⟩
 clear BX BZ B4 HB y0_ y1_ y2_
 have BX := BX6
 have BZ := BZ6
 have B4 := B46
 have B6 := B66
 have HB := HB6
 clear BX6 BZ6 B46 B66 HB6
 generalize (w4.alloc (.cells #[.int .i64 p1, .string p2, .int .u64 p3, .string ⟨#[]⟩, .int .u64 0, .int .i64 0, .int .u64 0, .int .u64 0, .int .i64 0] 63)) = w6 at BX BZ B4 B6 HB ⊢
 generalize w4.heap.size = g6 at B6 HG6 ⊢
 have y0_ : w6.cell? ⟨g4, 0, none⟩ = some (.int .i64 p1) := (blk_cell B4.out 0).trans rfl
 by_cases hc1 : p1 = 1
 ·subst hc1
  rw [if_pos rfl] at h
  replace h := Option.bind_eq_some_iff.mp h
  obtain ⟨⟨l1, l2, l3, l4, l5⟩, hL, h⟩ := h
  have HL := Lib.hid hL
  clear hL
  simp only [Option.some.injEq, Prod.mk.injEq] at h
  obtain ⟨rfl, hok⟩ := h
  have x0_ : w6.cell? ⟨g1, 0, none⟩ = some (.string a0) := (blk_cell BX.out 0).trans rfl
  have x1_ : w6.cell? ⟨g1, 1, none⟩ = some (.int .u64 a1) := (blk_cell BX.out 1).trans rfl
  have x2_ : w6.cell? ⟨g1, 2, none⟩ = some (.bool a2) := (blk_cell BX.out 2).trans rfl
  have x3_ : w6.cell? ⟨g1, 3, none⟩ = some (.string a3) := (blk_cell BX.out 3).trans rfl
  go_wp2_with (fail)
  refine (col_Unlock.calls k a3 l1 l2 l3 l4 l5 _ HL.out).mono ?_
  rintro e w7 ⟨rfl, hb⟩
  replace BX := Aside0.mk (blk_below BX.out hb)
  replace BZ := Aside0.mk (blk_below BZ.out hb)
  replace B4 := Aside0.mk (blk_below B4.out hb)
  replace B6 := Aside0.mk (blk_below B6.out hb)
  replace HB := Aside0.mk (below_step HB.out hb)
  clear hb HL y0_ x0_ x1_ x2_ x3_
  have s3_ : w7.cell? ⟨g6, 3, none⟩ = some (.string ⟨#[]⟩) := (blk_cell B6.out 3).trans rfl
  have s4_ : w7.cell? ⟨g6, 4, none⟩ = some (.int .u64 0) := (blk_cell B6.out 4).trans rfl
  have s5_ : w7.cell? ⟨g6, 5, none⟩ = some (.int .i64 0) := (blk_cell B6.out 5).trans rfl
  have s6_ : w7.cell? ⟨g6, 6, none⟩ = some (.int .u64 0) := (blk_cell B6.out 6).trans rfl
  have fs3_ := blk_frozen B6.out 3
  have fs4_ := blk_frozen B6.out 4
  have fs5_ := blk_frozen B6.out 5
  have fs6_ := blk_frozen B6.out 6
  go_upto_region 10 with (fail)
  clear s3_ fs3_ s4_ fs4_ s5_ fs5_ s6_ fs6_
  replace BZ := Aside0.mk (blk_far (p := ⟨g6, 6, none⟩) (blk_far (p := ⟨g6, 5, none⟩) (blk_far (p := ⟨g6, 4, none⟩) (blk_far (p := ⟨g6, 3, none⟩) BZ.out HG6.out.2.2.1 (.string l1)) HG6.out.2.2.1 (.int .u64 l2)) HG6.out.2.2.1 (.int .i64 l3)) HG6.out.2.2.1 (.int .u64 l4))
  replace B4 := Aside0.mk (blk_far (p := ⟨g6, 6, none⟩) (blk_far (p := ⟨g6, 5, none⟩) (blk_far (p := ⟨g6, 4, none⟩) (blk_far (p := ⟨g6, 3, none⟩) B4.out HG6.out.2.2.2 (.string l1)) HG6.out.2.2.2 (.int .u64 l2)) HG6.out.2.2.2 (.int .i64 l3)) HG6.out.2.2.2 (.int .u64 l4))
  replace HB := Aside0.mk ((((HB.out.setCell (p := ⟨g6, 3, none⟩) HG6.out.1 (.string l1)).setCell (p := ⟨g6, 4, none⟩) HG6.out.1 (.int .u64 l2)).setCell (p := ⟨g6, 5, none⟩) HG6.out.1 (.int .i64 l3)).setCell (p := ⟨g6, 6, none⟩) HG6.out.1 (.int .u64 l4))
  replace B6 := Aside0.mk (blk_put (cs' := #[.int .i64 1, .string p2, .int .u64 p3, .string l1, .int .u64 l2, .int .i64 l3, .int .u64 l4, .int .u64 0, .int .i64 0]) (blk_put (cs' := #[.int .i64 1, .string p2, .int .u64 p3, .string l1, .int .u64 l2, .int .i64 l3, .int .u64 0, .int .u64 0, .int .i64 0]) (blk_put (cs' := #[.int .i64 1, .string p2, .int .u64 p3, .string l1, .int .u64 l2, .int .i64 0, .int .u64 0, .int .u64 0, .int .i64 0]) (blk_put (cs' := #[.int .i64 1, .string p2, .int .u64 p3, .string l1, .int .u64 0, .int .i64 0, .int .u64 0, .int .u64 0, .int .i64 0]) B6.out 3 (.string l1) rfl) 4 (.int .u64 l2) rfl) 5 (.int .i64 l3) rfl) 6 (.int .u64 l4) rfl)
  clear BX
  generalize ((((w7.setCell ⟨g6, 3, none⟩ (.string l1)).setCell ⟨g6, 4, none⟩ (.int .u64 l2)).setCell ⟨g6, 5, none⟩ (.int .i64 l3)).setCell ⟨g6, 6, none⟩ (.int .u64 l4)) = w8 at BZ B4 B6 HB ⊢
  by_cases he : l5 = 0
  ·subst he
   obtain rfl : true = ok := hok
   have y0_ : w8.cell? ⟨g4, 0, none⟩ = some (.int .i64 1) := (blk_cell B4.out 0).trans rfl
   have s0_ : w8.cell? ⟨g6, 0, none⟩ = some (.int .i64 1) := (blk_cell B6.out 0).trans rfl
   have s1_ : w8.cell? ⟨g6, 1, none⟩ = some (.string p2) := (blk_cell B6.out 1).trans rfl
   have s2_ : w8.cell? ⟨g6, 2, none⟩ = some (.int .u64 p3) := (blk_cell B6.out 2).trans rfl
   have s3_ : w8.cell? ⟨g6, 3, none⟩ = some (.string l1) := (blk_cell B6.out 3).trans rfl
   have s4_ : w8.cell? ⟨g6, 4, none⟩ = some (.int .u64 l2) := (blk_cell B6.out 4).trans rfl
   have s5_ : w8.cell? ⟨g6, 5, none⟩ = some (.int .i64 l3) := (blk_cell B6.out 5).trans rfl
   have s6_ : w8.cell? ⟨g6, 6, none⟩ = some (.int .u64 l4) := (blk_cell B6.out 6).trans rfl
   have s7_ : w8.cell? ⟨g6, 7, none⟩ = some (.int .u64 0) := (blk_cell B6.out 7).trans rfl
   have s8_ : w8.cell? ⟨g6, 8, none⟩ = some (.int .i64 0) := (blk_cell B6.out 8).trans rfl
   have z0_ : w8.cell? ⟨g2, 0, none⟩ = some (.int .i64 0) := (blk_cell BZ.out 0).trans rfl
   have z1_ : w8.cell? ⟨g2, 1, none⟩ = some (.string ⟨#[]⟩) := (blk_cell BZ.out 1).trans rfl
   have z2_ : w8.cell? ⟨g2, 2, none⟩ = some (.int .u64 0) := (blk_cell BZ.out 2).trans rfl
   have z3_ : w8.cell? ⟨g2, 3, none⟩ = some (.string ⟨#[]⟩) := (blk_cell BZ.out 3).trans rfl
   have z4_ : w8.cell? ⟨g2, 4, none⟩ = some (.int .u64 0) := (blk_cell BZ.out 4).trans rfl
   have z5_ : w8.cell? ⟨g2, 5, none⟩ = some (.int .i64 0) := (blk_cell BZ.out 5).trans rfl
   have z6_ : w8.cell? ⟨g2, 6, none⟩ = some (.int .u64 0) := (blk_cell BZ.out 6).trans rfl
   have z7_ : w8.cell? ⟨g2, 7, none⟩ = some (.int .u64 0) := (blk_cell BZ.out 7).trans rfl
   have z8_ : w8.cell? ⟨g2, 8, none⟩ = some (.int .i64 0) := (blk_cell BZ.out 8).trans rfl
   have fz0_ := blk_frozen BZ.out 0
   have fz1_ := blk_frozen BZ.out 1
   have fz2_ := blk_frozen BZ.out 2
   have fz3_ := blk_frozen BZ.out 3
   have fz4_ := blk_frozen BZ.out 4
   have fz5_ := blk_frozen BZ.out 5
   have fz6_ := blk_frozen BZ.out 6
   have fz7_ := blk_frozen BZ.out 7
   have fz8_ := blk_frozen BZ.out 8
   have n24 : g2 ≠ g4 := HG4.out.2.2
   have n42 : g4 ≠ g2 := Ne.symm n24
   have n26 : g2 ≠ g6 := HG6.out.2.2.1
   have n62 : g6 ≠ g2 := Ne.symm n26
   go_wp2
   go_region
   go_wp2
   exact bodyPost_ret (results_ct rfl _ _ g2 _ #[.int .i64 1, .string p2, .int .u64 p3, .string l1, .int .u64 l2, .int .i64 l3, .int .u64 l4, .int .u64 0, .int .i64 0] (0, 0) _ rfl (blk_drew (blk_put (cs' := #[.int .i64 1, .string p2, .int .u64 p3, .string l1, .int .u64 l2, .int .i64 l3, .int .u64 l4, .int .u64 0, .int .i64 0]) (blk_put (cs' := #[.int .i64 1, .string p2, .int .u64 p3, .string l1, .int .u64 l2, .int .i64 l3, .int .u64 l4, .int .u64 0, .int .i64 0]) (blk_put (cs' := #[.int .i64 1, .string p2, .int .u64 p3, .string l1, .int .u64 l2, .int .i64 l3, .int .u64 l4, .int .u64 0, .int .i64 0]) (blk_put (cs' := #[.int .i64 1, .string p2, .int .u64 p3, .string l1, .int .u64 l2, .int .i64 l3, .int .u64 0, .int .u64 0, .int .i64 0]) (blk_put (cs' := #[.int .i64 1, .string p2, .int .u64 p3, .string l1, .int .u64 l2, .int .i64 0, .int .u64 0, .int .u64 0, .int .i64 0]) (blk_put (cs' := #[.int .i64 1, .string p2, .int .u64 p3, .string l1, .int .u64 0, .int .i64 0, .int .u64 0, .int .u64 0, .int .i64 0]) (blk_put (cs' := #[.int .i64 1, .string p2, .int .u64 p3, .string ⟨#[]⟩, .int .u64 0, .int .i64 0, .int .u64 0, .int .u64 0, .int .i64 0]) (blk_put (cs' := #[.int .i64 1, .string p2, .int .u64 0, .string ⟨#[]⟩, .int .u64 0, .int .i64 0, .int .u64 0, .int .u64 0, .int .i64 0]) (blk_put (cs' := #[.int .i64 1, .string ⟨#[]⟩, .int .u64 0, .string ⟨#[]⟩, .int .u64 0, .int .i64 0, .int .u64 0, .int .u64 0, .int .i64 0]) BZ.out 0 _ rfl) 1 _ rfl) 2 _ rfl) 3 _ rfl) 4 _ rfl) 5 _ rfl) 6 _ rfl) 7 _ rfl) 8 _ rfl)) hu63 rfl r6_) rfl ⟨rfl, (below_drew1 (((((((((HB.out.setCell (p := ⟨g2, 0, none⟩) HG.out.2.1 _).setCell (p := ⟨g2, 1, none⟩) HG.out.2.1 _).setCell (p := ⟨g2, 2, none⟩) HG.out.2.1 _).setCell (p := ⟨g2, 3, none⟩) HG.out.2.1 _).setCell (p := ⟨g2, 4, none⟩) HG.out.2.1 _).setCell (p := ⟨g2, 5, none⟩) HG.out.2.1 _).setCell (p := ⟨g2, 6, none⟩) HG.out.2.1 _).setCell (p := ⟨g2, 7, none⟩) HG.out.2.1 _).setCell (p := ⟨g2, 8, none⟩) HG.out.2.1 _))⟩
  have d3 : (l5 == 0) = false := beq_eq_false_iff_ne.mpr he
  rw [decide_eq_false he] at hok
  subst hok
  have y0_ : w8.cell? ⟨g4, 0, none⟩ = some (.int .i64 1) := (blk_cell B4.out 0).trans rfl
  have s0_ : w8.cell? ⟨g6, 0, none⟩ = some (.int .i64 1) := (blk_cell B6.out 0).trans rfl
  have s1_ : w8.cell? ⟨g6, 1, none⟩ = some (.string p2) := (blk_cell B6.out 1).trans rfl
  have s2_ : w8.cell? ⟨g6, 2, none⟩ = some (.int .u64 p3) := (blk_cell B6.out 2).trans rfl
  have s3_ : w8.cell? ⟨g6, 3, none⟩ = some (.string l1) := (blk_cell B6.out 3).trans rfl
  have s4_ : w8.cell? ⟨g6, 4, none⟩ = some (.int .u64 l2) := (blk_cell B6.out 4).trans rfl
  have s5_ : w8.cell? ⟨g6, 5, none⟩ = some (.int .i64 l3) := (blk_cell B6.out 5).trans rfl
  have s6_ : w8.cell? ⟨g6, 6, none⟩ = some (.int .u64 l4) := (blk_cell B6.out 6).trans rfl
  have s7_ : w8.cell? ⟨g6, 7, none⟩ = some (.int .u64 0) := (blk_cell B6.out 7).trans rfl
  have s8_ : w8.cell? ⟨g6, 8, none⟩ = some (.int .i64 0) := (blk_cell B6.out 8).trans rfl
  have z0_ : w8.cell? ⟨g2, 0, none⟩ = some (.int .i64 0) := (blk_cell BZ.out 0).trans rfl
  have z1_ : w8.cell? ⟨g2, 1, none⟩ = some (.string ⟨#[]⟩) := (blk_cell BZ.out 1).trans rfl
  have z2_ : w8.cell? ⟨g2, 2, none⟩ = some (.int .u64 0) := (blk_cell BZ.out 2).trans rfl
  have z3_ : w8.cell? ⟨g2, 3, none⟩ = some (.string ⟨#[]⟩) := (blk_cell BZ.out 3).trans rfl
  have z4_ : w8.cell? ⟨g2, 4, none⟩ = some (.int .u64 0) := (blk_cell BZ.out 4).trans rfl
  have z5_ : w8.cell? ⟨g2, 5, none⟩ = some (.int .i64 0) := (blk_cell BZ.out 5).trans rfl
  have z6_ : w8.cell? ⟨g2, 6, none⟩ = some (.int .u64 0) := (blk_cell BZ.out 6).trans rfl
  have z7_ : w8.cell? ⟨g2, 7, none⟩ = some (.int .u64 0) := (blk_cell BZ.out 7).trans rfl
  have z8_ : w8.cell? ⟨g2, 8, none⟩ = some (.int .i64 0) := (blk_cell BZ.out 8).trans rfl
  have fz0_ := blk_frozen BZ.out 0
  have fz1_ := blk_frozen BZ.out 1
  have fz2_ := blk_frozen BZ.out 2
  have fz3_ := blk_frozen BZ.out 3
  have fz4_ := blk_frozen BZ.out 4
  have fz5_ := blk_frozen BZ.out 5
  have fz6_ := blk_frozen BZ.out 6
  have fz7_ := blk_frozen BZ.out 7
  have fz8_ := blk_frozen BZ.out 8
  have n24 : g2 ≠ g4 := HG4.out.2.2
  have n42 : g4 ≠ g2 := Ne.symm n24
  have n26 : g2 ≠ g6 := HG6.out.2.2.1
  have n62 : g6 ≠ g2 := Ne.symm n26
  go_wp2
  go_region
  go_wp2
  exact bodyPost_ret (results_ct rfl _ _ g2 _ #[.int .i64 1, .string p2, .int .u64 p3, .string l1, .int .u64 l2, .int .i64 l3, .int .u64 l4, .int .u64 0, .int .i64 0] (0, 0) _ rfl (blk_drew (blk_put (cs' := #[.int .i64 1, .string p2, .int .u64 p3, .string l1, .int .u64 l2, .int .i64 l3, .int .u64 l4, .int .u64 0, .int .i64 0]) (blk_put (cs' := #[.int .i64 1, .string p2, .int .u64 p3, .string l1, .int .u64 l2, .int .i64 l3, .int .u64 l4, .int .u64 0, .int .i64 0]) (blk_put (cs' := #[.int .i64 1, .string p2, .int .u64 p3, .string l1, .int .u64 l2, .int .i64 l3, .int .u64 l4, .int .u64 0, .int .i64 0]) (blk_put (cs' := #[.int .i64 1, .string p2, .int .u64 p3, .string l1, .int .u64 l2, .int .i64 l3, .int .u64 0, .int .u64 0, .int .i64 0]) (blk_put (cs' := #[.int .i64 1, .string p2, .int .u64 p3, .string l1, .int .u64 l2, .int .i64 0, .int .u64 0, .int .u64 0, .int .i64 0]) (blk_put (cs' := #[.int .i64 1, .string p2, .int .u64 p3, .string l1, .int .u64 0, .int .i64 0, .int .u64 0, .int .u64 0, .int .i64 0]) (blk_put (cs' := #[.int .i64 1, .string p2, .int .u64 p3, .string ⟨#[]⟩, .int .u64 0, .int .i64 0, .int .u64 0, .int .u64 0, .int .i64 0]) (blk_put (cs' := #[.int .i64 1, .string p2, .int .u64 0, .string ⟨#[]⟩, .int .u64 0, .int .i64 0, .int .u64 0, .int .u64 0, .int .i64 0]) (blk_put (cs' := #[.int .i64 1, .string ⟨#[]⟩, .int .u64 0, .string ⟨#[]⟩, .int .u64 0, .int .i64 0, .int .u64 0, .int .u64 0, .int .i64 0]) BZ.out 0 _ rfl) 1 _ rfl) 2 _ rfl) 3 _ rfl) 4 _ rfl) 5 _ rfl) 6 _ rfl) 7 _ rfl) 8 _ rfl)) hu63 rfl r6_) rfl ⟨rfl, (below_drew1 (((((((((HB.out.setCell (p := ⟨g2, 0, none⟩) HG.out.2.1 _).setCell (p := ⟨g2, 1, none⟩) HG.out.2.1 _).setCell (p := ⟨g2, 2, none⟩) HG.out.2.1 _).setCell (p := ⟨g2, 3, none⟩) HG.out.2.1 _).setCell (p := ⟨g2, 4, none⟩) HG.out.2.1 _).setCell (p := ⟨g2, 5, none⟩) HG.out.2.1 _).setCell (p := ⟨g2, 6, none⟩) HG.out.2.1 _).setCell (p := ⟨g2, 7, none⟩) HG.out.2.1 _).setCell (p := ⟨g2, 8, none⟩) HG.out.2.1 _))⟩
 by_cases hc2 : p1 = 2
 ·subst hc2
  rw [if_neg (show ¬ ((2 : Int) = 1) by decide)] at h
  rw [if_pos rfl] at h
  replace h := Option.bind_eq_some_iff.mp h
  obtain ⟨⟨l1, l2, l3⟩, hL, h⟩ := h
  have HL := Lib.hid hL
  clear hL
  simp only [Option.some.injEq, Prod.mk.injEq] at h
  obtain ⟨rfl, hok⟩ := h
  have x0_ : w6.cell? ⟨g1, 0, none⟩ = some (.string a0) := (blk_cell BX.out 0).trans rfl
  have x1_ : w6.cell? ⟨g1, 1, none⟩ = some (.int .u64 a1) := (blk_cell BX.out 1).trans rfl
  have x2_ : w6.cell? ⟨g1, 2, none⟩ = some (.bool a2) := (blk_cell BX.out 2).trans rfl
  have x3_ : w6.cell? ⟨g1, 3, none⟩ = some (.string a3) := (blk_cell BX.out 3).trans rfl
  go_wp2_with (fail)
  refine (col_Unwrite.calls k a3 l1 l2 l3 _ HL.out).mono ?_
  rintro e w7 ⟨rfl, hb⟩
  replace BX := Aside0.mk (blk_below BX.out hb)
  replace BZ := Aside0.mk (blk_below BZ.out hb)
  replace B4 := Aside0.mk (blk_below B4.out hb)
  replace B6 := Aside0.mk (blk_below B6.out hb)
  replace HB := Aside0.mk (below_step HB.out hb)
  clear hb HL y0_ x0_ x1_ x2_ x3_
  have s7_ : w7.cell? ⟨g6, 7, none⟩ = some (.int .u64 0) := (blk_cell B6.out 7).trans rfl
  have s8_ : w7.cell? ⟨g6, 8, none⟩ = some (.int .i64 0) := (blk_cell B6.out 8).trans rfl
  have fs7_ := blk_frozen B6.out 7
  have fs8_ := blk_frozen B6.out 8
  go_upto_region 10 with (fail)
  clear s7_ fs7_ s8_ fs8_
  replace BZ := Aside0.mk (blk_far (p := ⟨g6, 8, none⟩) (blk_far (p := ⟨g6, 7, none⟩) BZ.out HG6.out.2.2.1 (.int .u64 l1)) HG6.out.2.2.1 (.int .i64 l2))
  replace B4 := Aside0.mk (blk_far (p := ⟨g6, 8, none⟩) (blk_far (p := ⟨g6, 7, none⟩) B4.out HG6.out.2.2.2 (.int .u64 l1)) HG6.out.2.2.2 (.int .i64 l2))
  replace HB := Aside0.mk ((HB.out.setCell (p := ⟨g6, 7, none⟩) HG6.out.1 (.int .u64 l1)).setCell (p := ⟨g6, 8, none⟩) HG6.out.1 (.int .i64 l2))
  replace B6 := Aside0.mk (blk_put (cs' := #[.int .i64 2, .string p2, .int .u64 p3, .string ⟨#[]⟩, .int .u64 0, .int .i64 0, .int .u64 0, .int .u64 l1, .int .i64 l2]) (blk_put (cs' := #[.int .i64 2, .string p2, .int .u64 p3, .string ⟨#[]⟩, .int .u64 0, .int .i64 0, .int .u64 0, .int .u64 l1, .int .i64 0]) B6.out 7 (.int .u64 l1) rfl) 8 (.int .i64 l2) rfl)
  clear BX
  generalize ((w7.setCell ⟨g6, 7, none⟩ (.int .u64 l1)).setCell ⟨g6, 8, none⟩ (.int .i64 l2)) = w8 at BZ B4 B6 HB ⊢
  by_cases he : l3 = 0
  ·subst he
   obtain rfl : true = ok := hok
   have y0_ : w8.cell? ⟨g4, 0, none⟩ = some (.int .i64 2) := (blk_cell B4.out 0).trans rfl
   have s0_ : w8.cell? ⟨g6, 0, none⟩ = some (.int .i64 2) := (blk_cell B6.out 0).trans rfl
   have s1_ : w8.cell? ⟨g6, 1, none⟩ = some (.string p2) := (blk_cell B6.out 1).trans rfl
   have s2_ : w8.cell? ⟨g6, 2, none⟩ = some (.int .u64 p3) := (blk_cell B6.out 2).trans rfl
   have s3_ : w8.cell? ⟨g6, 3, none⟩ = some (.string ⟨#[]⟩) := (blk_cell B6.out 3).trans rfl
   have s4_ : w8.cell? ⟨g6, 4, none⟩ = some (.int .u64 0) := (blk_cell B6.out 4).trans rfl
   have s5_ : w8.cell? ⟨g6, 5, none⟩ = some (.int .i64 0) := (blk_cell B6.out 5).trans rfl
   have s6_ : w8.cell? ⟨g6, 6, none⟩ = some (.int .u64 0) := (blk_cell B6.out 6).trans rfl
   have s7_ : w8.cell? ⟨g6, 7, none⟩ = some (.int .u64 l1) := (blk_cell B6.out 7).trans rfl
   have s8_ : w8.cell? ⟨g6, 8, none⟩ = some (.int .i64 l2) := (blk_cell B6.out 8).trans rfl
   have z0_ : w8.cell? ⟨g2, 0, none⟩ = some (.int .i64 0) := (blk_cell BZ.out 0).trans rfl
   have z1_ : w8.cell? ⟨g2, 1, none⟩ = some (.string ⟨#[]⟩) := (blk_cell BZ.out 1).trans rfl
   have z2_ : w8.cell? ⟨g2, 2, none⟩ = some (.int .u64 0) := (blk_cell BZ.out 2).trans rfl
   have z3_ : w8.cell? ⟨g2, 3, none⟩ = some (.string ⟨#[]⟩) := (blk_cell BZ.out 3).trans rfl
   have z4_ : w8.cell? ⟨g2, 4, none⟩ = some (.int .u64 0) := (blk_cell BZ.out 4).trans rfl
   have z5_ : w8.cell? ⟨g2, 5, none⟩ = some (.int .i64 0) := (blk_cell BZ.out 5).trans rfl
   have z6_ : w8.cell? ⟨g2, 6, none⟩ = some (.int .u64 0) := (blk_cell BZ.out 6).trans rfl
   have z7_ : w8.cell? ⟨g2, 7, none⟩ = some (.int .u64 0) := (blk_cell BZ.out 7).trans rfl
   have z8_ : w8.cell? ⟨g2, 8, none⟩ = some (.int .i64 0) := (blk_cell BZ.out 8).trans rfl
   have fz0_ := blk_frozen BZ.out 0
   have fz1_ := blk_frozen BZ.out 1
   have fz2_ := blk_frozen BZ.out 2
   have fz3_ := blk_frozen BZ.out 3
   have fz4_ := blk_frozen BZ.out 4
   have fz5_ := blk_frozen BZ.out 5
   have fz6_ := blk_frozen BZ.out 6
   have fz7_ := blk_frozen BZ.out 7
   have fz8_ := blk_frozen BZ.out 8
   have n24 : g2 ≠ g4 := HG4.out.2.2
   have n42 : g4 ≠ g2 := Ne.symm n24
   have n26 : g2 ≠ g6 := HG6.out.2.2.1
   have n62 : g6 ≠ g2 := Ne.symm n26
   go_wp2
   go_region
   go_wp2
   exact bodyPost_ret (results_ct rfl _ _ g2 _ #[.int .i64 2, .string p2, .int .u64 p3, .string ⟨#[]⟩, .int .u64 0, .int .i64 0, .int .u64 0, .int .u64 l1, .int .i64 l2] (0, 0) _ rfl (blk_drew (blk_put (cs' := #[.int .i64 2, .string p2, .int .u64 p3, .string ⟨#[]⟩, .int .u64 0, .int .i64 0, .int .u64 0, .int .u64 l1, .int .i64 l2]) (blk_put (cs' := #[.int .i64 2, .string p2, .int .u64 p3, .string ⟨#[]⟩, .int .u64 0, .int .i64 0, .int .u64 0, .int .u64 l1, .int .i64 0]) (blk_put (cs' := #[.int .i64 2, .string p2, .int .u64 p3, .string ⟨#[]⟩, .int .u64 0, .int .i64 0, .int .u64 0, .int .u64 0, .int .i64 0]) (blk_put (cs' := #[.int .i64 2, .string p2, .int .u64 p3, .string ⟨#[]⟩, .int .u64 0, .int .i64 0, .int .u64 0, .int .u64 0, .int .i64 0]) (blk_put (cs' := #[.int .i64 2, .string p2, .int .u64 p3, .string ⟨#[]⟩, .int .u64 0, .int .i64 0, .int .u64 0, .int .u64 0, .int .i64 0]) (blk_put (cs' := #[.int .i64 2, .string p2, .int .u64 p3, .string ⟨#[]⟩, .int .u64 0, .int .i64 0, .int .u64 0, .int .u64 0, .int .i64 0]) (blk_put (cs' := #[.int .i64 2, .string p2, .int .u64 p3, .string ⟨#[]⟩, .int .u64 0, .int .i64 0, .int .u64 0, .int .u64 0, .int .i64 0]) (blk_put (cs' := #[.int .i64 2, .string p2, .int .u64 0, .string ⟨#[]⟩, .int .u64 0, .int .i64 0, .int .u64 0, .int .u64 0, .int .i64 0]) (blk_put (cs' := #[.int .i64 2, .string ⟨#[]⟩, .int .u64 0, .string ⟨#[]⟩, .int .u64 0, .int .i64 0, .int .u64 0, .int .u64 0, .int .i64 0]) BZ.out 0 _ rfl) 1 _ rfl) 2 _ rfl) 3 _ rfl) 4 _ rfl) 5 _ rfl) 6 _ rfl) 7 _ rfl) 8 _ rfl)) hu63 rfl r6_) rfl ⟨rfl, (below_drew1 (((((((((HB.out.setCell (p := ⟨g2, 0, none⟩) HG.out.2.1 _).setCell (p := ⟨g2, 1, none⟩) HG.out.2.1 _).setCell (p := ⟨g2, 2, none⟩) HG.out.2.1 _).setCell (p := ⟨g2, 3, none⟩) HG.out.2.1 _).setCell (p := ⟨g2, 4, none⟩) HG.out.2.1 _).setCell (p := ⟨g2, 5, none⟩) HG.out.2.1 _).setCell (p := ⟨g2, 6, none⟩) HG.out.2.1 _).setCell (p := ⟨g2, 7, none⟩) HG.out.2.1 _).setCell (p := ⟨g2, 8, none⟩) HG.out.2.1 _))⟩
  have d3 : (l3 == 0) = false := beq_eq_false_iff_ne.mpr he
  rw [decide_eq_false he] at hok
  subst hok
  have y0_ : w8.cell? ⟨g4, 0, none⟩ = some (.int .i64 2) := (blk_cell B4.out 0).trans rfl
  have s0_ : w8.cell? ⟨g6, 0, none⟩ = some (.int .i64 2) := (blk_cell B6.out 0).trans rfl
  have s1_ : w8.cell? ⟨g6, 1, none⟩ = some (.string p2) := (blk_cell B6.out 1).trans rfl
  have s2_ : w8.cell? ⟨g6, 2, none⟩ = some (.int .u64 p3) := (blk_cell B6.out 2).trans rfl
  have s3_ : w8.cell? ⟨g6, 3, none⟩ = some (.string ⟨#[]⟩) := (blk_cell B6.out 3).trans rfl
  have s4_ : w8.cell? ⟨g6, 4, none⟩ = some (.int .u64 0) := (blk_cell B6.out 4).trans rfl
  have s5_ : w8.cell? ⟨g6, 5, none⟩ = some (.int .i64 0) := (blk_cell B6.out 5).trans rfl
  have s6_ : w8.cell? ⟨g6, 6, none⟩ = some (.int .u64 0) := (blk_cell B6.out 6).trans rfl
  have s7_ : w8.cell? ⟨g6, 7, none⟩ = some (.int .u64 l1) := (blk_cell B6.out 7).trans rfl
  have s8_ : w8.cell? ⟨g6, 8, none⟩ = some (.int .i64 l2) := (blk_cell B6.out 8).trans rfl
  have z0_ : w8.cell? ⟨g2, 0, none⟩ = some (.int .i64 0) := (blk_cell BZ.out 0).trans rfl
  have z1_ : w8.cell? ⟨g2, 1, none⟩ = some (.string ⟨#[]⟩) := (blk_cell BZ.out 1).trans rfl
  have z2_ : w8.cell? ⟨g2, 2, none⟩ = some (.int .u64 0) := (blk_cell BZ.out 2).trans rfl
  have z3_ : w8.cell? ⟨g2, 3, none⟩ = some (.string ⟨#[]⟩) := (blk_cell BZ.out 3).trans rfl
  have z4_ : w8.cell? ⟨g2, 4, none⟩ = some (.int .u64 0) := (blk_cell BZ.out 4).trans rfl
  have z5_ : w8.cell? ⟨g2, 5, none⟩ = some (.int .i64 0) := (blk_cell BZ.out 5).trans rfl
  have z6_ : w8.cell? ⟨g2, 6, none⟩ = some (.int .u64 0) := (blk_cell BZ.out 6).trans rfl
  have z7_ : w8.cell? ⟨g2, 7, none⟩ = some (.int .u64 0) := (blk_cell BZ.out 7).trans rfl
  have z8_ : w8.cell? ⟨g2, 8, none⟩ = some (.int .i64 0) := (blk_cell BZ.out 8).trans rfl
  have fz0_ := blk_frozen BZ.out 0
  have fz1_ := blk_frozen BZ.out 1
  have fz2_ := blk_frozen BZ.out 2
  have fz3_ := blk_frozen BZ.out 3
  have fz4_ := blk_frozen BZ.out 4
  have fz5_ := blk_frozen BZ.out 5
  have fz6_ := blk_frozen BZ.out 6
  have fz7_ := blk_frozen BZ.out 7
  have fz8_ := blk_frozen BZ.out 8
  have n24 : g2 ≠ g4 := HG4.out.2.2
  have n42 : g4 ≠ g2 := Ne.symm n24
  have n26 : g2 ≠ g6 := HG6.out.2.2.1
  have n62 : g6 ≠ g2 := Ne.symm n26
  go_wp2
  go_region
  go_wp2
  exact bodyPost_ret (results_ct rfl _ _ g2 _ #[.int .i64 2, .string p2, .int .u64 p3, .string ⟨#[]⟩, .int .u64 0, .int .i64 0, .int .u64 0, .int .u64 l1, .int .i64 l2] (0, 0) _ rfl (blk_drew (blk_put (cs' := #[.int .i64 2, .string p2, .int .u64 p3, .string ⟨#[]⟩, .int .u64 0, .int .i64 0, .int .u64 0, .int .u64 l1, .int .i64 l2]) (blk_put (cs' := #[.int .i64 2, .string p2, .int .u64 p3, .string ⟨#[]⟩, .int .u64 0, .int .i64 0, .int .u64 0, .int .u64 l1, .int .i64 0]) (blk_put (cs' := #[.int .i64 2, .string p2, .int .u64 p3, .string ⟨#[]⟩, .int .u64 0, .int .i64 0, .int .u64 0, .int .u64 0, .int .i64 0]) (blk_put (cs' := #[.int .i64 2, .string p2, .int .u64 p3, .string ⟨#[]⟩, .int .u64 0, .int .i64 0, .int .u64 0, .int .u64 0, .int .i64 0]) (blk_put (cs' := #[.int .i64 2, .string p2, .int .u64 p3, .string ⟨#[]⟩, .int .u64 0, .int .i64 0, .int .u64 0, .int .u64 0, .int .i64 0]) (blk_put (cs' := #[.int .i64 2, .string p2, .int .u64 p3, .string ⟨#[]⟩, .int .u64 0, .int .i64 0, .int .u64 0, .int .u64 0, .int .i64 0]) (blk_put (cs' := #[.int .i64 2, .string p2, .int .u64 p3, .string ⟨#[]⟩, .int .u64 0, .int .i64 0, .int .u64 0, .int .u64 0, .int .i64 0]) (blk_put (cs' := #[.int .i64 2, .string p2, .int .u64 0, .string ⟨#[]⟩, .int .u64 0, .int .i64 0, .int .u64 0, .int .u64 0, .int .i64 0]) (blk_put (cs' := #[.int .i64 2, .string ⟨#[]⟩, .int .u64 0, .string ⟨#[]⟩, .int .u64 0, .int .i64 0, .int .u64 0, .int .u64 0, .int .i64 0]) BZ.out 0 _ rfl) 1 _ rfl) 2 _ rfl) 3 _ rfl) 4 _ rfl) 5 _ rfl) 6 _ rfl) 7 _ rfl) 8 _ rfl)) hu63 rfl r6_) rfl ⟨rfl, (below_drew1 (((((((((HB.out.setCell (p := ⟨g2, 0, none⟩) HG.out.2.1 _).setCell (p := ⟨g2, 1, none⟩) HG.out.2.1 _).setCell (p := ⟨g2, 2, none⟩) HG.out.2.1 _).setCell (p := ⟨g2, 3, none⟩) HG.out.2.1 _).setCell (p := ⟨g2, 4, none⟩) HG.out.2.1 _).setCell (p := ⟨g2, 5, none⟩) HG.out.2.1 _).setCell (p := ⟨g2, 6, none⟩) HG.out.2.1 _).setCell (p := ⟨g2, 7, none⟩) HG.out.2.1 _).setCell (p := ⟨g2, 8, none⟩) HG.out.2.1 _))⟩
 have e1_ : (p1 == 1) = false := beq_eq_false_iff_ne.mpr hc1
 have e2_ : (p1 == 2) = false := beq_eq_false_iff_ne.mpr hc2
 rw [if_neg hc1, if_neg hc2] at h
 simp only [Option.some.injEq, Prod.mk.injEq] at h
 obtain ⟨rfl, hok⟩ := h
 by_cases he : p1 = 4
 ·have d4 : (p1 != 4) = false := by rw [he]; rfl
  have hok2 : false = ok := by rw [← hok]; exact (decide_eq_false (fun z => z he)).symm
  subst hok2
  clear he hok
  go_upto_region 10 with (fail)
  have y0_ : w6.cell? ⟨g4, 0, none⟩ = some (.int .i64 p1) := (blk_cell B4.out 0).trans rfl
  have s0_ : w6.cell? ⟨g6, 0, none⟩ = some (.int .i64 p1) := (blk_cell B6.out 0).trans rfl
  have s1_ : w6.cell? ⟨g6, 1, none⟩ = some (.string p2) := (blk_cell B6.out 1).trans rfl
  have s2_ : w6.cell? ⟨g6, 2, none⟩ = some (.int .u64 p3) := (blk_cell B6.out 2).trans rfl
  have s3_ : w6.cell? ⟨g6, 3, none⟩ = some (.string ⟨#[]⟩) := (blk_cell B6.out 3).trans rfl
  have s4_ : w6.cell? ⟨g6, 4, none⟩ = some (.int .u64 0) := (blk_cell B6.out 4).trans rfl
  have s5_ : w6.cell? ⟨g6, 5, none⟩ = some (.int .i64 0) := (blk_cell B6.out 5).trans rfl
  have s6_ : w6.cell? ⟨g6, 6, none⟩ = some (.int .u64 0) := (blk_cell B6.out 6).trans rfl
  have s7_ : w6.cell? ⟨g6, 7, none⟩ = some (.int .u64 0) := (blk_cell B6.out 7).trans rfl
  have s8_ : w6.cell? ⟨g6, 8, none⟩ = some (.int .i64 0) := (blk_cell B6.out 8).trans rfl
  have z0_ : w6.cell? ⟨g2, 0, none⟩ = some (.int .i64 0) := (blk_cell BZ.out 0).trans rfl
  have z1_ : w6.cell? ⟨g2, 1, none⟩ = some (.string ⟨#[]⟩) := (blk_cell BZ.out 1).trans rfl
  have z2_ : w6.cell? ⟨g2, 2, none⟩ = some (.int .u64 0) := (blk_cell BZ.out 2).trans rfl
  have z3_ : w6.cell? ⟨g2, 3, none⟩ = some (.string ⟨#[]⟩) := (blk_cell BZ.out 3).trans rfl
  have z4_ : w6.cell? ⟨g2, 4, none⟩ = some (.int .u64 0) := (blk_cell BZ.out 4).trans rfl
  have z5_ : w6.cell? ⟨g2, 5, none⟩ = some (.int .i64 0) := (blk_cell BZ.out 5).trans rfl
  have z6_ : w6.cell? ⟨g2, 6, none⟩ = some (.int .u64 0) := (blk_cell BZ.out 6).trans rfl
  have z7_ : w6.cell? ⟨g2, 7, none⟩ = some (.int .u64 0) := (blk_cell BZ.out 7).trans rfl
  have z8_ : w6.cell? ⟨g2, 8, none⟩ = some (.int .i64 0) := (blk_cell BZ.out 8).trans rfl
  have fz0_ := blk_frozen BZ.out 0
  have fz1_ := blk_frozen BZ.out 1
  have fz2_ := blk_frozen BZ.out 2
  have fz3_ := blk_frozen BZ.out 3
  have fz4_ := blk_frozen BZ.out 4
  have fz5_ := blk_frozen BZ.out 5
  have fz6_ := blk_frozen BZ.out 6
  have fz7_ := blk_frozen BZ.out 7
  have fz8_ := blk_frozen BZ.out 8
  have n24 : g2 ≠ g4 := HG4.out.2.2
  have n42 : g4 ≠ g2 := Ne.symm n24
  have n26 : g2 ≠ g6 := HG6.out.2.2.1
  have n62 : g6 ≠ g2 := Ne.symm n26
  go_wp2
  go_region
  go_wp2
  exact bodyPost_ret (results_ct rfl _ _ g2 _ #[.int .i64 p1, .string p2, .int .u64 p3, .string ⟨#[]⟩, .int .u64 0, .int .i64 0, .int .u64 0, .int .u64 0, .int .i64 0] (0, 0) _ rfl (blk_drew (blk_put (cs' := #[.int .i64 p1, .string p2, .int .u64 p3, .string ⟨#[]⟩, .int .u64 0, .int .i64 0, .int .u64 0, .int .u64 0, .int .i64 0]) (blk_put (cs' := #[.int .i64 p1, .string p2, .int .u64 p3, .string ⟨#[]⟩, .int .u64 0, .int .i64 0, .int .u64 0, .int .u64 0, .int .i64 0]) (blk_put (cs' := #[.int .i64 p1, .string p2, .int .u64 p3, .string ⟨#[]⟩, .int .u64 0, .int .i64 0, .int .u64 0, .int .u64 0, .int .i64 0]) (blk_put (cs' := #[.int .i64 p1, .string p2, .int .u64 p3, .string ⟨#[]⟩, .int .u64 0, .int .i64 0, .int .u64 0, .int .u64 0, .int .i64 0]) (blk_put (cs' := #[.int .i64 p1, .string p2, .int .u64 p3, .string ⟨#[]⟩, .int .u64 0, .int .i64 0, .int .u64 0, .int .u64 0, .int .i64 0]) (blk_put (cs' := #[.int .i64 p1, .string p2, .int .u64 p3, .string ⟨#[]⟩, .int .u64 0, .int .i64 0, .int .u64 0, .int .u64 0, .int .i64 0]) (blk_put (cs' := #[.int .i64 p1, .string p2, .int .u64 p3, .string ⟨#[]⟩, .int .u64 0, .int .i64 0, .int .u64 0, .int .u64 0, .int .i64 0]) (blk_put (cs' := #[.int .i64 p1, .string p2, .int .u64 0, .string ⟨#[]⟩, .int .u64 0, .int .i64 0, .int .u64 0, .int .u64 0, .int .i64 0]) (blk_put (cs' := #[.int .i64 p1, .string ⟨#[]⟩, .int .u64 0, .string ⟨#[]⟩, .int .u64 0, .int .i64 0, .int .u64 0, .int .u64 0, .int .i64 0]) BZ.out 0 _ rfl) 1 _ rfl) 2 _ rfl) 3 _ rfl) 4 _ rfl) 5 _ rfl) 6 _ rfl) 7 _ rfl) 8 _ rfl)) hu63 rfl r6_) rfl ⟨rfl, (below_drew1 (((((((((HB.out.setCell (p := ⟨g2, 0, none⟩) HG.out.2.1 _).setCell (p := ⟨g2, 1, none⟩) HG.out.2.1 _).setCell (p := ⟨g2, 2, none⟩) HG.out.2.1 _).setCell (p := ⟨g2, 3, none⟩) HG.out.2.1 _).setCell (p := ⟨g2, 4, none⟩) HG.out.2.1 _).setCell (p := ⟨g2, 5, none⟩) HG.out.2.1 _).setCell (p := ⟨g2, 6, none⟩) HG.out.2.1 _).setCell (p := ⟨g2, 7, none⟩) HG.out.2.1 _).setCell (p := ⟨g2, 8, none⟩) HG.out.2.1 _))⟩
 have d4 : (p1 != 4) = true := bne_iff_ne.mpr he
 have hok2 : true = ok := by rw [← hok]; exact (decide_eq_true he).symm
 subst hok2
 clear he hok
 go_upto_region 10 with (fail)
 have y0_ : w6.cell? ⟨g4, 0, none⟩ = some (.int .i64 p1) := (blk_cell B4.out 0).trans rfl
 have s0_ : w6.cell? ⟨g6, 0, none⟩ = some (.int .i64 p1) := (blk_cell B6.out 0).trans rfl
 have s1_ : w6.cell? ⟨g6, 1, none⟩ = some (.string p2) := (blk_cell B6.out 1).trans rfl
 have s2_ : w6.cell? ⟨g6, 2, none⟩ = some (.int .u64 p3) := (blk_cell B6.out 2).trans rfl
 have s3_ : w6.cell? ⟨g6, 3, none⟩ = some (.string ⟨#[]⟩) := (blk_cell B6.out 3).trans rfl
 have s4_ : w6.cell? ⟨g6, 4, none⟩ = some (.int .u64 0) := (blk_cell B6.out 4).trans rfl
 have s5_ : w6.cell? ⟨g6, 5, none⟩ = some (.int .i64 0) := (blk_cell B6.out 5).trans rfl
 have s6_ : w6.cell? ⟨g6, 6, none⟩ = some (.int .u64 0) := (blk_cell B6.out 6).trans rfl
 have s7_ : w6.cell? ⟨g6, 7, none⟩ = some (.int .u64 0) := (blk_cell B6.out 7).trans rfl
 have s8_ : w6.cell? ⟨g6, 8, none⟩ = some (.int .i64 0) := (blk_cell B6.out 8).trans rfl
 have z0_ : w6.cell? ⟨g2, 0, none⟩ = some (.int .i64 0) := (blk_cell BZ.out 0).trans rfl
 have z1_ : w6.cell? ⟨g2, 1, none⟩ = some (.string ⟨#[]⟩) := (blk_cell BZ.out 1).trans rfl
 have z2_ : w6.cell? ⟨g2, 2, none⟩ = some (.int .u64 0) := (blk_cell BZ.out 2).trans rfl
 have z3_ : w6.cell? ⟨g2, 3, none⟩ = some (.string ⟨#[]⟩) := (blk_cell BZ.out 3).trans rfl
 have z4_ : w6.cell? ⟨g2, 4, none⟩ = some (.int .u64 0) := (blk_cell BZ.out 4).trans rfl
 have z5_ : w6.cell? ⟨g2, 5, none⟩ = some (.int .i64 0) := (blk_cell BZ.out 5).trans rfl
 have z6_ : w6.cell? ⟨g2, 6, none⟩ = some (.int .u64 0) := (blk_cell BZ.out 6).trans rfl
 have z7_ : w6.cell? ⟨g2, 7, none⟩ = some (.int .u64 0) := (blk_cell BZ.out 7).trans rfl
 have z8_ : w6.cell? ⟨g2, 8, none⟩ = some (.int .i64 0) := (blk_cell BZ.out 8).trans rfl
 have fz0_ := blk_frozen BZ.out 0
 have fz1_ := blk_frozen BZ.out 1
 have fz2_ := blk_frozen BZ.out 2
 have fz3_ := blk_frozen BZ.out 3
 have fz4_ := blk_frozen BZ.out 4
 have fz5_ := blk_frozen BZ.out 5
 have fz6_ := blk_frozen BZ.out 6
 have fz7_ := blk_frozen BZ.out 7
 have fz8_ := blk_frozen BZ.out 8
 have n24 : g2 ≠ g4 := HG4.out.2.2
 have n42 : g4 ≠ g2 := Ne.symm n24
 have n26 : g2 ≠ g6 := HG6.out.2.2.1
 have n62 : g6 ≠ g2 := Ne.symm n26
 go_wp2
 go_region
 go_wp2
 exact bodyPost_ret (results_ct rfl _ _ g2 _ #[.int .i64 p1, .string p2, .int .u64 p3, .string ⟨#[]⟩, .int .u64 0, .int .i64 0, .int .u64 0, .int .u64 0, .int .i64 0] (0, 0) _ rfl (blk_drew (blk_put (cs' := #[.int .i64 p1, .string p2, .int .u64 p3, .string ⟨#[]⟩, .int .u64 0, .int .i64 0, .int .u64 0, .int .u64 0, .int .i64 0]) (blk_put (cs' := #[.int .i64 p1, .string p2, .int .u64 p3, .string ⟨#[]⟩, .int .u64 0, .int .i64 0, .int .u64 0, .int .u64 0, .int .i64 0]) (blk_put (cs' := #[.int .i64 p1, .string p2, .int .u64 p3, .string ⟨#[]⟩, .int .u64 0, .int .i64 0, .int .u64 0, .int .u64 0, .int .i64 0]) (blk_put (cs' := #[.int .i64 p1, .string p2, .int .u64 p3, .string ⟨#[]⟩, .int .u64 0, .int .i64 0, .int .u64 0, .int .u64 0, .int .i64 0]) (blk_put (cs' := #[.int .i64 p1, .string p2, .int .u64 p3, .string ⟨#[]⟩, .int .u64 0, .int .i64 0, .int .u64 0, .int .u64 0, .int .i64 0]) (blk_put (cs' := #[.int .i64 p1, .string p2, .int .u64 p3, .string ⟨#[]⟩, .int .u64 0, .int .i64 0, .int .u64 0, .int .u64 0, .int .i64 0]) (blk_put (cs' := #[.int .i64 p1, .string p2, .int .u64 p3, .string ⟨#[]⟩, .int .u64 0, .int .i64 0, .int .u64 0, .int .u64 0, .int .i64 0]) (blk_put (cs' := #[.int .i64 p1, .string p2, .int .u64 0, .string ⟨#[]⟩, .int .u64 0, .int .i64 0, .int .u64 0, .int .u64 0, .int .i64 0]) (blk_put (cs' := #[.int .i64 p1, .string ⟨#[]⟩, .int .u64 0, .string ⟨#[]⟩, .int .u64 0, .int .i64 0, .int .u64 0, .int .u64 0, .int .i64 0]) BZ.out 0 _ rfl) 1 _ rfl) 2 _ rfl) 3 _ rfl) 4 _ rfl) 5 _ rfl) 6 _ rfl) 7 _ rfl) 8 _ rfl)) hu63 rfl r6_) rfl ⟨rfl, (below_drew1 (((((((((HB.out.setCell (p := ⟨g2, 0, none⟩) HG.out.2.1 _).setCell (p := ⟨g2, 1, none⟩) HG.out.2.1 _).setCell (p := ⟨g2, 2, none⟩) HG.out.2.1 _).setCell (p := ⟨g2, 3, none⟩) HG.out.2.1 _).setCell (p := ⟨g2, 4, none⟩) HG.out.2.1 _).setCell (p := ⟨g2, 5, none⟩) HG.out.2.1 _).setCell (p := ⟨g2, 6, none⟩) HG.out.2.1 _).setCell (p := ⟨g2, 7, none⟩) HG.out.2.1 _).setCell (p := ⟨g2, 8, none⟩) HG.out.2.1 _))⟩

end Go.Proofs.Ytcdadhgcjkgnoaa.P
