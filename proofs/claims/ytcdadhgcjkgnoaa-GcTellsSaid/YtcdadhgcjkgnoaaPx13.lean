-- Printed by a program of this session's own (wip/tools/pprint.sh, over the kit's print, with given contracts): not typed by hand.
import Derived.Test.YtcdadhgcjkgnoaaWKept
import Derived.Test.YtcdadhgcjkgnoaaPx0
import Derived.Test.YtcdadhgcjkgnoaaPx10
import Derived.Test.YtcdadhgcjkgnoaaPx12
namespace Go.Proofs.Ytcdadhgcjkgnoaa.P
open Go.RowKit Go.Proofs.YtcdadhgcjkgnoaaW.PrintWords Go.Proofs.YtcdadhgcjkgnoaaW.PrintLast Go.Proofs.YtcdadhgcjkgnoaaW.PrintMore
set_option linter.unusedVariables false
set_option linter.unusedSimpArgs false
-- SQUEEZED3

/-! ### screeref02_Read: function 30 -/
def screeref02_Read.f (k : Nat) (a0 : ByteArray) : Option (Int × ByteArray × Int × Int) := if (a0.size : Int) = 0 then (some (0, (⟨#[]⟩ : ByteArray), 0, 2)) else (if 1 ≤ (a0.size : Int) then ((screeref02_Unescape.f k (a0.extract 1 a0.size)).bind fun bt224 => (if bt224.2.2 = 0 then (if 0 < (a0.size : Int) then (if (wrap64 (bt a0 0)) = 1 then ((screeref02_Make.f k (wrap64 (bt a0 0)) bt224.1 0).bind fun bt228 => (if bt228.2 = 0 then (if bt228.1.toList = a0.toList then (some (wrap64 (bt a0 0), bt224.1, 0, 0)) else (some (0, (⟨#[]⟩ : ByteArray), 0, 2))) else (some (0, (⟨#[]⟩ : ByteArray), 0, 2)))) else ((screeref01_Unfall.f k bt224.2.1).bind fun bt230 => ((screeref02_Make.f k (wrap64 (bt a0 0)) bt224.1 bt230.1).bind fun bt232 => (if bt232.2 = 0 then (if bt232.1.toList = a0.toList then (some (wrap64 (bt a0 0), bt224.1, bt230.1, 0)) else (some (0, (⟨#[]⟩ : ByteArray), 0, 2))) else (some (0, (⟨#[]⟩ : ByteArray), 0, 2)))))) else (none)) else (some (0, (⟨#[]⟩ : ByteArray), 0, 2)))) else (none))
theorem screeref02_Read.mono : ∀ a0 k, LeO (screeref02_Read.f k a0) (screeref02_Read.f (k + 1) a0) := by
 intro a0 k
 unfold screeref02_Read.f
 repeat' first
   | (with_reducible exact LeO.refl _)
   | (with_reducible exact LeO.none _)
   | (with_reducible refine LeO.ite ?_ ?_)
   | (with_reducible refine LeO.bind ?_ (fun _ => ?_))
   | exact screeref01_Unfall.mono _ _
   | exact screeref02_Make.mono _ _ _ _
   | exact screeref02_Unescape.mono _ _
   | exact LeO.none _
   | refine LeO.ite ?_ ?_
   | refine LeO.bind ?_ (fun _ => ?_)
set_option maxHeartbeats 8000000 in
set_option maxHeartbeats 3200000 in
set_option maxRecDepth 100000 in
theorem screeref02_Read.calls (k : Nat) (a0 : ByteArray) (r1 : Int) (r2 : ByteArray) (r3 : Int) (r4 : Int) (w : World) (h : screeref02_Read.f k a0 = some (r1, r2, r3, r4)) :
  Calls Try.prog 30 #[.string a0] w fun e w' => e = .returned (.tuple #[.agg #[.int .i64 r1, .string r2, .int .u64 r3], .int .i64 r4]) ∧ Below w.heap.size w w' := by
 have hu := Try.underlying53
 have hfin : ∀ (tmps : Array Value) (W : World) (g : Nat) (c0 c1 c2 : Value), tmps.getD 2 undef = .pointer (some ⟨g, 0, none⟩) → W.heap[g]? = some (.cells #[c0, c1, c2] 53 (0, 0)) → (results Try.f30 tmps).run Try.prog W = .ok (.tuple #[.agg #[c0, c1, c2], tmps.getD 3 undef]) W :=
  fun tmps W g c0 c1 c2 hp hg => results_ct rfl tmps W g _ #[c0, c1, c2] (0, 0) _ hp hg hu rfl r6_
 unfold screeref02_Read.f at h
 by_cases hz : (a0.size : Int) = 0
 ·rw [if_pos hz] at h
  simp only [Option.some.injEq, Prod.mk.injEq] at h
  obtain ⟨rfl, rfl, rfl, rfl⟩ := h
  have d1 : ((a0.size : Int) == 0) = true := beq_iff_eq.mpr hz
  clear hz
  go_enter Try.func30, Try.ntmps30
  go_wp2
  exact bodyPost_ret (hfin _ _ _ _ _ _ rfl (blk_new _ _)) rfl ⟨rfl, below_alloc (Below.refl _ _) _⟩
 rw [if_neg hz] at h
 have d1 : ((a0.size : Int) == 0) = false := beq_eq_false_iff_ne.mpr hz
 have hpos : 0 < a0.size := by omega
 rw [if_pos r37_] at h
 clear hz
 replace h := Option.bind_eq_some_iff.mp h
 obtain ⟨⟨u, rest, e1⟩, hA, h⟩ := h
 have HA := Lib.hid hA
 clear hA
 have hbt : bt a0 0 = ((a0[0].toNat : Nat) : Int) := by
  unfold bt
  have h0 : ((0 : Int)).toNat < a0.size := by simpa using hpos
  rw [dif_pos h0]; rfl
 rw [hbt] at h
 obtain ⟨kd, hkd⟩ : ∃ kd, wrap64 ((a0[0].toNat : Nat) : Int) = kd := ⟨_, rfl⟩
 rw [hkd] at h
 clear hbt
 go_enter Try.func30, Try.ntmps30
 go_wp2_with (fail)
 have BR1 : Aside0 ((w.alloc (.cells #[.int .i64 0, .string ⟨#[]⟩, .int .u64 0] 53)).heap[w.heap.size]? = some (.cells #[.int .i64 0, .string ⟨#[]⟩, .int .u64 0] 53 (0, 0))) := ⟨blk_new _ _⟩
 have HB1 : Aside0 (Below w.heap.size w (w.alloc (.cells #[.int .i64 0, .string ⟨#[]⟩, .int .u64 0] 53))) := ⟨below_alloc (Below.refl _ _) _⟩
 generalize (w.alloc (.cells #[.int .i64 0, .string ⟨#[]⟩, .int .u64 0] 53)) = w1 at BR1 HB1 ⊢
 obtain ⟨g1, hg1⟩ : ∃ g, w.heap.size = g := ⟨_, rfl⟩
 have HG1 : Hid (w.heap.size ≤ g1) := Lib.hid (Nat.le_of_eq hg1)
 have BR2 : Aside0 (w1.heap[g1]? = some (.cells #[.int .i64 0, .string ⟨#[]⟩, .int .u64 0] 53 (0, 0))) := ⟨by rw [← hg1]; exact BR1.out⟩
 clear BR1
 rw [hg1]
 clear hg1
 refine (screeref02_Unescape.calls k (a0.extract 1 a0.size) u rest e1 w1 HA.out).mono ?_
 rintro e w2 ⟨rfl, hb⟩
 have BR3 := Aside0.mk (blk_below BR2.out hb)
 have HB2 := Aside0.mk (below_step HB1.out hb)
 clear hb BR2 HB1
 by_cases he1 : e1 = 0
 rotate_left
 ·have e1_ : (e1 == 0) = false := beq_eq_false_iff_ne.mpr he1
  have e2_ : (e1 != 0) = true := bne_iff_ne.mpr he1
  have hh2 : some ((0 : Int), (⟨#[]⟩ : ByteArray), (0 : Int), (2 : Int)) = some (r1, r2, r3, r4) := by
   have := h
   simp only [he1, if_false] at this
   exact this
  clear h
  simp only [Option.some.injEq, Prod.mk.injEq] at hh2
  obtain ⟨rfl, rfl, rfl, rfl⟩ := hh2
  have r0_ : w2.cell? ⟨g1, 0, none⟩ = some (.int .i64 0) := (blk_cell BR3.out 0).trans rfl
  have r1_ : w2.cell? ⟨g1, 1, none⟩ = some (.string ⟨#[]⟩) := (blk_cell BR3.out 1).trans rfl
  have r2_ : w2.cell? ⟨g1, 2, none⟩ = some (.int .u64 0) := (blk_cell BR3.out 2).trans rfl
  have p0_ := blk_frozen BR3.out 0
  have p1_ := blk_frozen BR3.out 1
  have p2_ := blk_frozen BR3.out 2
  go_wp2
  exact bodyPost_ret (hfin _ _ g1 _ _ _ rfl (blk_put (cs' := #[.int .i64 0, .string ⟨#[]⟩, .int .u64 0]) (blk_put (cs' := #[.int .i64 0, .string ⟨#[]⟩, .int .u64 0]) (blk_put (cs' := #[.int .i64 0, .string ⟨#[]⟩, .int .u64 0]) BR3.out 0 _ rfl) 1 _ rfl) 2 _ rfl)) rfl ⟨rfl, ((HB2.out.setCell (p := ⟨g1, 0, none⟩) HG1.out _).setCell (p := ⟨g1, 1, none⟩) HG1.out _).setCell (p := ⟨g1, 2, none⟩) HG1.out _⟩
 subst he1
 have h2 : (if 0 < (a0.size : Int) then (if kd = 1 then ((screeref02_Make.f k kd u 0).bind fun bt228 => (if bt228.2 = 0 then (if bt228.1.toList = a0.toList then (some (kd, u, (0 : Int), (0 : Int))) else (some (0, (⟨#[]⟩ : ByteArray), 0, 2))) else (some (0, (⟨#[]⟩ : ByteArray), 0, 2)))) else ((screeref01_Unfall.f k rest).bind fun bt230 => ((screeref02_Make.f k kd u bt230.1).bind fun bt232 => (if bt232.2 = 0 then (if bt232.1.toList = a0.toList then (some (kd, u, bt230.1, (0 : Int))) else (some (0, (⟨#[]⟩ : ByteArray), 0, 2))) else (some (0, (⟨#[]⟩ : ByteArray), 0, 2)))))) else none) = some (r1, r2, r3, r4) := h
 clear h
 rw [if_pos r37_] at h2
 have H2 := Lib.hid h2
 clear h2
 go_upto_region 7 with (fail)
 have BL3 : Aside0 ((w2.alloc (.cells #[.int .i64 kd, .string u, .int .u64 0] 53)).heap[w2.heap.size]? = some (.cells #[.int .i64 kd, .string u, .int .u64 0] 53 (0, 0))) := ⟨blk_new _ _⟩
 have BR4 := Aside0.mk (blk_alloc BR3.out (.cells #[.int .i64 kd, .string u, .int .u64 0] 53))
 have HB3 := Aside0.mk (below_alloc HB2.out (.cells #[.int .i64 kd, .string u, .int .u64 0] 53))
 have HG3 : Hid (w.heap.size ≤ w2.heap.size) := Lib.hid HB2.out.size
 have HG4 : Hid (g1 < w2.heap.size) := Lib.hid (blk_lt BR3.out)
 generalize (w2.alloc (.cells #[.int .i64 kd, .string u, .int .u64 0] 53)) = w3 at BL3 BR4 HB3 ⊢
 generalize w2.heap.size = g3 at BL3 HG3 HG4 ⊢
 clear BR3 HB2
 have HKD := Lib.hid hkd
 clear hkd
 have z0_ : w3.cell? ⟨g3, 0, none⟩ = some (.int .i64 kd) := (blk_cell BL3.out 0).trans rfl
 have h := H2.out
 clear H2
 by_cases hk1 : kd = 1
 ·rw [if_pos hk1] at h
  have k1_ : (kd == 1) = true := beq_iff_eq.mpr hk1
  have k2_ : (kd != 1) = false := bne_eq_false_iff_eq.mpr hk1
  clear hk1
  have c0_ : w3.cell? ⟨g3, 0, none⟩ = some (.int .i64 kd) := (blk_cell BL3.out 0).trans rfl
  have c1_ : w3.cell? ⟨g3, 1, none⟩ = some (.string u) := (blk_cell BL3.out 1).trans rfl
  have c2_ : w3.cell? ⟨g3, 2, none⟩ = some (.int .u64 0) := (blk_cell BL3.out 2).trans rfl
  replace h := Option.bind_eq_some_iff.mp h
  obtain ⟨⟨is, e3⟩, hC, h⟩ := h
  have HC := Lib.hid hC
  have HH := Lib.hid h
  clear hC h
  go_wp2_with (fail)
  refine (screeref02_Make.calls k kd u 0 is e3 w3 HC.out).mono ?_
  rintro e w7 ⟨rfl, hb⟩
  have BL7 := Aside0.mk (blk_below BL3.out hb)
  have BR7 := Aside0.mk (blk_below BR4.out hb)
  have HB7 := Aside0.mk (below_step HB3.out hb)
  clear c0_ c1_ c2_ hb
  have r0_ : w7.cell? ⟨g1, 0, none⟩ = some (.int .i64 0) := (blk_cell BR7.out 0).trans rfl
  have r1_ : w7.cell? ⟨g1, 1, none⟩ = some (.string ⟨#[]⟩) := (blk_cell BR7.out 1).trans rfl
  have r2_ : w7.cell? ⟨g1, 2, none⟩ = some (.int .u64 0) := (blk_cell BR7.out 2).trans rfl
  have p0_ := blk_frozen BR7.out 0
  have p1_ := blk_frozen BR7.out 1
  have p2_ := blk_frozen BR7.out 2
  have l0_ : w7.cell? ⟨g3, 0, none⟩ = some (.int .i64 kd) := (blk_cell BL7.out 0).trans rfl
  have l1_ : w7.cell? ⟨g3, 1, none⟩ = some (.string u) := (blk_cell BL7.out 1).trans rfl
  have l2_ : w7.cell? ⟨g3, 2, none⟩ = some (.int .u64 0) := (blk_cell BL7.out 2).trans rfl
  have hh := HH.out
  clear HH
  by_cases he3 : e3 = 0
  rotate_left
  ·have e1_ : (e3 == 0) = false := beq_eq_false_iff_ne.mpr he3
   have e2_ : (e3 != 0) = true := bne_iff_ne.mpr he3
   have hh2 : some ((0 : Int), (⟨#[]⟩ : ByteArray), (0 : Int), (2 : Int)) = some (r1, r2, r3, r4) := by
    have := hh
    simp only [he3, if_false] at this
    exact this
   clear hh
   simp only [Option.some.injEq, Prod.mk.injEq] at hh2
   obtain ⟨rfl, rfl, rfl, rfl⟩ := hh2
   go_wp2
   exact bodyPost_ret (hfin _ _ g1 _ _ _ rfl (blk_put (cs' := #[.int .i64 0, .string ⟨#[]⟩, .int .u64 0]) (blk_put (cs' := #[.int .i64 0, .string ⟨#[]⟩, .int .u64 0]) (blk_put (cs' := #[.int .i64 0, .string ⟨#[]⟩, .int .u64 0]) BR7.out 0 _ rfl) 1 _ rfl) 2 _ rfl)) rfl ⟨rfl, ((HB7.out.setCell (p := ⟨g1, 0, none⟩) HG1.out _).setCell (p := ⟨g1, 1, none⟩) HG1.out _).setCell (p := ⟨g1, 2, none⟩) HG1.out _⟩
  subst he3
  have hh2 : (if is.toList = a0.toList then (some (kd, u, 0, (0 : Int))) else (some (0, (⟨#[]⟩ : ByteArray), 0, 2))) = some (r1, r2, r3, r4) := hh
  clear hh
  by_cases hs : is.toList = a0.toList
  ·rw [if_pos hs] at hh2
   simp only [Option.some.injEq, Prod.mk.injEq] at hh2
   obtain ⟨rfl, rfl, rfl, rfl⟩ := hh2
   have s1_ : (is.toList == a0.toList) = true := beq_iff_eq.mpr hs
   have s2_ : (is.toList != a0.toList) = false := bne_eq_false_iff_eq.mpr hs
   clear hs
   go_wp2
   exact bodyPost_ret (hfin _ _ g1 _ _ _ rfl (blk_put (cs' := #[.int .i64 kd, .string u, .int .u64 (0 : Int)]) (blk_put (cs' := #[.int .i64 kd, .string u, .int .u64 0]) (blk_put (cs' := #[.int .i64 kd, .string ⟨#[]⟩, .int .u64 0]) BR7.out 0 _ rfl) 1 _ rfl) 2 _ rfl)) rfl ⟨rfl, ((HB7.out.setCell (p := ⟨g1, 0, none⟩) HG1.out _).setCell (p := ⟨g1, 1, none⟩) HG1.out _).setCell (p := ⟨g1, 2, none⟩) HG1.out _⟩
  rw [if_neg hs] at hh2
  simp only [Option.some.injEq, Prod.mk.injEq] at hh2
  obtain ⟨rfl, rfl, rfl, rfl⟩ := hh2
  have s1_ : (is.toList == a0.toList) = false := beq_eq_false_iff_ne.mpr hs
  have s2_ : (is.toList != a0.toList) = true := bne_iff_ne.mpr hs
  clear hs
  go_wp2
  exact bodyPost_ret (hfin _ _ g1 _ _ _ rfl (blk_put (cs' := #[.int .i64 0, .string ⟨#[]⟩, .int .u64 0]) (blk_put (cs' := #[.int .i64 0, .string ⟨#[]⟩, .int .u64 0]) (blk_put (cs' := #[.int .i64 0, .string ⟨#[]⟩, .int .u64 0]) BR7.out 0 _ rfl) 1 _ rfl) 2 _ rfl)) rfl ⟨rfl, ((HB7.out.setCell (p := ⟨g1, 0, none⟩) HG1.out _).setCell (p := ⟨g1, 1, none⟩) HG1.out _).setCell (p := ⟨g1, 2, none⟩) HG1.out _⟩
 rw [if_neg hk1] at h
 have k1_ : (kd == 1) = false := beq_eq_false_iff_ne.mpr hk1
 have k2_ : (kd != 1) = true := bne_iff_ne.mpr hk1
 clear hk1
 replace h := Option.bind_eq_some_iff.mp h
 obtain ⟨⟨tt, ok⟩, hU, h⟩ := h
 have HU := Lib.hid hU
 clear hU
 simp only at h
 have H3 := Lib.hid h
 clear h
 go_wp2_with (fail)
 refine (screeref01_Unfall.calls k rest tt ok _ HU.out).mono ?_
 rintro e w4 ⟨rfl, hd⟩
 have BL4 := Aside0.mk (blk_below BL3.out hd.below)
 have BR5 := Aside0.mk (blk_below BR4.out hd.below)
 have HB4 := Aside0.mk (below_step HB3.out hd.below)
 clear z0_ hd BL3 BR4 HB3
 have z2_ : w4.cell? ⟨g3, 2, none⟩ = some (.int .u64 0) := (blk_cell BL4.out 2).trans rfl
 have f2_ := blk_frozen BL4.out 2
 go_upto_region 9 with (fail)
 clear z2_ f2_
 have BL5 := Aside0.mk (blk_put (cs' := #[.int .i64 kd, .string u, .int .u64 tt]) BL4.out 2 (.int .u64 tt) rfl)
 have BR6 := Aside0.mk (blk_far (p := ⟨g3, 2, none⟩) BR5.out (Nat.ne_of_lt HG4.out) (.int .u64 tt))
 have HB5 := Aside0.mk (HB4.out.setCell (p := ⟨g3, 2, none⟩) HG3.out (.int .u64 tt))
 clear BL4 BR5 HB4
 generalize (w4.setCell ⟨g3, 2, none⟩ (.int .u64 tt)) = w5 at BL5 BR6 HB5 ⊢
 have h := H3.out
 clear H3
 have c0_ : w5.cell? ⟨g3, 0, none⟩ = some (.int .i64 kd) := (blk_cell BL5.out 0).trans rfl
 have c1_ : w5.cell? ⟨g3, 1, none⟩ = some (.string u) := (blk_cell BL5.out 1).trans rfl
 have c2_ : w5.cell? ⟨g3, 2, none⟩ = some (.int .u64 tt) := (blk_cell BL5.out 2).trans rfl
 replace h := Option.bind_eq_some_iff.mp h
 obtain ⟨⟨is, e3⟩, hC, h⟩ := h
 have HC := Lib.hid hC
 have HH := Lib.hid h
 clear hC h
 go_wp2_with (fail)
 refine (screeref02_Make.calls k kd u tt is e3 w5 HC.out).mono ?_
 rintro e w7 ⟨rfl, hb⟩
 have BL7 := Aside0.mk (blk_below BL5.out hb)
 have BR7 := Aside0.mk (blk_below BR6.out hb)
 have HB7 := Aside0.mk (below_step HB5.out hb)
 clear c0_ c1_ c2_ hb
 have r0_ : w7.cell? ⟨g1, 0, none⟩ = some (.int .i64 0) := (blk_cell BR7.out 0).trans rfl
 have r1_ : w7.cell? ⟨g1, 1, none⟩ = some (.string ⟨#[]⟩) := (blk_cell BR7.out 1).trans rfl
 have r2_ : w7.cell? ⟨g1, 2, none⟩ = some (.int .u64 0) := (blk_cell BR7.out 2).trans rfl
 have p0_ := blk_frozen BR7.out 0
 have p1_ := blk_frozen BR7.out 1
 have p2_ := blk_frozen BR7.out 2
 have l0_ : w7.cell? ⟨g3, 0, none⟩ = some (.int .i64 kd) := (blk_cell BL7.out 0).trans rfl
 have l1_ : w7.cell? ⟨g3, 1, none⟩ = some (.string u) := (blk_cell BL7.out 1).trans rfl
 have l2_ : w7.cell? ⟨g3, 2, none⟩ = some (.int .u64 tt) := (blk_cell BL7.out 2).trans rfl
 have hh := HH.out
 clear HH
 by_cases he3 : e3 = 0
 rotate_left
 ·have e1_ : (e3 == 0) = false := beq_eq_false_iff_ne.mpr he3
  have e2_ : (e3 != 0) = true := bne_iff_ne.mpr he3
  have hh2 : some ((0 : Int), (⟨#[]⟩ : ByteArray), (0 : Int), (2 : Int)) = some (r1, r2, r3, r4) := by
   have := hh
   simp only [he3, if_false] at this
   exact this
  clear hh
  simp only [Option.some.injEq, Prod.mk.injEq] at hh2
  obtain ⟨rfl, rfl, rfl, rfl⟩ := hh2
  go_wp2
  exact bodyPost_ret (hfin _ _ g1 _ _ _ rfl (blk_put (cs' := #[.int .i64 0, .string ⟨#[]⟩, .int .u64 0]) (blk_put (cs' := #[.int .i64 0, .string ⟨#[]⟩, .int .u64 0]) (blk_put (cs' := #[.int .i64 0, .string ⟨#[]⟩, .int .u64 0]) BR7.out 0 _ rfl) 1 _ rfl) 2 _ rfl)) rfl ⟨rfl, ((HB7.out.setCell (p := ⟨g1, 0, none⟩) HG1.out _).setCell (p := ⟨g1, 1, none⟩) HG1.out _).setCell (p := ⟨g1, 2, none⟩) HG1.out _⟩
 subst he3
 have hh2 : (if is.toList = a0.toList then (some (kd, u, tt, (0 : Int))) else (some (0, (⟨#[]⟩ : ByteArray), 0, 2))) = some (r1, r2, r3, r4) := hh
 clear hh
 by_cases hs : is.toList = a0.toList
 ·rw [if_pos hs] at hh2
  simp only [Option.some.injEq, Prod.mk.injEq] at hh2
  obtain ⟨rfl, rfl, rfl, rfl⟩ := hh2
  have s1_ : (is.toList == a0.toList) = true := beq_iff_eq.mpr hs
  have s2_ : (is.toList != a0.toList) = false := bne_eq_false_iff_eq.mpr hs
  clear hs
  go_wp2
  exact bodyPost_ret (hfin _ _ g1 _ _ _ rfl (blk_put (cs' := #[.int .i64 kd, .string u, .int .u64 tt]) (blk_put (cs' := #[.int .i64 kd, .string u, .int .u64 0]) (blk_put (cs' := #[.int .i64 kd, .string ⟨#[]⟩, .int .u64 0]) BR7.out 0 _ rfl) 1 _ rfl) 2 _ rfl)) rfl ⟨rfl, ((HB7.out.setCell (p := ⟨g1, 0, none⟩) HG1.out _).setCell (p := ⟨g1, 1, none⟩) HG1.out _).setCell (p := ⟨g1, 2, none⟩) HG1.out _⟩
 rw [if_neg hs] at hh2
 simp only [Option.some.injEq, Prod.mk.injEq] at hh2
 obtain ⟨rfl, rfl, rfl, rfl⟩ := hh2
 have s1_ : (is.toList == a0.toList) = false := beq_eq_false_iff_ne.mpr hs
 have s2_ : (is.toList != a0.toList) = true := bne_iff_ne.mpr hs
 clear hs
 go_wp2
 exact bodyPost_ret (hfin _ _ g1 _ _ _ rfl (blk_put (cs' := #[.int .i64 0, .string ⟨#[]⟩, .int .u64 0]) (blk_put (cs' := #[.int .i64 0, .string ⟨#[]⟩, .int .u64 0]) (blk_put (cs' := #[.int .i64 0, .string ⟨#[]⟩, .int .u64 0]) BR7.out 0 _ rfl) 1 _ rfl) 2 _ rfl)) rfl ⟨rfl, ((HB7.out.setCell (p := ⟨g1, 0, none⟩) HG1.out _).setCell (p := ⟨g1, 1, none⟩) HG1.out _).setCell (p := ⟨g1, 2, none⟩) HG1.out _⟩

/-! ### screeref01_Take: function 61 -/
mutual
def screeref01_Take.l0 : Nat → ByteArray → Int → Int → Int → Option (Int × ByteArray × Bool)
 | 0, _, _, _, _ => none
 | k + 1, x0, x5, x6, x7 => if x7 < (x0.size : Int) then (screeref01_Take.j1 k x0 x5 x6 x7 (decide (x7 < 10))) else (screeref01_Take.j1 k x0 x5 x6 x7 false)
def screeref01_Take.j1 : Nat → ByteArray → Int → Int → Int → Bool → Option (Int × ByteArray × Bool)
 | 0, _, _, _, _, _ => none
 | k + 1, x0, x5, x6, x7, x16 => if x16 = true then (if 0 ≤ x7 then (if x7 < (x0.size : Int) then (if (IntKind.u64.wrap (bt x0 x7)) < 128 then ((screeref01_Short.f k (IntKind.u64.wrap (x5 + (IntKind.u64.wrap ((Int.tmod (IntKind.u64.wrap (bt x0 x7)) 128) * x6))))).bind fun t318 => (if 0 ≤ (wrap64 (x7 + 1)) then (if (wrap64 (x7 + 1)) ≤ (x0.size : Int) then (if t318.toList = (x0.extract 0 ((wrap64 (x7 + 1)) : Int).toNat).toList then (some (IntKind.u64.wrap (x5 + (IntKind.u64.wrap ((Int.tmod (IntKind.u64.wrap (bt x0 x7)) 128) * x6))), x0.extract ((wrap64 (x7 + 1)) : Int).toNat x0.size, true)) else (some (0, (⟨#[]⟩ : ByteArray), false))) else (none)) else (none))) else (screeref01_Take.l0 k x0 (IntKind.u64.wrap (x5 + (IntKind.u64.wrap ((Int.tmod (IntKind.u64.wrap (bt x0 x7)) 128) * x6)))) (IntKind.u64.wrap (x6 * 128)) (wrap64 (x7 + 1)))) else (none)) else (none)) else (some (0, (⟨#[]⟩ : ByteArray), false))
end
def screeref01_Take.f (k : Nat) (a0 : ByteArray) : Option (Int × ByteArray × Bool) := screeref01_Take.l0 k a0 0 1 0
theorem screeref01_Take.mono_l : ∀ k, (∀ y0 y1 y2 y3, LeO (screeref01_Take.l0 k y0 y1 y2 y3) (screeref01_Take.l0 (k + 1) y0 y1 y2 y3)) ∧ (∀ y0 y1 y2 y3 y4, LeO (screeref01_Take.j1 k y0 y1 y2 y3 y4) (screeref01_Take.j1 (k + 1) y0 y1 y2 y3 y4))
 | 0 => ⟨fun _ _ _ _ r h => by simp [screeref01_Take.l0] at h, fun _ _ _ _ _ r h => by simp [screeref01_Take.j1] at h⟩
 | k + 1 => by
  obtain ⟨ih0, ih1⟩ := screeref01_Take.mono_l k
  refine ⟨?_, ?_⟩
  ·intro y0 y1 y2 y3
   unfold screeref01_Take.l0
   repeat' first
   | (with_reducible exact ih0 _ _ _ _)
   | (with_reducible exact ih1 _ _ _ _ _)
   | (with_reducible exact LeO.refl _)
   | (with_reducible exact LeO.none _)
   | (with_reducible refine LeO.ite ?_ ?_)
   | (with_reducible refine LeO.bind ?_ (fun _ => ?_))
   | exact ih0 _ _ _ _
   | exact ih1 _ _ _ _ _
   | exact screeref01_Short.mono _ _
   | exact LeO.none _
   | refine LeO.ite ?_ ?_
   | refine LeO.bind ?_ (fun _ => ?_)
  ·intro y0 y1 y2 y3 y4
   unfold screeref01_Take.j1
   repeat' first
   | (with_reducible exact ih0 _ _ _ _)
   | (with_reducible exact ih1 _ _ _ _ _)
   | (with_reducible exact LeO.refl _)
   | (with_reducible exact LeO.none _)
   | (with_reducible refine LeO.ite ?_ ?_)
   | (with_reducible refine LeO.bind ?_ (fun _ => ?_))
   | exact ih0 _ _ _ _
   | exact ih1 _ _ _ _ _
   | exact screeref01_Short.mono _ _
   | exact LeO.none _
   | refine LeO.ite ?_ ?_
   | refine LeO.bind ?_ (fun _ => ?_)
theorem screeref01_Take.mono : ∀ a0 k, LeO (screeref01_Take.f k a0) (screeref01_Take.f (k + 1) a0) := by
 intro a0 k
 obtain ⟨ih0, ih1⟩ := screeref01_Take.mono_l k
 unfold screeref01_Take.f
 repeat' first
   | (with_reducible exact ih0 _ _ _ _)
   | (with_reducible exact ih1 _ _ _ _ _)
   | (with_reducible exact LeO.refl _)
   | (with_reducible exact LeO.none _)
   | (with_reducible refine LeO.ite ?_ ?_)
   | (with_reducible refine LeO.bind ?_ (fun _ => ?_))
   | exact ih0 _ _ _ _
   | exact ih1 _ _ _ _ _
   | exact screeref01_Short.mono _ _
   | exact LeO.none _
   | refine LeO.ite ?_ ?_
   | refine LeO.bind ?_ (fun _ => ?_)
def screeref01_Take.T12 : Bool × List (List Nat × List Nat) := (true, [([], []), ([], []), ([], []), ([2], [2]), ([1, 3], [1, 3]), ([0, 0], [0]), ([4, 5, 0, 1, 2, 3, 4, 5], [4]), ([6, 0, 1, 2, 3, 4, 5, 6], [])])
def screeref01_Take.B12 : List Nat := [0, 0, 0, 4, 14, 1, 63, 127]
theorem screeref01_Take.tab12 : rtab .any (opsOf Try.f61 12) = screeref01_Take.T12 := by kernel_rfl
theorem screeref01_Take.bits12 : waitsOk screeref01_Take.T12.2 screeref01_Take.B12 = true := by kernel_rfl
set_option maxHeartbeats 8000000 in
set_option maxRecDepth 100000 in
theorem screeref01_Take.calls (k : Nat) (a0 : ByteArray) (r1 : Int) (r2 : ByteArray) (r3 : Bool) (w : World) (h : screeref01_Take.f k a0 = some (r1, r2, r3)) :
  Calls Try.prog 61 #[.string a0] w fun e w' => e = .returned (.tuple #[.int .u64 r1, .string r2, .bool r3]) ∧ Below w.heap.size w w' := by
 have HB := Aside0.mk (Below.refl w.heap.size w)
 have H : (screeref01_Take.l0 k a0 0 1 0) = some (r1, r2, r3) := h
 clear h
 have H' := Aside0.mk H
 clear H
 go_enter Try.func61, Try.ntmps61
 go_wp2
 go_loopg [5, 6, 7] k (fun kq v5 v6 v7 w' => ∃ (x5_1 : Int) (x6_1 : Int) (x7_1 : Int), v5 = .int .u64 x5_1 ∧ v6 = .int .u64 x6_1 ∧ v7 = .int .i64 x7_1 ∧ Aside0 (screeref01_Take.l0 kq a0 x5_1 x6_1 x7_1 = some (r1, r2, r3)) ∧ Aside0 (kq ≤ k) ∧ Aside0 (Below w.heap.size w w'))
 case atStart => exact ⟨(0), (1), (0), rs_, rs_, rs_, H', ⟨Nat.le_refl _⟩, ⟨hB_⟩⟩
 case round =>
  clear H'
  obtain ⟨x5_1, x6_1, x7_1, rfl, rfl, rfl, HA, HK1, HB⟩ := hrel
  cases gk with
  | zero => exact absurd HA.out (by simp [screeref01_Take.l0])
  | succ k1 =>
   have H := HA.out
   clear HA
   simp only [screeref01_Take.l0] at H
   have HC2 := Aside0.mk H
   clear H
   go_upto_region 4 with (fail)
   go_cut [16] (fun v16 wc => ∃ (kq : Nat) (x16_1 : Bool), v16 = .bool x16_1 ∧ Aside0 (screeref01_Take.j1 kq a0 x5_1 x6_1 x7_1 x16_1 = some (r1, r2, r3)) ∧ Aside0 (kq ≤ k1) ∧ Aside0 (Below w.heap.size w wc))
   case first =>
    have H := HC2.out
    clear HC2
    by_cases c3 : x7_1 < (a0.size : Int)
    ·rw [if_pos c3] at H
     have c3b0 := decide_eq_true c3
     clear c3
     (first | rw [c3b0] | (simp only [i64_w, i32_w]; rw [c3b0]) | skip)
     have H' := Aside0.mk H
     clear H
     go_wp2
     go_meet
     case rel => exact ⟨_, (decide (x7_1 < 10)), rs_, hH_, ⟨by have := HK1.out; first | omega | exact Nat.le_refl _⟩, ⟨hB_⟩⟩
    rw [if_neg c3] at H
    have c3b0 := decide_eq_false c3
    clear c3
    (first | rw [c3b0] | (simp only [i64_w, i32_w]; rw [c3b0]) | skip)
    have H' := Aside0.mk H
    clear H
    go_wp2
    go_meet
    case rel => exact ⟨_, (false), rs_, hH_, ⟨by have := HK1.out; first | omega | exact Nat.le_refl _⟩, ⟨hB_⟩⟩
   case rest =>
    clear HC2
    obtain ⟨kq, x16_1, rfl, HA, HJ1, HB⟩ := hcut
    cases kq with
    | zero => exact absurd HA.out (by simp [screeref01_Take.j1])
    | succ kj1 =>
     have H := HA.out
     clear HA
     simp only [screeref01_Take.j1] at H
     by_cases c4 : x16_1 = true
     rotate_left
     ·replace c4 := Bool.eq_false_iff.mpr c4
      subst c4
      rw [if_neg ff_] at H
      simp only [Option.some.injEq, Prod.mk.injEq] at H
      obtain ⟨rfl, rfl, rfl⟩ := H
      go_wp2
      go_ret3
      exact ⟨rf_, hB_⟩
     subst c4
     rw [if_pos rfl] at H
     by_cases c5 : 0 ≤ x7_1
     rotate_left
     ·rw [if_neg c5] at H
      exact absurd H r34_
     rw [if_pos c5] at H
     have c5b0 := decide_eq_true c5
     clear c5
     by_cases c6 : x7_1 < (a0.size : Int)
     rotate_left
     ·rw [if_neg c6] at H
      exact absurd H r34_
     rw [if_pos c6] at H
     have c6b0 := decide_eq_true c6
     clear c6
     by_cases c8 : (IntKind.u64.wrap (bt a0 x7_1)) < 128
     rotate_left
     ·rw [if_neg c8] at H
      have c8b0 := decide_eq_false c8
      clear c8
      have H' := Aside0.mk H
      clear H
      have p7 : 0 ≤ (x7_1 : Int) := of_decide_eq_true as_
      have q7 : x7_1 < (a0.size : Int) := of_decide_eq_true as_
      have hx7 := bt_at a0 x7_1
      replace p7 := eq_true p7
      replace q7 := eq_true q7
      go_wp2
      go_roundg kj1
      case measure => have := HK1.out; have := HJ1.out; omega
      case rel => exact ⟨(IntKind.u64.wrap (x5_1 + (IntKind.u64.wrap ((Int.tmod (IntKind.u64.wrap (bt a0 x7_1)) 128) * x6_1)))), (IntKind.u64.wrap (x6_1 * 128)), (wrap64 (x7_1 + 1)), rs_, rs_, rs_, hH_, ⟨by have := HK1.out; have := HJ1.out; omega⟩, ⟨hB_⟩⟩
     rw [if_pos c8] at H
     have c8b0 := decide_eq_true c8
     clear c8
     replace H := Option.bind_eq_some_iff.mp H
     obtain ⟨t318, A90, H⟩ := H
     try dsimp only at H
     have A9 := Aside0.mk A90
     clear A90
     obtain ⟨ji10, hji10⟩ : ∃ j_ : Int, (wrap64 (x7_1 + 1)) = j_ := ⟨_, rfl⟩
     replace H : (if 0 ≤ (ji10) then (if (ji10) ≤ (a0.size : Int) then (if t318.toList = (a0.extract 0 ((ji10) : Int).toNat).toList then (some (IntKind.u64.wrap (x5_1 + (IntKind.u64.wrap ((Int.tmod (IntKind.u64.wrap (bt a0 x7_1)) 128) * x6_1))), a0.extract ((ji10) : Int).toNat a0.size, true)) else (some (0, (⟨#[]⟩ : ByteArray), false))) else (none)) else (none)) = some (r1, r2, r3) := by first | (rw [hji10] at H; exact H) | (simp only [hji10] at H ⊢; exact H)
     (try rw [hji10])
     (try rw [hji10] at A9)
     have hji10w : (IntKind.i64.wrap (x7_1 + 1)) = ji10 := (i64_w _).trans hji10
     by_cases c11 : 0 ≤ (ji10)
     rotate_left
     ·rw [if_neg c11] at H
      exact absurd H r34_
     rw [if_pos c11] at H
     have c11b0 := eq_true c11
     have c11b1 : decide (0 ≤ (ji10)) = true := decide_eq_true c11
     clear c11
     by_cases c12 : (ji10) ≤ (a0.size : Int)
     rotate_left
     ·rw [if_neg c12] at H
      exact absurd H r34_
     rw [if_pos c12] at H
     have c12b0 := eq_true c12
     have c12b1 : decide ((ji10) ≤ (a0.size : Int)) = true := decide_eq_true c12
     clear c12
     by_cases c13 : t318.toList = (a0.extract 0 ((ji10) : Int).toNat).toList
     rotate_left
     ·rw [if_neg c13] at H
      have c13b0 := beq_eq_false_iff_ne.mpr c13
      have c13b1 := bne_iff_ne.mpr c13
      simp only [Option.some.injEq, Prod.mk.injEq] at H
      obtain ⟨rfl, rfl, rfl⟩ := H
      have p7 : 0 ≤ (x7_1 : Int) := of_decide_eq_true as_
      have q7 : x7_1 < (a0.size : Int) := of_decide_eq_true as_
      have hx7 := bt_at a0 x7_1
      replace p7 := eq_true p7
      replace q7 := eq_true q7
      try go_wp2
      replace HB := Aside0.mk (below_drew1 HB.out)
      refine start_ (n := 7) (S := fun w' => True) (ds := []) #[N,N,N,N,N,N,N] r6_ rfl rfl trivial (fun hHeld => ?_)
      generalize wc.drew = w19 at HB hHeld ⊢
      refine pure_ (i := 0) (N := some 33) (v := ?_) (a' := ?_) #[Y,N,N,N,N,N,N] rfl rfl r6_ (fun _ _ _ h => h) (Or.inl ⟨by rfl, ?_⟩) ?_ ?_
      rotate_left
      ·intro w'
       go_simp
       with_reducible rfl
      rotate_left
      ·simp only [Act.put, sp_, i64_w, i32_w]
       rfl
      refine pure_ (i := 2) (N := some 35) (v := ?_) (a' := ?_) #[Y,N,Y,N,N,N,N] rfl rfl r6_ (fun _ _ _ h => h) (Or.inl ⟨by rfl, ?_⟩) ?_ ?_
      rotate_left
      ·intro w'
       go_simp
       with_reducible rfl
      rotate_left
      ·simp only [Act.put, sp_, i64_w, i32_w]
       rfl
      refine pure_ (i := 3) (N := some 36) (v := ?_) (a' := ?_) #[Y,N,Y,Y,N,N,N] rfl rfl r6_ (fun _ _ _ h => h) (Or.inl ⟨by rfl, ?_⟩) ?_ ?_
      rotate_left
      ·intro w'
       go_simp
       with_reducible rfl
      rotate_left
      ·simp only [Act.put, sp_, i64_w, i32_w]
       rfl
      refine pure_ (i := 4) (N := some 37) (v := ?_) (a' := ?_) #[Y,N,Y,Y,Y,N,N] rfl rfl r6_ (fun _ _ _ h => h) (Or.inl ⟨by rfl, ?_⟩) ?_ ?_
      rotate_left
      ·intro w'
       go_simp
       with_reducible rfl
      rotate_left
      ·simp only [Act.put, sp_, i64_w, i32_w]
       rfl
      refine pure_ (i := 5) (N := some 38) (v := ?_) (a' := ?_) #[Y,N,Y,Y,Y,Y,N] rfl rfl r6_ (fun _ _ _ h => h) (Or.inl ⟨by rfl, ?_⟩) ?_ ?_
      rotate_left
      ·intro w'
       go_simp
       with_reducible rfl
      rotate_left
      ·simp only [Act.put, sp_, i64_w, i32_w]
       rfl
      refine one_ (i := 1) (N := some 34) #[Y,Y,Y,Y,Y,Y,N] rfl rfl r6_ r44_ (fun K hK => ?_)
      refine goes_ Try.func49 r6_ rfl #[.int .u64 (IntKind.u64.wrap (x5_1 + (IntKind.u64.wrap ((Int.tmod (IntKind.u64.wrap (bt a0 x7_1)) 128) * x6_1))))] (by rfl) rfl rfl hA_ ?_
      with_reducible refine (screeref01_Short.calls kj1 (IntKind.u64.wrap (x5_1 + (IntKind.u64.wrap ((Int.tmod (IntKind.u64.wrap (bt a0 x7_1)) 128) * x6_1)))) t318 _ A9.out).mono ?_
      rintro e w20 ⟨rfl, hb⟩
      refine ⟨_, rfl, ?_⟩
      replace HB := Aside0.mk (below_step hB_ hb)
      (try clear hb)
      (try clear hb2)
      (try clear hk)
      (try clear hi)
      (try clear A9)
      refine hK.out _ _ trivial (fun hHeld => ?_)
      clear hK K
      refine norm_ (a' := ?_) ?_ ?_
      rotate_left
      ·show Act.put _ (some 34) _ = _
       simp only [Act.put, sp_, i64_w, i32_w]
       rfl
      refine pure_ (i := 6) (N := some 39) (v := ?_) (a' := ?_) #[Y,Y,Y,Y,Y,Y,Y] rfl rfl r6_ (fun _ _ _ h => h) (Or.inl ⟨by rfl, ?_⟩) ?_ ?_
      rotate_left
      ·intro w'
       go_simp
       with_reducible rfl
      rotate_left
      ·simp only [Act.put, sp_, i64_w, i32_w]
       rfl
      refine done_ r6_ ?_
      (try clear hHeld)
      (try clear c11b0); (try clear c11b1); (try clear c11b2); (try clear c11b3); (try clear c11b4); (try clear c11b5); (try clear c11b6); (try clear c12b0); (try clear c12b1); (try clear c12b2); (try clear c12b3); (try clear c12b4); (try clear c12b5); (try clear c12b6)
      try go_wp2
      go_ret3
      exact ⟨by first | rfl | (simp [errW_none, errW_some] <;> rfl) | (simp (disch := omega) only [← i64_w, IntWalk.i64_in]; rfl) | (simp only [← hji10]; first | rfl | (simp [errW_none, errW_some] <;> rfl)) | (simp [*, errW_none, errW_some] <;> rfl), hB_⟩
     rw [if_pos c13] at H
     have c13b0 := beq_iff_eq.mpr c13
     have c13b1 := bne_eq_false_iff_eq.mpr c13
     clear c13
     have c14b0 := eq_true (of_decide_eq_true as_ : 0 ≤ (ji10))
     have c15b0 := eq_true (of_decide_eq_true as_ : (ji10) ≤ (a0.size : Int))
     simp only [Option.some.injEq, Prod.mk.injEq] at H
     obtain ⟨rfl, rfl, rfl⟩ := H
     have p7 : 0 ≤ (x7_1 : Int) := of_decide_eq_true as_
     have q7 : x7_1 < (a0.size : Int) := of_decide_eq_true as_
     have hx7 := bt_at a0 x7_1
     replace p7 := eq_true p7
     replace q7 := eq_true q7
     try go_wp2
     replace HB := Aside0.mk (below_drew1 HB.out)
     refine start_ (n := 7) (S := fun w' => True) (ds := []) #[N,N,N,N,N,N,N] r6_ rfl rfl trivial (fun hHeld => ?_)
     generalize wc.drew = w16 at HB hHeld ⊢
     refine pure_ (i := 0) (N := some 33) (v := ?_) (a' := ?_) #[Y,N,N,N,N,N,N] rfl rfl r6_ (fun _ _ _ h => h) (Or.inl ⟨by rfl, ?_⟩) ?_ ?_
     rotate_left
     ·intro w'
      go_simp
      with_reducible rfl
     rotate_left
     ·simp only [Act.put, sp_, i64_w, i32_w]
      rfl
     refine pure_ (i := 2) (N := some 35) (v := ?_) (a' := ?_) #[Y,N,Y,N,N,N,N] rfl rfl r6_ (fun _ _ _ h => h) (Or.inl ⟨by rfl, ?_⟩) ?_ ?_
     rotate_left
     ·intro w'
      go_simp
      with_reducible rfl
     rotate_left
     ·simp only [Act.put, sp_, i64_w, i32_w]
      rfl
     refine pure_ (i := 3) (N := some 36) (v := ?_) (a' := ?_) #[Y,N,Y,Y,N,N,N] rfl rfl r6_ (fun _ _ _ h => h) (Or.inl ⟨by rfl, ?_⟩) ?_ ?_
     rotate_left
     ·intro w'
      go_simp
      with_reducible rfl
     rotate_left
     ·simp only [Act.put, sp_, i64_w, i32_w]
      rfl
     refine pure_ (i := 4) (N := some 37) (v := ?_) (a' := ?_) #[Y,N,Y,Y,Y,N,N] rfl rfl r6_ (fun _ _ _ h => h) (Or.inl ⟨by rfl, ?_⟩) ?_ ?_
     rotate_left
     ·intro w'
      go_simp
      with_reducible rfl
     rotate_left
     ·simp only [Act.put, sp_, i64_w, i32_w]
      rfl
     refine pure_ (i := 5) (N := some 38) (v := ?_) (a' := ?_) #[Y,N,Y,Y,Y,Y,N] rfl rfl r6_ (fun _ _ _ h => h) (Or.inl ⟨by rfl, ?_⟩) ?_ ?_
     rotate_left
     ·intro w'
      go_simp
      with_reducible rfl
     rotate_left
     ·simp only [Act.put, sp_, i64_w, i32_w]
      rfl
     refine one_ (i := 1) (N := some 34) #[Y,Y,Y,Y,Y,Y,N] rfl rfl r6_ r44_ (fun K hK => ?_)
     refine goes_ Try.func49 r6_ rfl #[.int .u64 (IntKind.u64.wrap (x5_1 + (IntKind.u64.wrap ((Int.tmod (IntKind.u64.wrap (bt a0 x7_1)) 128) * x6_1))))] (by rfl) rfl rfl hA_ ?_
     with_reducible refine (screeref01_Short.calls kj1 (IntKind.u64.wrap (x5_1 + (IntKind.u64.wrap ((Int.tmod (IntKind.u64.wrap (bt a0 x7_1)) 128) * x6_1)))) t318 _ A9.out).mono ?_
     rintro e w17 ⟨rfl, hb⟩
     refine ⟨_, rfl, ?_⟩
     replace HB := Aside0.mk (below_step hB_ hb)
     (try clear hb)
     (try clear hb2)
     (try clear hk)
     (try clear hi)
     (try clear A9)
     refine hK.out _ _ trivial (fun hHeld => ?_)
     clear hK K
     refine norm_ (a' := ?_) ?_ ?_
     rotate_left
     ·show Act.put _ (some 34) _ = _
      simp only [Act.put, sp_, i64_w, i32_w]
      rfl
     refine pure_ (i := 6) (N := some 39) (v := ?_) (a' := ?_) #[Y,Y,Y,Y,Y,Y,Y] rfl rfl r6_ (fun _ _ _ h => h) (Or.inl ⟨by rfl, ?_⟩) ?_ ?_
     rotate_left
     ·intro w'
      go_simp
      with_reducible rfl
     rotate_left
     ·simp only [Act.put, sp_, i64_w, i32_w]
      rfl
     refine done_ r6_ ?_
     (try clear hHeld)
     (try clear c11b0); (try clear c11b1); (try clear c11b2); (try clear c11b3); (try clear c11b4); (try clear c11b5); (try clear c11b6); (try clear c12b0); (try clear c12b1); (try clear c12b2); (try clear c12b3); (try clear c12b4); (try clear c12b5); (try clear c12b6)
     try go_wp2
     replace HB := Aside0.mk (below_drew1 HB.out)
     refine start_ (n := 8) (S := fun w' => True) (ds := []) #[N,N,N,N,N,N,N,N] r6_ rfl rfl trivial (fun hHeld => ?_); refine with_tabW screeref01_Take.tab12 screeref01_Take.bits12 (fun HT_ HW_ => ?_)
     generalize w17.drew = w18 at HB hHeld ⊢
     refine pure_ (i := 0) (N := some 40) (v := ?_) (a' := ?_) #[Y,N,N,N,N,N,N,N] rfl rfl (any_of HT_.out r6_) (fun _ _ _ h => h) (Or.inl ⟨by rfl, ?_⟩) ?_ ?_
     rotate_left
     ·intro w'
      go_simp
      with_reducible rfl
     rotate_left
     ·simp only [Act.put, sp_, i64_w, i32_w]
      rfl
     refine pure_ (i := 1) (N := some 41) (v := ?_) (a' := ?_) #[Y,Y,N,N,N,N,N,N] rfl rfl (any_of HT_.out r6_) (fun _ _ _ h => h) (Or.inl ⟨by rfl, ?_⟩) ?_ ?_
     rotate_left
     ·intro w'
      go_simp
      with_reducible rfl
     rotate_left
     ·simp only [Act.put, sp_, i64_w, i32_w]
      rfl
     refine pure_ (i := 2) (N := some 42) (v := ?_) (a' := ?_) #[Y,Y,Y,N,N,N,N,N] rfl rfl (any_of HT_.out r6_) (fun _ _ _ h => h) (Or.inl ⟨by rfl, ?_⟩) ?_ ?_
     rotate_left
     ·intro w'
      go_simp
      with_reducible rfl
     rotate_left
     ·simp only [Act.put, sp_, i64_w, i32_w]
      rfl
     refine pure_ (i := 3) (N := some 43) (v := ?_) (a' := ?_) #[Y,Y,Y,Y,N,N,N,N] rfl rfl (any_of HT_.out r6_) (fun _ _ _ h => h) (Or.inl ⟨by rfl, ?_⟩) ?_ ?_
     rotate_left
     ·intro w'
      go_simp
      with_reducible rfl
     rotate_left
     ·simp only [Act.put, sp_, i64_w, i32_w]
      rfl
     refine pure_ (i := 4) (N := some 44) (v := ?_) (a' := ?_) #[Y,Y,Y,Y,Y,N,N,N] rfl rfl (any_of HT_.out r6_) (fun _ _ _ h => h) (Or.inl ⟨by rfl, ?_⟩) ?_ ?_
     rotate_left
     ·intro w'
      go_simp
      with_reducible rfl
     rotate_left
     ·simp only [Act.put, sp_, i64_w, i32_w]
      rfl
     refine pure_ (i := 5) (N := some 2) (v := ?_) (a' := ?_) #[Y,Y,Y,Y,Y,Y,N,N] rfl rfl (any_of HT_.out r6_) (fun _ _ _ h => h) (Or.inl ⟨by rfl, ?_⟩) ?_ ?_
     rotate_left
     ·intro w'
      go_simp
      with_reducible rfl
     rotate_left
     ·simp only [Act.put, sp_, i64_w, i32_w]
      rfl
     refine pure_ (i := 6) (N := some 3) (v := ?_) (a' := ?_) #[Y,Y,Y,Y,Y,Y,Y,N] rfl rfl (any_of HT_.out r6_) (fun _ _ _ h => h) (Or.inl ⟨by rfl, ?_⟩) ?_ ?_
     rotate_left
     ·intro w'
      go_simp
      with_reducible rfl
     rotate_left
     ·simp only [Act.put, sp_, i64_w, i32_w]
      rfl
     refine pure_ (i := 7) (N := some 4) (v := ?_) (a' := ?_) #[Y,Y,Y,Y,Y,Y,Y,Y] rfl rfl (any_of HT_.out r6_) (fun _ _ _ h => h) (Or.inl ⟨by rfl, ?_⟩) ?_ ?_
     rotate_left
     ·intro w'
      go_simp
      with_reducible rfl
     rotate_left
     ·simp only [Act.put, sp_, i64_w, i32_w]
      rfl
     refine done_ (done_of HT_.out r6_) ?_
     (try clear hHeld)
     (try clear c11b0); (try clear c11b1); (try clear c11b2); (try clear c11b3); (try clear c11b4); (try clear c11b5); (try clear c11b6); (try clear c12b0); (try clear c12b1); (try clear c12b2); (try clear c12b3); (try clear c12b4); (try clear c12b5); (try clear c12b6)
     try go_wp2
     go_ret3
     exact ⟨by first | rfl | (simp [errW_none, errW_some] <;> rfl) | (simp (disch := omega) only [← i64_w, IntWalk.i64_in]; rfl) | (simp only [← hji10]; first | rfl | (simp [errW_none, errW_some] <;> rfl)) | (simp [*, errW_none, errW_some] <;> rfl), hB_⟩

/-- A state of type 92 at block g of W; what its slices lead to came in by w0. -/
def IsS92 (w0 W : World) (g : Nat) (f0 : ByteArray) (f1 : Bool) : Prop := W.heap[g]? = some (.cells #[.string f0, .bool f1] 92 (0, 0)) ∧ w0.heap.size ≤ g
theorem IsS92.grown {w0 W : World} {g : Nat} {f0 : ByteArray} {f1 : Bool} {W1 : World} {row : Option Nat} (h : IsS92 w0 W g f0 f1) (hw : W.grownBy W1 row) (hne : some g ≠ row) : IsS92 w0 W1 g f0 f1 := by
 obtain ⟨hb, hg⟩ := h
 exact ⟨blk_grown hb hw hne, hg⟩
theorem IsS92.fresh {w0 W : World} {g : Nat} {f0 : ByteArray} {f1 : Bool} (h : IsS92 w0 W g f0 f1) : ∀ k, W.heap.size ≤ k → k ≠ g := by
 obtain ⟨hb, hg⟩ := h
 exact Kd.freshB hb
theorem IsS92.kept {w0 W : World} {g : Nat} {f0 : ByteArray} {f1 : Bool} {W1 : World} {S : Nat → Prop} (h : IsS92 w0 W g f0 f1) (hk : Kept W W1 S) (hne : ¬ S g) : IsS92 w0 W1 g f0 f1 := by
 obtain ⟨hb, hg⟩ := h
 exact ⟨blk_kept hb hk hne, hg⟩
theorem IsS92.below {w0 W : World} {g : Nat} {f0 : ByteArray} {f1 : Bool} {W1 : World} (h : IsS92 w0 W g f0 f1) (hw : Below W.heap.size W W1) : IsS92 w0 W1 g f0 f1 := h.grown (grown_of_below hw none) r34_
theorem IsS92.alloc {w0 W : World} {g : Nat} {f0 : ByteArray} {f1 : Bool} (h : IsS92 w0 W g f0 f1) (o : Obj) : IsS92 w0 (W.alloc o) g f0 f1 := h.below (below_alloc (Below.refl _ _) o)
theorem IsS92.drewN {w0 W : World} {g : Nat} {f0 : ByteArray} {f1 : Bool} (h : IsS92 w0 W g f0 f1) (m : Nat) : IsS92 w0 (W.drewN m) g f0 f1 := h
theorem IsS92.drew {w0 W : World} {g : Nat} {f0 : ByteArray} {f1 : Bool} (h : IsS92 w0 W g f0 f1) : IsS92 w0 W.drew g f0 f1 := h
theorem IsS92.lt {w0 W : World} {g : Nat} {f0 : ByteArray} {f1 : Bool} (h : IsS92 w0 W g f0 f1) : g < W.heap.size := by
 obtain ⟨hb, hg⟩ := h
 exact blk_lt hb
theorem IsS92.ge {w0 W : World} {g : Nat} {f0 : ByteArray} {f1 : Bool} (h : IsS92 w0 W g f0 f1) : w0.heap.size ≤ g := by
 obtain ⟨hb, hg⟩ := h
 exact hg
theorem IsS92.far {w0 W : World} {g : Nat} {f0 : ByteArray} {f1 : Bool} {p : Addr} (h : IsS92 w0 W g f0 f1) (hne : g ≠ p.block) (u : Value) : IsS92 w0 (W.setCell p u) g f0 f1 := by
 obtain ⟨hb, hg⟩ := h
 exact ⟨blk_far hb hne u, hg⟩
theorem cellS92_0 {W : World} {g : Nat} {f0 : ByteArray} {f1 : Bool} (h : W.heap[g]? = some (.cells #[.string f0, .bool f1] 92 (0, 0))) : W.cell? ⟨g, 0, none⟩ = some (.string f0) := (blk_cell h 0).trans rfl
theorem IsS92.set_0 {w0 W : World} {g : Nat} {f0 : ByteArray} {f1 : Bool} (h : IsS92 w0 W g f0 f1) (x : ByteArray) : IsS92 w0 (W.setCell ⟨g, 0, none⟩ (.string x)) g x f1 := by
 obtain ⟨hb, hg⟩ := h
 exact ⟨by simpa using blk_set hb 0 (.string x), hg⟩
theorem cellS92_1 {W : World} {g : Nat} {f0 : ByteArray} {f1 : Bool} (h : W.heap[g]? = some (.cells #[.string f0, .bool f1] 92 (0, 0))) : W.cell? ⟨g, 1, none⟩ = some (.bool f1) := (blk_cell h 1).trans rfl
theorem IsS92.set_1 {w0 W : World} {g : Nat} {f0 : ByteArray} {f1 : Bool} (h : IsS92 w0 W g f0 f1) (x : Bool) : IsS92 w0 (W.setCell ⟨g, 1, none⟩ (.bool x)) g f0 x := by
 obtain ⟨hb, hg⟩ := h
 exact ⟨by simpa using blk_set hb 1 (.bool x), hg⟩

/-! ### screeref12_In_Num: function 43 -/
def screeref12_In_Num.f (k : Nat) (s0_0 : ByteArray) (s0_1 : Bool) : Option (Int × ByteArray × Bool) := (screeref01_Take.f k s0_0).bind fun bt319 => (if bt319.2.2 = true then (if s0_1 = true then (some (0, s0_0, true)) else (some (bt319.1, bt319.2.1, s0_1))) else (some (0, s0_0, true)))
theorem screeref12_In_Num.mono : ∀ a0 a1 k, LeO (screeref12_In_Num.f k a0 a1) (screeref12_In_Num.f (k + 1) a0 a1) := by
 intro a0 a1 k
 unfold screeref12_In_Num.f
 repeat' first
   | (with_reducible exact LeO.refl _)
   | (with_reducible exact LeO.none _)
   | (with_reducible refine LeO.ite ?_ ?_)
   | (with_reducible refine LeO.bind ?_ (fun _ => ?_))
   | exact screeref01_Take.mono _ _
   | exact LeO.none _
   | refine LeO.ite ?_ ?_
   | refine LeO.bind ?_ (fun _ => ?_)
set_option maxHeartbeats 8000000 in
set_option maxRecDepth 100000 in
theorem screeref12_In_Num.calls (k : Nat) (g : Nat) (s0_0 : ByteArray) (s0_1 : Bool) (r1 : Int) (r2 : ByteArray) (r3 : Bool) (w0 w : World) (hI : IsS92 w0 w g s0_0 s0_1) (hB : Below w0.heap.size w0 w) (h : screeref12_In_Num.f k s0_0 s0_1 = some (r1, r2, r3)) :
  Calls Try.prog 43 #[.pointer (some ⟨g, 0, none⟩)] w fun e w' => e = .returned (.int .u64 r1) ∧ IsS92 w0 w' g r2 r3 ∧ Below w0.heap.size w0 w' ∧ KeepBut w w' g none := by
 have HI0 := Aside0.mk hI
 have HK := Aside0.mk (KeepBut.refl w g none)
 have HL := Aside0.mk hB.size
 clear hI
 have HW0 := Aside0.mk hB.size
 have HB := Aside0.mk hB
 clear hB
 have H : ((screeref01_Take.f k s0_0).bind fun bt319 => (if bt319.2.2 = true then (if s0_1 = true then (some (0, s0_0, true)) else (some (bt319.1, bt319.2.1, s0_1))) else (some (0, s0_0, true)))) = some (r1, r2, r3) := h
 clear h
 replace H := Option.bind_eq_some_iff.mp H
 obtain ⟨⟨t319, t320, t321⟩, A20, H⟩ := H
 try dsimp only at H
 have A2 := Aside0.mk A20
 clear A20
 by_cases c3 : t321 = true
 rotate_left
 ·replace c3 := Bool.eq_false_iff.mpr c3
  subst c3
  rw [if_neg ff_] at H
  simp only [Option.some.injEq, Prod.mk.injEq] at H
  obtain ⟨rfl, rfl, rfl⟩ := H
  obtain ⟨HGz11, hgz11⟩ := HI0.out
  have hcz11_0 := cellS92_0 HGz11
  have hcz11_1 := cellS92_1 HGz11
  have hfz11_0 := blk_frozen HGz11 0
  have hfz11_1 := blk_frozen HGz11 1
  clear HGz11 hgz11
  go_enter Try.func43, Try.ntmps43
  go_wp2_with (first | ((with_reducible refine gate_callee (f := 61) rfl ?_); refine goesL_ (some 11) rfl rfl Try.func61 r6_ rfl #[.string s0_0] rfl hA_ ?_; (with_reducible refine (screeref01_Take.calls k s0_0 t319 t320 false _ A2.out).mono ?_); rintro e w12 ⟨rfl, hb⟩; refine ⟨_, rfl, ?_⟩; replace HK := Aside0.mk (KeepBut.trans r40_ (KeepBut.of_below hb g none) (.inl rfl)); replace HB := Aside0.mk (below_step r35_ hb); replace HI0 := Aside0.mk (IsS92.below r36_ hb); clear hb A2; obtain ⟨HGz13, hgz13⟩ := HI0.out; have hcz13_0 := cellS92_0 HGz13; have hcz13_1 := cellS92_1 HGz13; have hfz13_0 := blk_frozen HGz13 0; have hfz13_1 := blk_frozen HGz13 1; clear HGz13 hgz13))
  go_ret
  exact ⟨rf_, r36_, r35_, r40_⟩
 subst c3
 rw [if_pos rfl] at H
 by_cases c4 : s0_1 = true
 ·subst c4
  rw [if_pos rfl] at H
  simp only [Option.some.injEq, Prod.mk.injEq] at H
  obtain ⟨rfl, rfl, rfl⟩ := H
  obtain ⟨HGz5, hgz5⟩ := HI0.out
  have hcz5_0 := cellS92_0 HGz5
  have hcz5_1 := cellS92_1 HGz5
  have hfz5_0 := blk_frozen HGz5 0
  have hfz5_1 := blk_frozen HGz5 1
  clear HGz5 hgz5
  go_enter Try.func43, Try.ntmps43
  go_wp2_with (first | ((with_reducible refine gate_callee (f := 61) rfl ?_); refine goesL_ (some 11) rfl rfl Try.func61 r6_ rfl #[.string s0_0] rfl hA_ ?_; (with_reducible refine (screeref01_Take.calls k s0_0 t319 t320 true _ A2.out).mono ?_); rintro e w6 ⟨rfl, hb⟩; refine ⟨_, rfl, ?_⟩; replace HK := Aside0.mk (KeepBut.trans r40_ (KeepBut.of_below hb g none) (.inl rfl)); replace HB := Aside0.mk (below_step r35_ hb); replace HI0 := Aside0.mk (IsS92.below r36_ hb); clear hb A2; obtain ⟨HGz7, hgz7⟩ := HI0.out; have hcz7_0 := cellS92_0 HGz7; have hcz7_1 := cellS92_1 HGz7; have hfz7_0 := blk_frozen HGz7 0; have hfz7_1 := blk_frozen HGz7 1; clear HGz7 hgz7))
  go_ret
  exact ⟨rf_, r36_, r35_, r40_⟩
 replace c4 := Bool.eq_false_iff.mpr c4
 subst c4
 rw [if_neg ff_] at H
 simp only [Option.some.injEq, Prod.mk.injEq] at H
 obtain ⟨rfl, rfl, rfl⟩ := H
 obtain ⟨HGz8, hgz8⟩ := HI0.out
 have hcz8_0 := cellS92_0 HGz8
 have hcz8_1 := cellS92_1 HGz8
 have hfz8_0 := blk_frozen HGz8 0
 have hfz8_1 := blk_frozen HGz8 1
 clear HGz8 hgz8
 go_enter Try.func43, Try.ntmps43
 go_wp2_with (first | ((with_reducible refine gate_callee (f := 61) rfl ?_); refine goesL_ (some 11) rfl rfl Try.func61 r6_ rfl #[.string s0_0] rfl hA_ ?_; (with_reducible refine (screeref01_Take.calls k s0_0 t319 t320 true _ A2.out).mono ?_); rintro e w9 ⟨rfl, hb⟩; refine ⟨_, rfl, ?_⟩; replace HK := Aside0.mk (KeepBut.trans r40_ (KeepBut.of_below hb g none) (.inl rfl)); replace HB := Aside0.mk (below_step r35_ hb); replace HI0 := Aside0.mk (IsS92.below r36_ hb); clear hb A2; obtain ⟨HGz10, hgz10⟩ := HI0.out; have hcz10_0 := cellS92_0 HGz10; have hcz10_1 := cellS92_1 HGz10; have hfz10_0 := blk_frozen HGz10 0; have hfz10_1 := blk_frozen HGz10 1; clear HGz10 hgz10))
 go_ret
 exact ⟨rf_, r36_, r35_, r40_⟩

end Go.Proofs.Ytcdadhgcjkgnoaa.P
