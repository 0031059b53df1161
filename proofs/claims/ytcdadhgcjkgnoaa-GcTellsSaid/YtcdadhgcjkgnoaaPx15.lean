-- Printed by a program of this session's own (wip/tools/pprint.sh, over the kit's print, with given contracts): not typed by hand.
import Derived.Test.YtcdadhgcjkgnoaaPx0
import Derived.Test.YtcdadhgcjkgnoaaPx7
import Derived.Test.YtcdadhgcjkgnoaaPx10
import Derived.Test.YtcdadhgcjkgnoaaPx13
import Derived.Test.YtcdadhgcjkgnoaaPx14
namespace Go.Proofs.Ytcdadhgcjkgnoaa.P
open Go.RowKit Go.Proofs.YtcdadhgcjkgnoaaW.PrintWords Go.Proofs.YtcdadhgcjkgnoaaW.PrintLast Go.Proofs.YtcdadhgcjkgnoaaW.PrintMore
set_option linter.unusedVariables false
set_option linter.unusedSimpArgs false
-- SQUEEZED3

/-! ### screeref15_Unlock: function 31 -/
def screeref15_Unlock.f (k : Nat) (a0 : ByteArray) : Option (ByteArray × Int × Int × Int × Int) :=
 if a0.size = 0 then some (⟨#[]⟩, 0, 0, 0, 2) else
 (screeref12_In_Num.f k (a0.extract 1 a0.size) false).bind fun a => (screeref12_In_Num.f k a.2.1 a.2.2).bind fun b =>
 (screeref15_Lock.f k b.2.1 a.1 (bt a0 0) b.1).bind fun c => if b.2.2 = true ∨ c.2 ≠ 0 ∨ c.1.toList ≠ a0.toList then some (⟨#[]⟩, 0, 0, 0, 2) else some (b.2.1, a.1, bt a0 0, b.1, 0)
theorem screeref15_Unlock.mono : ∀ a0 k, LeO (screeref15_Unlock.f k a0) (screeref15_Unlock.f (k + 1) a0) := by
 intro a0 k
 unfold screeref15_Unlock.f
 exact LeO.ite (LeO.refl _) (LeO.bind (screeref12_In_Num.mono _ _ _) (fun _ => LeO.bind (screeref12_In_Num.mono _ _ _) (fun _ => LeO.bind (screeref15_Lock.mono _ _ _ _ _) (fun _ => LeO.refl _))))
set_option maxHeartbeats 3200000 in
set_option maxRecDepth 100000 in
theorem screeref15_Unlock.calls (k : Nat) (a0 : ByteArray) (r1 : ByteArray) (r2 r3 r4 r5 : Int) (w : World) (h : screeref15_Unlock.f k a0 = some (r1, r2, r3, r4, r5)) :
  Calls Try.prog 31 #[.string a0] w fun e w' => e = .returned (.tuple #[.agg #[.string r1, .int .u64 r2, .int .i64 r3, .int .u64 r4], .int .i64 r5]) ∧ Below w.heap.size w w' := by
 have hu24 := Try.underlying40
 have hfin : ∀ (tmps : Array Value) (W : World) (g : Nat) (c0 c1 c2 c3 : Value), tmps.getD 2 undef = .pointer (some ⟨g, 0, none⟩) → W.heap[g]? = some (.cells #[c0, c1, c2, c3] 40 (0, 0)) → (results Try.f31 tmps).run Try.prog W = .ok (.tuple #[.agg #[c0, c1, c2, c3], tmps.getD 3 undef]) W :=
  fun tmps W g c0 c1 c2 c3 hp hg => results_ct rfl tmps W g _ #[c0, c1, c2, c3] (0, 0) _ hp hg hu24 rfl r6_
 unfold screeref15_Unlock.f at h
 by_cases hz : a0.size = 0
 ·rw [if_pos hz] at h
  simp only [Option.some.injEq, Prod.mk.injEq] at h
  obtain ⟨rfl, rfl, rfl, rfl, rfl⟩ := h
  have d1 : ((a0.size : Int) == 0) = true := by rw [hz]; rfl
  clear hz
  go_enter Try.func31, Try.ntmps31
  go_wp2
  exact bodyPost_ret (v := .tuple #[.agg #[.string ⟨#[]⟩, .int .u64 0, .int .i64 0, .int .u64 0], .int .i64 2]) (by simp [results, Try.results31, go_sem]) rfl ⟨rfl, below_alloc (Below.refl _ _) _⟩
 rw [if_neg hz] at h
 have d1 : ((a0.size : Int) == 0) = false := beq_eq_false_iff_ne.mpr r37_
 have hpos : 0 < a0.size := by omega
 clear hz
 replace h := Option.bind_eq_some_iff.mp h
 obtain ⟨⟨n1, s1, q1⟩, hA, h⟩ := h
 replace h := Option.bind_eq_some_iff.mp h
 obtain ⟨⟨n2, s2, q2⟩, hB, h⟩ := h
 replace h := Option.bind_eq_some_iff.mp h
 obtain ⟨⟨is, e3⟩, hC, h⟩ := h
 have HA := Lib.hid hA
 have HB0 := Lib.hid hB
 have HC := Lib.hid hC
 have HH := Lib.hid h
 clear hA hB hC h
 go_enter Try.func31, Try.ntmps31
 obtain ⟨kd, hkd⟩ : ∃ kd, wrap64 ((a0[0].toNat : Nat) : Int) = kd := ⟨_, rfl⟩
 have hkb : bt a0 0 = kd := by
  rw [← hkd]
  unfold bt
  have h0 : ((0 : Int)).toNat < a0.size := by simpa using hpos
  rw [dif_pos h0]
  have := a0[0].toNat_lt
  have e : wrap64 ((a0[0].toNat : Nat) : Int) = ((a0[0].toNat : Nat) : Int) := by unfold wrap64; omega
  rw [e]; rfl
 rw [hkb] at HC HH
 clear hkb
 have HP := Lib.hid hpos
 go_wp2_with (fail)
 have HKD := Lib.hid hkd
 clear hkd
 have hIc : (((w.alloc (.cells #[.string ⟨#[]⟩, .int .u64 0, .int .i64 0, .int .u64 0] 40)).alloc (.cells #[.string (a0.extract 1 a0.size), .bool false] 92)).alloc (.cells #[.string ⟨#[]⟩, .int .u64 0, .int .i64 kd, .int .u64 0] 40)).heap[w.heap.size + 1]? = some (.cells #[.string (a0.extract 1 a0.size), .bool false] 92 (0, 0)) := by
  refine blk_alloc ?_ _
  have := blk_new (w.alloc (.cells #[.string ⟨#[]⟩, .int .u64 0, .int .i64 0, .int .u64 0] 40)) (.cells #[.string (a0.extract 1 a0.size), .bool false] 92)
  rwa [World.size_alloc] at this
 have hLc : (((w.alloc (.cells #[.string ⟨#[]⟩, .int .u64 0, .int .i64 0, .int .u64 0] 40)).alloc (.cells #[.string (a0.extract 1 a0.size), .bool false] 92)).alloc (.cells #[.string ⟨#[]⟩, .int .u64 0, .int .i64 kd, .int .u64 0] 40)).heap[w.heap.size + 1 + 1]? = some (.cells #[.string ⟨#[]⟩, .int .u64 0, .int .i64 kd, .int .u64 0] 40 (0, 0)) := by
  have := blk_new ((w.alloc (.cells #[.string ⟨#[]⟩, .int .u64 0, .int .i64 0, .int .u64 0] 40)).alloc (.cells #[.string (a0.extract 1 a0.size), .bool false] 92)) (.cells #[.string ⟨#[]⟩, .int .u64 0, .int .i64 kd, .int .u64 0] 40)
  rwa [World.size_alloc, World.size_alloc] at this
 have HI1 : Aside0 (IsS92 w _ (w.heap.size + 1) (a0.extract 1 a0.size) false) := ⟨⟨hIc, Nat.le_succ _⟩⟩
 have BL1 := Aside0.mk hLc
 have HB1 : Aside0 (Below w.heap.size w (((w.alloc (.cells #[.string ⟨#[]⟩, .int .u64 0, .int .i64 0, .int .u64 0] 40)).alloc (.cells #[.string (a0.extract 1 a0.size), .bool false] 92)).alloc (.cells #[.string ⟨#[]⟩, .int .u64 0, .int .i64 kd, .int .u64 0] 40))) := ⟨below_alloc (below_alloc (below_alloc (Below.refl _ _) _) _) _⟩
 have hRc : (((w.alloc (.cells #[.string ⟨#[]⟩, .int .u64 0, .int .i64 0, .int .u64 0] 40)).alloc (.cells #[.string (a0.extract 1 a0.size), .bool false] 92)).alloc (.cells #[.string ⟨#[]⟩, .int .u64 0, .int .i64 kd, .int .u64 0] 40)).heap[w.heap.size]? = some (.cells #[.string ⟨#[]⟩, .int .u64 0, .int .i64 0, .int .u64 0] 40 (0, 0)) := blk_alloc (blk_alloc (blk_new _ _) _) _
 have BR1 := Aside0.mk hRc
 clear hIc hLc hRc
 generalize (((w.alloc (.cells #[.string ⟨#[]⟩, .int .u64 0, .int .i64 0, .int .u64 0] 40)).alloc (.cells #[.string (a0.extract 1 a0.size), .bool false] 92)).alloc (.cells #[.string ⟨#[]⟩, .int .u64 0, .int .i64 kd, .int .u64 0] 40)) = W1 at HI1 BL1 HB1 BR1 ⊢
 obtain ⟨g1, hg1⟩ : ∃ g, w.heap.size = g := ⟨_, rfl⟩
 obtain ⟨g2, hg2⟩ : ∃ g, w.heap.size + 1 = g := ⟨_, rfl⟩
 obtain ⟨g3, hg3⟩ : ∃ g, w.heap.size + 1 + 1 = g := ⟨_, rfl⟩
 have HG1 : Hid (w.heap.size ≤ g1 ∧ w.heap.size ≤ g2 ∧ w.heap.size ≤ g3 ∧ g1 ≠ g2 ∧ g1 ≠ g3 ∧ g2 ≠ g3) := Lib.hid ⟨r37_, r37_, r37_, r37_, r37_, r37_⟩
 rw [hg3] at BL1
 rw [hg2] at HI1
 have BR1b : Aside0 (W1.heap[g1]? = some (.cells #[.string ⟨#[]⟩, .int .u64 0, .int .i64 0, .int .u64 0] 40 (0, 0))) := by rw [← hg1]; exact BR1
 clear BR1
 rw [hg3, hg2]
 refine (screeref12_In_Num.calls k g2 (a0.extract 1 a0.size) false n1 s1 q1 w W1 HI1.out HB1.out HA.out).mono ?_
 rintro e w2 ⟨rfl, hi, hb, hk⟩
 have HI2 := Aside0.mk hi
 have HB2 := Aside0.mk hb
 have BL2 := Aside0.mk (hk.blk BL1.out (Ne.symm HG1.out.2.2.2.2.2) r34_)
 have BR2 := Aside0.mk (hk.blk BR1b.out HG1.out.2.2.2.1 r34_)
 clear hi hb hk HI1 HB1 BL1 BR1b
 have c_ : w2.cell? ⟨g3, 1, none⟩ = some (.int .u64 0) := (blk_cell BL2.out 1).trans rfl
 have f_ := blk_frozen BL2.out 1
 rw [hg1]
 clear hg1 hg2 hg3
 go_upto_region 6 with (fail)
 clear c_ f_
 have HI3 := Aside0.mk (IsS92.far (p := ⟨g3, 1, none⟩) HI2.out HG1.out.2.2.2.2.2 (.int .u64 n1))
 have BL3 := Aside0.mk (blk_put (cs' := #[.string ⟨#[]⟩, .int .u64 n1, .int .i64 kd, .int .u64 0]) BL2.out 1 (.int .u64 n1) rfl)
 have BR3 := Aside0.mk (blk_far (p := ⟨g3, 1, none⟩) BR2.out HG1.out.2.2.2.2.1 (.int .u64 n1))
 have HB3 := Aside0.mk (HB2.out.setCell (p := ⟨g3, 1, none⟩) HG1.out.2.2.1 (.int .u64 n1))
 clear HI2 BL2 BR2 HB2
 generalize (w2.setCell ⟨g3, 1, none⟩ (.int .u64 n1)) = w3 at HI3 BL3 BR3 HB3 ⊢
 go_wp2_with (fail)
 refine (screeref12_In_Num.calls k g2 s1 q1 n2 s2 q2 w w3 HI3.out HB3.out HB0.out).mono ?_
 rintro e w4 ⟨rfl, hi, hb, hk⟩
 have HI4 := Aside0.mk hi
 have HB4 := Aside0.mk hb
 have BL4 := Aside0.mk (hk.blk BL3.out (Ne.symm HG1.out.2.2.2.2.2) r34_)
 have BR4 := Aside0.mk (hk.blk BR3.out HG1.out.2.2.2.1 r34_)
 clear hi hb hk HI3 HB3 BL3 BR3
 have c_ : w4.cell? ⟨g3, 3, none⟩ = some (.int .u64 0) := (blk_cell BL4.out 3).trans rfl
 have f_ := blk_frozen BL4.out 3
 go_upto_region 7 with (fail)
 clear c_ f_
 have HI5 := Aside0.mk (IsS92.far (p := ⟨g3, 3, none⟩) HI4.out HG1.out.2.2.2.2.2 (.int .u64 n2))
 have BL5 := Aside0.mk (blk_put (cs' := #[.string ⟨#[]⟩, .int .u64 n1, .int .i64 kd, .int .u64 n2]) BL4.out 3 (.int .u64 n2) rfl)
 have BR5 := Aside0.mk (blk_far (p := ⟨g3, 3, none⟩) BR4.out HG1.out.2.2.2.2.1 (.int .u64 n2))
 have HB5 := Aside0.mk (HB4.out.setCell (p := ⟨g3, 3, none⟩) HG1.out.2.2.1 (.int .u64 n2))
 clear HI4 BL4 BR4 HB4
 generalize (w4.setCell ⟨g3, 3, none⟩ (.int .u64 n2)) = w5 at HI5 BL5 BR5 HB5 ⊢
 have c_ : w5.cell? ⟨g3, 0, none⟩ = some (.string ⟨#[]⟩) := (blk_cell BL5.out 0).trans rfl
 have c2_ : w5.cell? ⟨g2, 0, none⟩ = some (.string s2) := (blk_cell HI5.out.1 0).trans rfl
 have f_ := blk_frozen BL5.out 0
 go_upto_region 8 with (fail)
 clear c2_
 clear c_ f_
 have HI6 := Aside0.mk (IsS92.far (p := ⟨g3, 0, none⟩) HI5.out HG1.out.2.2.2.2.2 (.string s2))
 have BL6 := Aside0.mk (blk_put (cs' := #[.string s2, .int .u64 n1, .int .i64 kd, .int .u64 n2]) BL5.out 0 (.string s2) rfl)
 have BR6 := Aside0.mk (blk_far (p := ⟨g3, 0, none⟩) BR5.out HG1.out.2.2.2.2.1 (.string s2))
 have HB6 := Aside0.mk (HB5.out.setCell (p := ⟨g3, 0, none⟩) HG1.out.2.2.1 (.string s2))
 clear HI5 BL5 BR5 HB5
 generalize (w5.setCell ⟨g3, 0, none⟩ (.string s2)) = w6 at HI6 BL6 BR6 HB6 ⊢
 have c0_ : w6.cell? ⟨g3, 0, none⟩ = some (.string s2) := (blk_cell BL6.out 0).trans rfl
 have c1_ : w6.cell? ⟨g3, 1, none⟩ = some (.int .u64 n1) := (blk_cell BL6.out 1).trans rfl
 have c2_ : w6.cell? ⟨g3, 2, none⟩ = some (.int .i64 kd) := (blk_cell BL6.out 2).trans rfl
 have c3_ : w6.cell? ⟨g3, 3, none⟩ = some (.int .u64 n2) := (blk_cell BL6.out 3).trans rfl
 go_wp2_with (fail)
 refine (screeref15_Lock.calls k s2 n1 kd n2 is e3 w6 HC.out).mono ?_
 rintro e w7 ⟨rfl, hb⟩
 have HI7 := Aside0.mk (HI6.out.below hb)
 have BL7 := Aside0.mk (blk_below BL6.out hb)
 have BR7 := Aside0.mk (blk_below BR6.out hb)
 have HB7 := Aside0.mk (below_step HB6.out hb)
 clear c0_ c1_ c2_ c3_ hb HI6 BL6 BR6 HB6
 have i1_ : w7.cell? ⟨g2, 1, none⟩ = some (.bool q2) := (blk_cell HI7.out.1 1).trans rfl
 have r0_ : w7.cell? ⟨g1, 0, none⟩ = some (.string ⟨#[]⟩) := (blk_cell BR7.out 0).trans rfl
 have r1_ : w7.cell? ⟨g1, 1, none⟩ = some (.int .u64 0) := (blk_cell BR7.out 1).trans rfl
 have r2_ : w7.cell? ⟨g1, 2, none⟩ = some (.int .i64 0) := (blk_cell BR7.out 2).trans rfl
 have r3_ : w7.cell? ⟨g1, 3, none⟩ = some (.int .u64 0) := (blk_cell BR7.out 3).trans rfl
 have p0_ := blk_frozen BR7.out 0
 have p1_ := blk_frozen BR7.out 1
 have p2_ := blk_frozen BR7.out 2
 have p3_ := blk_frozen BR7.out 3
 have l0_ : w7.cell? ⟨g3, 0, none⟩ = some (.string s2) := (blk_cell BL7.out 0).trans rfl
 have l1_ : w7.cell? ⟨g3, 1, none⟩ = some (.int .u64 n1) := (blk_cell BL7.out 1).trans rfl
 have l2_ : w7.cell? ⟨g3, 2, none⟩ = some (.int .i64 kd) := (blk_cell BL7.out 2).trans rfl
 have l3_ : w7.cell? ⟨g3, 3, none⟩ = some (.int .u64 n2) := (blk_cell BL7.out 3).trans rfl
 have hh : (if q2 = true ∨ e3 ≠ 0 ∨ is.toList ≠ a0.toList then some ((⟨#[]⟩ : ByteArray), (0 : Int), (0 : Int), (0 : Int), (2 : Int)) else some (s2, n1, kd, n2, 0)) = some (r1, r2, r3, r4, r5) := HH.out
 clear HH
 have zero : (q2 = true ∨ e3 ≠ 0 ∨ is.toList ≠ a0.toList) → (⟨#[]⟩, 0, 0, 0, 2) = (r1, r2, r3, r4, r5) := by
  intro hbad
  rw [if_pos hbad] at hh
  exact Option.some.inj hh
 cases q2 with
 | true =>
  have hh2 := zero (Or.inl rfl)
  simp only [Prod.mk.injEq] at hh2
  obtain ⟨rfl, rfl, rfl, rfl, rfl⟩ := hh2
  clear hh zero
  go_wp2
  exact bodyPost_ret (hfin _ _ g1 _ _ _ _ rfl (blk_put (cs' := #[.string ⟨#[]⟩, .int .u64 0, .int .i64 0, .int .u64 0]) (blk_put (cs' := #[.string ⟨#[]⟩, .int .u64 0, .int .i64 0, .int .u64 0]) (blk_put (cs' := #[.string ⟨#[]⟩, .int .u64 0, .int .i64 0, .int .u64 0]) (blk_put (cs' := #[.string ⟨#[]⟩, .int .u64 0, .int .i64 0, .int .u64 0]) BR7.out 0 _ rfl) 1 _ rfl) 2 _ rfl) 3 _ rfl)) rfl ⟨rfl, (((HB7.out.setCell (p := ⟨g1, 0, none⟩) HG1.out.1 _).setCell (p := ⟨g1, 1, none⟩) HG1.out.1 _).setCell (p := ⟨g1, 2, none⟩) HG1.out.1 _).setCell (p := ⟨g1, 3, none⟩) HG1.out.1 _⟩
 | false =>
 by_cases he3 : e3 = 0
 case neg =>
  have hh2 := zero (Or.inr (Or.inl he3))
  simp only [Prod.mk.injEq] at hh2
  obtain ⟨rfl, rfl, rfl, rfl, rfl⟩ := hh2
  have e1_ : (e3 == 0) = false := beq_eq_false_iff_ne.mpr he3
  have e2_ : (e3 != 0) = true := bne_iff_ne.mpr he3
  clear hh zero
  go_wp2
  exact bodyPost_ret (hfin _ _ g1 _ _ _ _ rfl (blk_put (cs' := #[.string ⟨#[]⟩, .int .u64 0, .int .i64 0, .int .u64 0]) (blk_put (cs' := #[.string ⟨#[]⟩, .int .u64 0, .int .i64 0, .int .u64 0]) (blk_put (cs' := #[.string ⟨#[]⟩, .int .u64 0, .int .i64 0, .int .u64 0]) (blk_put (cs' := #[.string ⟨#[]⟩, .int .u64 0, .int .i64 0, .int .u64 0]) BR7.out 0 _ rfl) 1 _ rfl) 2 _ rfl) 3 _ rfl)) rfl ⟨rfl, (((HB7.out.setCell (p := ⟨g1, 0, none⟩) HG1.out.1 _).setCell (p := ⟨g1, 1, none⟩) HG1.out.1 _).setCell (p := ⟨g1, 2, none⟩) HG1.out.1 _).setCell (p := ⟨g1, 3, none⟩) HG1.out.1 _⟩
 subst he3
 by_cases hs : is.toList = a0.toList
 ·have s1_ : (is.toList == a0.toList) = true := beq_iff_eq.mpr hs
  have s2_ : (is.toList != a0.toList) = false := bne_eq_false_iff_eq.mpr hs
  rw [if_neg (by simpa using hs)] at hh
  simp only [Option.some.injEq, Prod.mk.injEq] at hh
  obtain ⟨rfl, rfl, rfl, rfl, rfl⟩ := hh
  clear hs zero
  go_wp2
  exact bodyPost_ret (hfin _ _ g1 _ _ _ _ rfl (blk_put (cs' := #[.string s2, .int .u64 n1, .int .i64 kd, .int .u64 n2]) (blk_put (cs' := #[.string s2, .int .u64 n1, .int .i64 kd, .int .u64 0]) (blk_put (cs' := #[.string s2, .int .u64 n1, .int .i64 0, .int .u64 0]) (blk_put (cs' := #[.string s2, .int .u64 0, .int .i64 0, .int .u64 0]) BR7.out 0 _ rfl) 1 _ rfl) 2 _ rfl) 3 _ rfl)) rfl ⟨rfl, (((HB7.out.setCell (p := ⟨g1, 0, none⟩) HG1.out.1 _).setCell (p := ⟨g1, 1, none⟩) HG1.out.1 _).setCell (p := ⟨g1, 2, none⟩) HG1.out.1 _).setCell (p := ⟨g1, 3, none⟩) HG1.out.1 _⟩
 have s1_ : (is.toList == a0.toList) = false := beq_eq_false_iff_ne.mpr hs
 have s2_ : (is.toList != a0.toList) = true := bne_iff_ne.mpr hs
 have hh2 := zero (Or.inr (Or.inr hs))
 simp only [Prod.mk.injEq] at hh2
 obtain ⟨rfl, rfl, rfl, rfl, rfl⟩ := hh2
 clear hh zero hs
 go_wp2
 exact bodyPost_ret (hfin _ _ g1 _ _ _ _ rfl (blk_put (cs' := #[.string ⟨#[]⟩, .int .u64 0, .int .i64 0, .int .u64 0]) (blk_put (cs' := #[.string ⟨#[]⟩, .int .u64 0, .int .i64 0, .int .u64 0]) (blk_put (cs' := #[.string ⟨#[]⟩, .int .u64 0, .int .i64 0, .int .u64 0]) (blk_put (cs' := #[.string ⟨#[]⟩, .int .u64 0, .int .i64 0, .int .u64 0]) BR7.out 0 _ rfl) 1 _ rfl) 2 _ rfl) 3 _ rfl)) rfl ⟨rfl, (((HB7.out.setCell (p := ⟨g1, 0, none⟩) HG1.out.1 _).setCell (p := ⟨g1, 1, none⟩) HG1.out.1 _).setCell (p := ⟨g1, 2, none⟩) HG1.out.1 _).setCell (p := ⟨g1, 3, none⟩) HG1.out.1 _⟩

/-! ### screeref15_Unwrite: function 32 -/
def screeref15_Unwrite.f (k : Nat) (a0 : ByteArray) : Option (Int × Int × Int) :=
 if a0.size = 0 then some (0, 0, 2) else
 (screeref12_In_Num.f k (a0.extract 1 a0.size) false).bind fun a =>
 (screeref15_Write.f k a.1 (bt a0 0)).bind fun c => if a.2.2 = true ∨ c.2 ≠ 0 ∨ c.1.toList ≠ a0.toList then some (0, 0, 2) else some (a.1, bt a0 0, 0)
theorem screeref15_Unwrite.mono : ∀ a0 k, LeO (screeref15_Unwrite.f k a0) (screeref15_Unwrite.f (k + 1) a0) := by
 intro a0 k
 unfold screeref15_Unwrite.f
 exact LeO.ite (LeO.refl _) (LeO.bind (screeref12_In_Num.mono _ _ _) (fun _ => LeO.bind (screeref15_Write.mono _ _ _) (fun _ => LeO.refl _)))
set_option maxHeartbeats 3200000 in
set_option maxRecDepth 100000 in
theorem screeref15_Unwrite.calls (k : Nat) (a0 : ByteArray) (r1 r2 r3 : Int) (w : World) (h : screeref15_Unwrite.f k a0 = some (r1, r2, r3)) :
  Calls Try.prog 32 #[.string a0] w fun e w' => e = .returned (.tuple #[.agg #[.int .u64 r1, .int .i64 r2], .int .i64 r3]) ∧ Below w.heap.size w w' := by
 have hu24 := Try.underlying42
 have hfin : ∀ (tmps : Array Value) (W : World) (g : Nat) (c0 c1 : Value), tmps.getD 2 undef = .pointer (some ⟨g, 0, none⟩) → W.heap[g]? = some (.cells #[c0, c1] 42 (0, 0)) → (results Try.f32 tmps).run Try.prog W = .ok (.tuple #[.agg #[c0, c1], tmps.getD 3 undef]) W :=
  fun tmps W g c0 c1 hp hg => results_ct rfl tmps W g _ #[c0, c1] (0, 0) _ hp hg hu24 rfl r6_
 unfold screeref15_Unwrite.f at h
 by_cases hz : a0.size = 0
 ·rw [if_pos hz] at h
  simp only [Option.some.injEq, Prod.mk.injEq] at h
  obtain ⟨rfl, rfl, rfl⟩ := h
  have d1 : ((a0.size : Int) == 0) = true := by rw [hz]; rfl
  clear hz
  go_enter Try.func32, Try.ntmps32
  go_wp2
  exact bodyPost_ret (hfin _ _ _ _ _ rfl (blk_new _ _)) rfl ⟨rfl, below_alloc (Below.refl _ _) _⟩
 rw [if_neg hz] at h
 have d1 : ((a0.size : Int) == 0) = false := beq_eq_false_iff_ne.mpr r37_
 have hpos : 0 < a0.size := by omega
 clear hz
 replace h := Option.bind_eq_some_iff.mp h
 obtain ⟨⟨n1, s1, q1⟩, hA, h⟩ := h
 replace h := Option.bind_eq_some_iff.mp h
 obtain ⟨⟨is, e3⟩, hC, h⟩ := h
 have HA := Lib.hid hA
 have HC := Lib.hid hC
 have HH := Lib.hid h
 clear hA hC h
 go_enter Try.func32, Try.ntmps32
 obtain ⟨kd, hkd⟩ : ∃ kd, wrap64 ((a0[0].toNat : Nat) : Int) = kd := ⟨_, rfl⟩
 have hkb : bt a0 0 = kd := by
  rw [← hkd]
  unfold bt
  have h0 : ((0 : Int)).toNat < a0.size := by simpa using hpos
  rw [dif_pos h0]
  have := a0[0].toNat_lt
  have e : wrap64 ((a0[0].toNat : Nat) : Int) = ((a0[0].toNat : Nat) : Int) := by unfold wrap64; omega
  rw [e]; rfl
 rw [hkb] at HC HH
 clear hkb
 have HP := Lib.hid hpos
 go_wp2_with (fail)
 have HKD := Lib.hid hkd
 clear hkd
 have hIc : (((w.alloc (.cells #[.int .u64 0, .int .i64 0] 42)).alloc (.cells #[.string (a0.extract 1 a0.size), .bool false] 92)).alloc (.cells #[.int .u64 0, .int .i64 kd] 42)).heap[w.heap.size + 1]? = some (.cells #[.string (a0.extract 1 a0.size), .bool false] 92 (0, 0)) := by
  refine blk_alloc ?_ _
  have := blk_new (w.alloc (.cells #[.int .u64 0, .int .i64 0] 42)) (.cells #[.string (a0.extract 1 a0.size), .bool false] 92)
  rwa [World.size_alloc] at this
 have hLc : (((w.alloc (.cells #[.int .u64 0, .int .i64 0] 42)).alloc (.cells #[.string (a0.extract 1 a0.size), .bool false] 92)).alloc (.cells #[.int .u64 0, .int .i64 kd] 42)).heap[w.heap.size + 1 + 1]? = some (.cells #[.int .u64 0, .int .i64 kd] 42 (0, 0)) := by
  have := blk_new ((w.alloc (.cells #[.int .u64 0, .int .i64 0] 42)).alloc (.cells #[.string (a0.extract 1 a0.size), .bool false] 92)) (.cells #[.int .u64 0, .int .i64 kd] 42)
  rwa [World.size_alloc, World.size_alloc] at this
 have HI1 : Aside0 (IsS92 w _ (w.heap.size + 1) (a0.extract 1 a0.size) false) := ⟨⟨hIc, Nat.le_succ _⟩⟩
 have BL1 := Aside0.mk hLc
 have HB1 : Aside0 (Below w.heap.size w (((w.alloc (.cells #[.int .u64 0, .int .i64 0] 42)).alloc (.cells #[.string (a0.extract 1 a0.size), .bool false] 92)).alloc (.cells #[.int .u64 0, .int .i64 kd] 42))) := ⟨below_alloc (below_alloc (below_alloc (Below.refl _ _) _) _) _⟩
 have hRc : (((w.alloc (.cells #[.int .u64 0, .int .i64 0] 42)).alloc (.cells #[.string (a0.extract 1 a0.size), .bool false] 92)).alloc (.cells #[.int .u64 0, .int .i64 kd] 42)).heap[w.heap.size]? = some (.cells #[.int .u64 0, .int .i64 0] 42 (0, 0)) := blk_alloc (blk_alloc (blk_new _ _) _) _
 have BR1 := Aside0.mk hRc
 clear hIc hLc hRc
 generalize (((w.alloc (.cells #[.int .u64 0, .int .i64 0] 42)).alloc (.cells #[.string (a0.extract 1 a0.size), .bool false] 92)).alloc (.cells #[.int .u64 0, .int .i64 kd] 42)) = W1 at HI1 BL1 HB1 BR1 ⊢
 obtain ⟨g1, hg1⟩ : ∃ g, w.heap.size = g := ⟨_, rfl⟩
 obtain ⟨g2, hg2⟩ : ∃ g, w.heap.size + 1 = g := ⟨_, rfl⟩
 obtain ⟨g3, hg3⟩ : ∃ g, w.heap.size + 1 + 1 = g := ⟨_, rfl⟩
 have HG1 : Hid (w.heap.size ≤ g1 ∧ w.heap.size ≤ g2 ∧ w.heap.size ≤ g3 ∧ g1 ≠ g2 ∧ g1 ≠ g3 ∧ g2 ≠ g3) := Lib.hid ⟨r37_, r37_, r37_, r37_, r37_, r37_⟩
 rw [hg3] at BL1
 rw [hg2] at HI1
 have BR1b : Aside0 (W1.heap[g1]? = some (.cells #[.int .u64 0, .int .i64 0] 42 (0, 0))) := by rw [← hg1]; exact BR1
 clear BR1
 rw [hg3, hg2]
 refine (screeref12_In_Num.calls k g2 (a0.extract 1 a0.size) false n1 s1 q1 w W1 HI1.out HB1.out HA.out).mono ?_
 rintro e w2 ⟨rfl, hi, hb, hk⟩
 have HI2 := Aside0.mk hi
 have HB2 := Aside0.mk hb
 have BL2 := Aside0.mk (hk.blk BL1.out (Ne.symm HG1.out.2.2.2.2.2) r34_)
 have BR2 := Aside0.mk (hk.blk BR1b.out HG1.out.2.2.2.1 r34_)
 clear hi hb hk HI1 HB1 BL1 BR1b
 have c_ : w2.cell? ⟨g3, 0, none⟩ = some (.int .u64 0) := (blk_cell BL2.out 0).trans rfl
 have f_ := blk_frozen BL2.out 0
 rw [hg1]
 clear hg1 hg2 hg3
 go_upto_region 6 with (fail)
 clear c_ f_
 have HI6 := Aside0.mk (IsS92.far (p := ⟨g3, 0, none⟩) HI2.out HG1.out.2.2.2.2.2 (.int .u64 n1))
 have BL6 := Aside0.mk (blk_put (cs' := #[.int .u64 n1, .int .i64 kd]) BL2.out 0 (.int .u64 n1) rfl)
 have BR6 := Aside0.mk (blk_far (p := ⟨g3, 0, none⟩) BR2.out HG1.out.2.2.2.2.1 (.int .u64 n1))
 have HB6 := Aside0.mk (HB2.out.setCell (p := ⟨g3, 0, none⟩) HG1.out.2.2.1 (.int .u64 n1))
 clear HI2 BL2 BR2 HB2
 generalize (w2.setCell ⟨g3, 0, none⟩ (.int .u64 n1)) = w6 at HI6 BL6 BR6 HB6 ⊢
 have c0_ : w6.cell? ⟨g3, 0, none⟩ = some (.int .u64 n1) := (blk_cell BL6.out 0).trans rfl
 have c1_ : w6.cell? ⟨g3, 1, none⟩ = some (.int .i64 kd) := (blk_cell BL6.out 1).trans rfl
 go_wp2_with (fail)
 refine (screeref15_Write.calls k n1 kd is e3 w6 HC.out).mono ?_
 rintro e w7 ⟨rfl, hb⟩
 have HI7 := Aside0.mk (HI6.out.below hb)
 have BL7 := Aside0.mk (blk_below BL6.out hb)
 have BR7 := Aside0.mk (blk_below BR6.out hb)
 have HB7 := Aside0.mk (below_step HB6.out hb)
 clear c0_ c1_ hb HI6 BL6 BR6 HB6
 have i1_ : w7.cell? ⟨g2, 1, none⟩ = some (.bool q1) := (blk_cell HI7.out.1 1).trans rfl
 have r0_ : w7.cell? ⟨g1, 0, none⟩ = some (.int .u64 0) := (blk_cell BR7.out 0).trans rfl
 have r1_ : w7.cell? ⟨g1, 1, none⟩ = some (.int .i64 0) := (blk_cell BR7.out 1).trans rfl
 have p0_ := blk_frozen BR7.out 0
 have p1_ := blk_frozen BR7.out 1
 have l0_ : w7.cell? ⟨g3, 0, none⟩ = some (.int .u64 n1) := (blk_cell BL7.out 0).trans rfl
 have l1_ : w7.cell? ⟨g3, 1, none⟩ = some (.int .i64 kd) := (blk_cell BL7.out 1).trans rfl
 have hh : (if q1 = true ∨ e3 ≠ 0 ∨ is.toList ≠ a0.toList then some ((0 : Int), (0 : Int), (2 : Int)) else some (n1, kd, 0)) = some (r1, r2, r3) := HH.out
 clear HH
 have zero : (q1 = true ∨ e3 ≠ 0 ∨ is.toList ≠ a0.toList) → (0, 0, 2) = (r1, r2, r3) := by
  intro hbad
  rw [if_pos hbad] at hh
  exact Option.some.inj hh
 cases q1 with
 | true =>
  have hh2 := zero (Or.inl rfl)
  simp only [Prod.mk.injEq] at hh2
  obtain ⟨rfl, rfl, rfl⟩ := hh2
  clear hh zero
  go_wp2
  exact bodyPost_ret (hfin _ _ g1 _ _ rfl (blk_put (cs' := #[.int .u64 0, .int .i64 0]) (blk_put (cs' := #[.int .u64 0, .int .i64 0]) BR7.out 0 _ rfl) 1 _ rfl)) rfl ⟨rfl, (HB7.out.setCell (p := ⟨g1, 0, none⟩) HG1.out.1 _).setCell (p := ⟨g1, 1, none⟩) HG1.out.1 _⟩
 | false =>
 by_cases he3 : e3 = 0
 case neg =>
  have hh2 := zero (Or.inr (Or.inl he3))
  simp only [Prod.mk.injEq] at hh2
  obtain ⟨rfl, rfl, rfl⟩ := hh2
  have e1_ : (e3 == 0) = false := beq_eq_false_iff_ne.mpr he3
  have e2_ : (e3 != 0) = true := bne_iff_ne.mpr he3
  clear hh zero
  go_wp2
  exact bodyPost_ret (hfin _ _ g1 _ _ rfl (blk_put (cs' := #[.int .u64 0, .int .i64 0]) (blk_put (cs' := #[.int .u64 0, .int .i64 0]) BR7.out 0 _ rfl) 1 _ rfl)) rfl ⟨rfl, (HB7.out.setCell (p := ⟨g1, 0, none⟩) HG1.out.1 _).setCell (p := ⟨g1, 1, none⟩) HG1.out.1 _⟩
 subst he3
 by_cases hs : is.toList = a0.toList
 ·have s1_ : (is.toList == a0.toList) = true := beq_iff_eq.mpr hs
  have s2_ : (is.toList != a0.toList) = false := bne_eq_false_iff_eq.mpr hs
  rw [if_neg (by simpa using hs)] at hh
  simp only [Option.some.injEq, Prod.mk.injEq] at hh
  obtain ⟨rfl, rfl, rfl⟩ := hh
  clear hs zero
  go_wp2
  exact bodyPost_ret (hfin _ _ g1 _ _ rfl (blk_put (cs' := #[.int .u64 n1, .int .i64 kd]) (blk_put (cs' := #[.int .u64 n1, .int .i64 0]) BR7.out 0 _ rfl) 1 _ rfl)) rfl ⟨rfl, (HB7.out.setCell (p := ⟨g1, 0, none⟩) HG1.out.1 _).setCell (p := ⟨g1, 1, none⟩) HG1.out.1 _⟩
 have s1_ : (is.toList == a0.toList) = false := beq_eq_false_iff_ne.mpr hs
 have s2_ : (is.toList != a0.toList) = true := bne_iff_ne.mpr hs
 have hh2 := zero (Or.inr (Or.inr hs))
 simp only [Prod.mk.injEq] at hh2
 obtain ⟨rfl, rfl, rfl⟩ := hh2
 clear hh zero hs
 go_wp2
 exact bodyPost_ret (hfin _ _ g1 _ _ rfl (blk_put (cs' := #[.int .u64 0, .int .i64 0]) (blk_put (cs' := #[.int .u64 0, .int .i64 0]) BR7.out 0 _ rfl) 1 _ rfl)) rfl ⟨rfl, (HB7.out.setCell (p := ⟨g1, 0, none⟩) HG1.out.1 _).setCell (p := ⟨g1, 1, none⟩) HG1.out.1 _⟩

/-! ### screeref17_Read: function 21 -/
def screeref17_Read.f1 (k : Nat) (a0 : ByteArray) (a3 : ByteArray) : Option gc_read.R :=
 (screeref02_Read.f k a0).bind fun p => if p.2.2.2 ≠ 0 then some gc_read.none_ else if p.1 = 4 then some gc_read.none_
  else if p.1 = 1 then (screeref15_Unlock.f k a3).bind fun l => if l.2.2.2.2 ≠ 0 then some gc_read.none_ else some ⟨p.1, p.2.1, p.2.2.1, l.1, l.2.1, l.2.2.1, l.2.2.2.1, 0, 0⟩
  else if p.1 = 2 then (screeref15_Unwrite.f k a3).bind fun l => if l.2.2 ≠ 0 then some gc_read.none_ else some ⟨p.1, p.2.1, p.2.2.1, ⟨#[]⟩, 0, 0, 0, l.1, l.2.1⟩
  else some ⟨p.1, p.2.1, p.2.2.1, ⟨#[]⟩, 0, 0, 0, 0, 0⟩
theorem screeref17_Read.mono1 : ∀ a0 a3 k, LeO (screeref17_Read.f1 k a0 a3) (screeref17_Read.f1 (k + 1) a0 a3) := by
 intro a0 a3 k
 unfold screeref17_Read.f1
 exact LeO.bind (screeref02_Read.mono _ _) (fun _ => LeO.ite (LeO.refl _) (LeO.ite (LeO.refl _) (LeO.ite (LeO.bind (screeref15_Unlock.mono _ _) (fun _ => LeO.refl _)) (LeO.ite (LeO.bind (screeref15_Unwrite.mono _ _) (fun _ => LeO.refl _)) (LeO.refl _)))))
theorem screeref17_Read.results_c {P : Program} {fn : Func} {p : Tmp} {ty : TypeId} (h : fn.results = #[.cell p ty]) (tmps : Array Value) (w : World) (g : Nat) (t : TypeId) (cs : Array Value) (fr : Nat × Nat) (d : TypeDesc)
  (hp : tmps.getD p undef = .pointer (some ⟨g, 0, none⟩)) (hg : w.heap[g]? = some (.cells cs t fr))
  (hu : P.underlying ty = some d) (hd : (match d with | .struct _ | .array _ _ => true | _ => false) = true) (hi : (P.info? ty).map (·.size) = some cs.size) :
  (results fn tmps).run P w = .ok (.agg cs) w := by
 have hp' : tmps[p]?.getD undef = .pointer (some ⟨g, 0, none⟩) := by simpa using hp
 simp [results, h, hp', asAddr, run_loadVar_row w g t ty cs fr d hg hu hd hi]
set_option maxHeartbeats 3200000 in
set_option maxRecDepth 100000 in
theorem screeref17_Read.calls1 (k : Nat) (a0 : ByteArray) (a1 : Int) (a2 : Bool) (a3 : ByteArray) (r : gc_read.R) (w : World) (h : screeref17_Read.f1 k a0 a3 = some r) :
  Calls Try.prog 21 #[.agg #[.string a0, .int .u64 a1, .bool a2, .string a3]] w fun e w' => e = .returned (.agg r.cells) ∧ Below w.heap.size w w' := by
 have hu44 := Try.underlying44
 unfold screeref17_Read.f1 at h
 replace h := Option.bind_eq_some_iff.mp h
 obtain ⟨⟨p1, p2, p3, p4⟩, hP, h⟩ := h
 have HP := Lib.hid hP
 clear hP
 go_enter Try.func21, Try.ntmps21
 go_wp2_with (fail)
 have hX : ((w.alloc (.cells #[.string a0, .int .u64 a1, .bool a2, .string a3] 47)).alloc (.cells #[.int .i64 0, .string ⟨#[]⟩, .int .u64 0, .string ⟨#[]⟩, .int .u64 0, .int .i64 0, .int .u64 0, .int .u64 0, .int .i64 0] 44)).heap[w.heap.size]? = some (.cells #[.string a0, .int .u64 a1, .bool a2, .string a3] 47 (0, 0)) := blk_alloc (blk_new w _) _
 have hZ : ((w.alloc (.cells #[.string a0, .int .u64 a1, .bool a2, .string a3] 47)).alloc (.cells #[.int .i64 0, .string ⟨#[]⟩, .int .u64 0, .string ⟨#[]⟩, .int .u64 0, .int .i64 0, .int .u64 0, .int .u64 0, .int .i64 0] 44)).heap[w.heap.size + 1]? = some (.cells #[.int .i64 0, .string ⟨#[]⟩, .int .u64 0, .string ⟨#[]⟩, .int .u64 0, .int .i64 0, .int .u64 0, .int .u64 0, .int .i64 0] 44 (0, 0)) := by
  have := blk_new (w.alloc (.cells #[.string a0, .int .u64 a1, .bool a2, .string a3] 47)) (.cells #[.int .i64 0, .string ⟨#[]⟩, .int .u64 0, .string ⟨#[]⟩, .int .u64 0, .int .i64 0, .int .u64 0, .int .u64 0, .int .i64 0] 44)
  rwa [World.size_alloc] at this
 have hB : Below w.heap.size w ((w.alloc (.cells #[.string a0, .int .u64 a1, .bool a2, .string a3] 47)).alloc (.cells #[.int .i64 0, .string ⟨#[]⟩, .int .u64 0, .string ⟨#[]⟩, .int .u64 0, .int .i64 0, .int .u64 0, .int .u64 0, .int .i64 0] 44)) := below_alloc (below_alloc (Below.refl _ _) _) _
 have BX1 := Aside0.mk hX
 have BZ1 := Aside0.mk hZ
 have HB1 := Aside0.mk hB
 clear hX hZ hB
 generalize ((w.alloc (.cells #[.string a0, .int .u64 a1, .bool a2, .string a3] 47)).alloc (.cells #[.int .i64 0, .string ⟨#[]⟩, .int .u64 0, .string ⟨#[]⟩, .int .u64 0, .int .i64 0, .int .u64 0, .int .u64 0, .int .i64 0] 44)) = W1 at BX1 BZ1 HB1 ⊢
 obtain ⟨g1, hg1⟩ : ∃ g, w.heap.size = g := ⟨_, rfl⟩
 obtain ⟨g2, hg2⟩ : ∃ g, w.heap.size + 1 = g := ⟨_, rfl⟩
 have HG : Hid (w.heap.size ≤ g1 ∧ w.heap.size ≤ g2 ∧ g1 ≠ g2) := Lib.hid ⟨r37_, r37_, r37_⟩
 have BX2 : Aside0 (W1.heap[g1]? = some (.cells #[.string a0, .int .u64 a1, .bool a2, .string a3] 47 (0, 0))) := by rw [← hg1]; exact BX1
 have BZ2 : Aside0 (W1.heap[g2]? = some (.cells #[.int .i64 0, .string ⟨#[]⟩, .int .u64 0, .string ⟨#[]⟩, .int .u64 0, .int .i64 0, .int .u64 0, .int .u64 0, .int .i64 0] 44 (0, 0))) := by rw [← hg2]; exact BZ1
 clear BX1 BZ1
 rw [hg2]
 refine (screeref02_Read.calls k a0 p1 p2 p3 p4 _ HP.out).mono ?_
 rintro e w2 ⟨rfl, hb⟩
 have BX := Aside0.mk (blk_below BX2.out hb)
 have BZ := Aside0.mk (blk_below BZ2.out hb)
 have HB := Aside0.mk (below_step HB1.out hb)
 clear hb BX2 BZ2 HB1 HP
 rw [hg1]
 clear hg1 hg2
 go_upto_region 2 with (fail)
 have BX4 := Aside0.mk (blk_alloc BX.out (.cells #[.int .i64 p1, .string p2, .int .u64 p3] 53))
 have BZ4 := Aside0.mk (blk_alloc BZ.out (.cells #[.int .i64 p1, .string p2, .int .u64 p3] 53))
 have B34 := Aside0.mk (blk_new w2 (.cells #[.int .i64 p1, .string p2, .int .u64 p3] 53))
 have HB4 := Aside0.mk (below_alloc HB.out (.cells #[.int .i64 p1, .string p2, .int .u64 p3] 53))
 have HG4 : Hid (w.heap.size ≤ w2.heap.size ∧ g1 ≠ w2.heap.size ∧ g2 ≠ w2.heap.size) := Lib.hid ⟨HB.out.size, by have := blk_lt BX.out; omega, by have := blk_lt BZ.out; omega⟩
 clear BX BZ HB
 have BX := BX4
 have BZ := BZ4
 have B3 := B34
 have HB := HB4
 clear BX4 BZ4 B34 HB4
 generalize (w2.alloc (.cells #[.int .i64 p1, .string p2, .int .u64 p3] 53)) = w4 at BX BZ B3 HB ⊢
 generalize w2.heap.size = g3 at B3 HG4 ⊢
 by_cases h4 : p4 = 0
 case neg =>
  have d1 : (p4 == 0) = false := beq_eq_false_iff_ne.mpr h4
  have d2 : (p4 != 0) = true := bne_iff_ne.mpr h4
  rw [if_pos h4] at h
  obtain rfl := Option.some.inj h
  have z0_ : w4.cell? ⟨g2, 0, none⟩ = some (.int .i64 0) := (blk_cell BZ.out 0).trans rfl
  have z1_ : w4.cell? ⟨g2, 1, none⟩ = some (.string ⟨#[]⟩) := (blk_cell BZ.out 1).trans rfl
  have z2_ : w4.cell? ⟨g2, 2, none⟩ = some (.int .u64 0) := (blk_cell BZ.out 2).trans rfl
  have z3_ : w4.cell? ⟨g2, 3, none⟩ = some (.string ⟨#[]⟩) := (blk_cell BZ.out 3).trans rfl
  have z4_ : w4.cell? ⟨g2, 4, none⟩ = some (.int .u64 0) := (blk_cell BZ.out 4).trans rfl
  have z5_ : w4.cell? ⟨g2, 5, none⟩ = some (.int .i64 0) := (blk_cell BZ.out 5).trans rfl
  have z6_ : w4.cell? ⟨g2, 6, none⟩ = some (.int .u64 0) := (blk_cell BZ.out 6).trans rfl
  have z7_ : w4.cell? ⟨g2, 7, none⟩ = some (.int .u64 0) := (blk_cell BZ.out 7).trans rfl
  have z8_ : w4.cell? ⟨g2, 8, none⟩ = some (.int .i64 0) := (blk_cell BZ.out 8).trans rfl
  have fz0_ := blk_frozen BZ.out 0
  have fz1_ := blk_frozen BZ.out 1
  have fz2_ := blk_frozen BZ.out 2
  have fz3_ := blk_frozen BZ.out 3
  have fz4_ := blk_frozen BZ.out 4
  have fz5_ := blk_frozen BZ.out 5
  have fz6_ := blk_frozen BZ.out 6
  have fz7_ := blk_frozen BZ.out 7
  have fz8_ := blk_frozen BZ.out 8
  go_wp2
  exact bodyPost_ret (screeref17_Read.results_c rfl _ _ g2 _ #[.int .i64 0, .string ⟨#[]⟩, .int .u64 0, .string ⟨#[]⟩, .int .u64 0, .int .i64 0, .int .u64 0, .int .u64 0, .int .i64 0] (0, 0) _ rfl (blk_put (cs' := #[.int .i64 0, .string ⟨#[]⟩, .int .u64 0, .string ⟨#[]⟩, .int .u64 0, .int .i64 0, .int .u64 0, .int .u64 0, .int .i64 0]) (blk_put (cs' := #[.int .i64 0, .string ⟨#[]⟩, .int .u64 0, .string ⟨#[]⟩, .int .u64 0, .int .i64 0, .int .u64 0, .int .u64 0, .int .i64 0]) (blk_put (cs' := #[.int .i64 0, .string ⟨#[]⟩, .int .u64 0, .string ⟨#[]⟩, .int .u64 0, .int .i64 0, .int .u64 0, .int .u64 0, .int .i64 0]) (blk_put (cs' := #[.int .i64 0, .string ⟨#[]⟩, .int .u64 0, .string ⟨#[]⟩, .int .u64 0, .int .i64 0, .int .u64 0, .int .u64 0, .int .i64 0]) (blk_put (cs' := #[.int .i64 0, .string ⟨#[]⟩, .int .u64 0, .string ⟨#[]⟩, .int .u64 0, .int .i64 0, .int .u64 0, .int .u64 0, .int .i64 0]) (blk_put (cs' := #[.int .i64 0, .string ⟨#[]⟩, .int .u64 0, .string ⟨#[]⟩, .int .u64 0, .int .i64 0, .int .u64 0, .int .u64 0, .int .i64 0]) (blk_put (cs' := #[.int .i64 0, .string ⟨#[]⟩, .int .u64 0, .string ⟨#[]⟩, .int .u64 0, .int .i64 0, .int .u64 0, .int .u64 0, .int .i64 0]) (blk_put (cs' := #[.int .i64 0, .string ⟨#[]⟩, .int .u64 0, .string ⟨#[]⟩, .int .u64 0, .int .i64 0, .int .u64 0, .int .u64 0, .int .i64 0]) (blk_put (cs' := #[.int .i64 0, .string ⟨#[]⟩, .int .u64 0, .string ⟨#[]⟩, .int .u64 0, .int .i64 0, .int .u64 0, .int .u64 0, .int .i64 0]) BZ.out 0 _ rfl) 1 _ rfl) 2 _ rfl) 3 _ rfl) 4 _ rfl) 5 _ rfl) 6 _ rfl) 7 _ rfl) 8 _ rfl) hu44 rfl r6_) rfl ⟨rfl, (((((((((HB.out.setCell (p := ⟨g2, 0, none⟩) HG.out.2.1 _).setCell (p := ⟨g2, 1, none⟩) HG.out.2.1 _).setCell (p := ⟨g2, 2, none⟩) HG.out.2.1 _).setCell (p := ⟨g2, 3, none⟩) HG.out.2.1 _).setCell (p := ⟨g2, 4, none⟩) HG.out.2.1 _).setCell (p := ⟨g2, 5, none⟩) HG.out.2.1 _).setCell (p := ⟨g2, 6, none⟩) HG.out.2.1 _).setCell (p := ⟨g2, 7, none⟩) HG.out.2.1 _).setCell (p := ⟨g2, 8, none⟩) HG.out.2.1 _)⟩
 subst h4
 rw [if_neg r34_] at h
 have y0_ : w4.cell? ⟨g3, 0, none⟩ = some (.int .i64 p1) := (blk_cell B3.out 0).trans rfl
 have y1_ : w4.cell? ⟨g3, 1, none⟩ = some (.string p2) := (blk_cell B3.out 1).trans rfl
 have y2_ : w4.cell? ⟨g3, 2, none⟩ = some (.int .u64 p3) := (blk_cell B3.out 2).trans rfl
 by_cases h5 : p1 = 4
 ·subst h5
  rw [if_pos rfl] at h
  obtain rfl := Option.some.inj h
  have z0_ : w4.cell? ⟨g2, 0, none⟩ = some (.int .i64 0) := (blk_cell BZ.out 0).trans rfl
  have z1_ : w4.cell? ⟨g2, 1, none⟩ = some (.string ⟨#[]⟩) := (blk_cell BZ.out 1).trans rfl
  have z2_ : w4.cell? ⟨g2, 2, none⟩ = some (.int .u64 0) := (blk_cell BZ.out 2).trans rfl
  have z3_ : w4.cell? ⟨g2, 3, none⟩ = some (.string ⟨#[]⟩) := (blk_cell BZ.out 3).trans rfl
  have z4_ : w4.cell? ⟨g2, 4, none⟩ = some (.int .u64 0) := (blk_cell BZ.out 4).trans rfl
  have z5_ : w4.cell? ⟨g2, 5, none⟩ = some (.int .i64 0) := (blk_cell BZ.out 5).trans rfl
  have z6_ : w4.cell? ⟨g2, 6, none⟩ = some (.int .u64 0) := (blk_cell BZ.out 6).trans rfl
  have z7_ : w4.cell? ⟨g2, 7, none⟩ = some (.int .u64 0) := (blk_cell BZ.out 7).trans rfl
  have z8_ : w4.cell? ⟨g2, 8, none⟩ = some (.int .i64 0) := (blk_cell BZ.out 8).trans rfl
  have fz0_ := blk_frozen BZ.out 0
  have fz1_ := blk_frozen BZ.out 1
  have fz2_ := blk_frozen BZ.out 2
  have fz3_ := blk_frozen BZ.out 3
  have fz4_ := blk_frozen BZ.out 4
  have fz5_ := blk_frozen BZ.out 5
  have fz6_ := blk_frozen BZ.out 6
  have fz7_ := blk_frozen BZ.out 7
  have fz8_ := blk_frozen BZ.out 8
  go_wp2
  exact bodyPost_ret (screeref17_Read.results_c rfl _ _ g2 _ #[.int .i64 0, .string ⟨#[]⟩, .int .u64 0, .string ⟨#[]⟩, .int .u64 0, .int .i64 0, .int .u64 0, .int .u64 0, .int .i64 0] (0, 0) _ rfl (blk_put (cs' := #[.int .i64 0, .string ⟨#[]⟩, .int .u64 0, .string ⟨#[]⟩, .int .u64 0, .int .i64 0, .int .u64 0, .int .u64 0, .int .i64 0]) (blk_put (cs' := #[.int .i64 0, .string ⟨#[]⟩, .int .u64 0, .string ⟨#[]⟩, .int .u64 0, .int .i64 0, .int .u64 0, .int .u64 0, .int .i64 0]) (blk_put (cs' := #[.int .i64 0, .string ⟨#[]⟩, .int .u64 0, .string ⟨#[]⟩, .int .u64 0, .int .i64 0, .int .u64 0, .int .u64 0, .int .i64 0]) (blk_put (cs' := #[.int .i64 0, .string ⟨#[]⟩, .int .u64 0, .string ⟨#[]⟩, .int .u64 0, .int .i64 0, .int .u64 0, .int .u64 0, .int .i64 0]) (blk_put (cs' := #[.int .i64 0, .string ⟨#[]⟩, .int .u64 0, .string ⟨#[]⟩, .int .u64 0, .int .i64 0, .int .u64 0, .int .u64 0, .int .i64 0]) (blk_put (cs' := #[.int .i64 0, .string ⟨#[]⟩, .int .u64 0, .string ⟨#[]⟩, .int .u64 0, .int .i64 0, .int .u64 0, .int .u64 0, .int .i64 0]) (blk_put (cs' := #[.int .i64 0, .string ⟨#[]⟩, .int .u64 0, .string ⟨#[]⟩, .int .u64 0, .int .i64 0, .int .u64 0, .int .u64 0, .int .i64 0]) (blk_put (cs' := #[.int .i64 0, .string ⟨#[]⟩, .int .u64 0, .string ⟨#[]⟩, .int .u64 0, .int .i64 0, .int .u64 0, .int .u64 0, .int .i64 0]) (blk_put (cs' := #[.int .i64 0, .string ⟨#[]⟩, .int .u64 0, .string ⟨#[]⟩, .int .u64 0, .int .i64 0, .int .u64 0, .int .u64 0, .int .i64 0]) BZ.out 0 _ rfl) 1 _ rfl) 2 _ rfl) 3 _ rfl) 4 _ rfl) 5 _ rfl) 6 _ rfl) 7 _ rfl) 8 _ rfl) hu44 rfl r6_) rfl ⟨rfl, (((((((((HB.out.setCell (p := ⟨g2, 0, none⟩) HG.out.2.1 _).setCell (p := ⟨g2, 1, none⟩) HG.out.2.1 _).setCell (p := ⟨g2, 2, none⟩) HG.out.2.1 _).setCell (p := ⟨g2, 3, none⟩) HG.out.2.1 _).setCell (p := ⟨g2, 4, none⟩) HG.out.2.1 _).setCell (p := ⟨g2, 5, none⟩) HG.out.2.1 _).setCell (p := ⟨g2, 6, none⟩) HG.out.2.1 _).setCell (p := ⟨g2, 7, none⟩) HG.out.2.1 _).setCell (p := ⟨g2, 8, none⟩) HG.out.2.1 _)⟩
 have d4 : (p1 == 4) = false := beq_eq_false_iff_ne.mpr h5
 rw [if_neg h5] at h
 go_upto_region 5 with (fail)
 have BX6 := Aside0.mk (blk_alloc BX.out (.cells #[.int .i64 p1, .string p2, .int .u64 p3, .string ⟨#[]⟩, .int .u64 0, .int .i64 0, .int .u64 0, .int .u64 0, .int .i64 0] 44))
 have BZ6 := Aside0.mk (blk_alloc BZ.out (.cells #[.int .i64 p1, .string p2, .int .u64 p3, .string ⟨#[]⟩, .int .u64 0, .int .i64 0, .int .u64 0, .int .u64 0, .int .i64 0] 44))
 have B36 := Aside0.mk (blk_alloc B3.out (.cells #[.int .i64 p1, .string p2, .int .u64 p3, .string ⟨#[]⟩, .int .u64 0, .int .i64 0, .int .u64 0, .int .u64 0, .int .i64 0] 44))
 have B56 := Aside0.mk (blk_new w4 (.cells #[.int .i64 p1, .string p2, .int .u64 p3, .string ⟨#[]⟩, .int .u64 0, .int .i64 0, .int .u64 0, .int .u64 0, .int .i64 0] 44))
 have HB6 := Aside0.mk (below_alloc HB.out (.cells #[.int .i64 p1, .string p2, .int .u64 p3, .string ⟨#[]⟩, .int .u64 0, .int .i64 0, .int .u64 0, .int .u64 0, .int .i64 0] 44))
 have HG6 : Hid (w.heap.size ≤ w4.heap.size ∧ g1 ≠ w4.heap.size ∧ g2 ≠ w4.heap.size ∧ g3 ≠ w4.heap.size) := Lib.hid ⟨HB.out.size, by have := blk_lt BX.out; omega, by have := blk_lt BZ.out; omega, by have := blk_lt B3.out; omega⟩
 clear BX BZ B3 HB y0_ y1_ y2_
 have BX := BX6
 have BZ := BZ6
 have B3 := B36
 have B5 := B56
 have HB := HB6
 clear BX6 BZ6 B36 B56 HB6
 generalize (w4.alloc (.cells #[.int .i64 p1, .string p2, .int .u64 p3, .string ⟨#[]⟩, .int .u64 0, .int .i64 0, .int .u64 0, .int .u64 0, .int .i64 0] 44)) = w6 at BX BZ B3 B5 HB ⊢
 generalize w4.heap.size = g5 at B5 HG6 ⊢
 have y0_ : w6.cell? ⟨g3, 0, none⟩ = some (.int .i64 p1) := (blk_cell B3.out 0).trans rfl
 by_cases hc1 : p1 = 1
 ·subst hc1
  rw [if_pos rfl] at h
  replace h := Option.bind_eq_some_iff.mp h
  obtain ⟨⟨l1, l2, l3, l4, l5⟩, hL, h⟩ := h
  have HL := Lib.hid hL
  clear hL
  have x0_ : w6.cell? ⟨g1, 0, none⟩ = some (.string a0) := (blk_cell BX.out 0).trans rfl
  have x1_ : w6.cell? ⟨g1, 1, none⟩ = some (.int .u64 a1) := (blk_cell BX.out 1).trans rfl
  have x2_ : w6.cell? ⟨g1, 2, none⟩ = some (.bool a2) := (blk_cell BX.out 2).trans rfl
  have x3_ : w6.cell? ⟨g1, 3, none⟩ = some (.string a3) := (blk_cell BX.out 3).trans rfl
  go_wp2_with (fail)
  refine (screeref15_Unlock.calls k a3 l1 l2 l3 l4 l5 _ HL.out).mono ?_
  rintro e w7 ⟨rfl, hb⟩
  replace BX := Aside0.mk (blk_below BX.out hb)
  replace BZ := Aside0.mk (blk_below BZ.out hb)
  replace B3 := Aside0.mk (blk_below B3.out hb)
  replace B5 := Aside0.mk (blk_below B5.out hb)
  replace HB := Aside0.mk (below_step HB.out hb)
  clear hb HL y0_ x0_ x1_ x2_ x3_
  have s3_ : w7.cell? ⟨g5, 3, none⟩ = some (.string ⟨#[]⟩) := (blk_cell B5.out 3).trans rfl
  have s4_ : w7.cell? ⟨g5, 4, none⟩ = some (.int .u64 0) := (blk_cell B5.out 4).trans rfl
  have s5_ : w7.cell? ⟨g5, 5, none⟩ = some (.int .i64 0) := (blk_cell B5.out 5).trans rfl
  have s6_ : w7.cell? ⟨g5, 6, none⟩ = some (.int .u64 0) := (blk_cell B5.out 6).trans rfl
  have fs3_ := blk_frozen B5.out 3
  have fs4_ := blk_frozen B5.out 4
  have fs5_ := blk_frozen B5.out 5
  have fs6_ := blk_frozen B5.out 6
  have y0_ : w7.cell? ⟨g3, 0, none⟩ = some (.int .i64 1) := (blk_cell B3.out 0).trans rfl
  have n35 : g3 ≠ g5 := HG6.out.2.2.2
  have n53 : g5 ≠ g3 := Ne.symm n35
  go_upto_region 9 with (fail)
  clear s3_ fs3_ s4_ fs4_ s5_ fs5_ s6_ fs6_
  replace BZ := Aside0.mk (blk_far (p := ⟨g5, 6, none⟩) (blk_far (p := ⟨g5, 5, none⟩) (blk_far (p := ⟨g5, 4, none⟩) (blk_far (p := ⟨g5, 3, none⟩) BZ.out HG6.out.2.2.1 (.string l1)) HG6.out.2.2.1 (.int .u64 l2)) HG6.out.2.2.1 (.int .i64 l3)) HG6.out.2.2.1 (.int .u64 l4))
  replace HB := Aside0.mk ((((HB.out.setCell (p := ⟨g5, 3, none⟩) HG6.out.1 (.string l1)).setCell (p := ⟨g5, 4, none⟩) HG6.out.1 (.int .u64 l2)).setCell (p := ⟨g5, 5, none⟩) HG6.out.1 (.int .i64 l3)).setCell (p := ⟨g5, 6, none⟩) HG6.out.1 (.int .u64 l4))
  replace B5 := Aside0.mk (blk_put (cs' := #[.int .i64 1, .string p2, .int .u64 p3, .string l1, .int .u64 l2, .int .i64 l3, .int .u64 l4, .int .u64 0, .int .i64 0]) (blk_put (cs' := #[.int .i64 1, .string p2, .int .u64 p3, .string l1, .int .u64 l2, .int .i64 l3, .int .u64 0, .int .u64 0, .int .i64 0]) (blk_put (cs' := #[.int .i64 1, .string p2, .int .u64 p3, .string l1, .int .u64 l2, .int .i64 0, .int .u64 0, .int .u64 0, .int .i64 0]) (blk_put (cs' := #[.int .i64 1, .string p2, .int .u64 p3, .string l1, .int .u64 0, .int .i64 0, .int .u64 0, .int .u64 0, .int .i64 0]) B5.out 3 (.string l1) rfl) 4 (.int .u64 l2) rfl) 5 (.int .i64 l3) rfl) 6 (.int .u64 l4) rfl)
  clear BX B3
  generalize ((((w7.setCell ⟨g5, 3, none⟩ (.string l1)).setCell ⟨g5, 4, none⟩ (.int .u64 l2)).setCell ⟨g5, 5, none⟩ (.int .i64 l3)).setCell ⟨g5, 6, none⟩ (.int .u64 l4)) = w8 at BZ B5 HB ⊢
  have z0_ : w8.cell? ⟨g2, 0, none⟩ = some (.int .i64 0) := (blk_cell BZ.out 0).trans rfl
  have z1_ : w8.cell? ⟨g2, 1, none⟩ = some (.string ⟨#[]⟩) := (blk_cell BZ.out 1).trans rfl
  have z2_ : w8.cell? ⟨g2, 2, none⟩ = some (.int .u64 0) := (blk_cell BZ.out 2).trans rfl
  have z3_ : w8.cell? ⟨g2, 3, none⟩ = some (.string ⟨#[]⟩) := (blk_cell BZ.out 3).trans rfl
  have z4_ : w8.cell? ⟨g2, 4, none⟩ = some (.int .u64 0) := (blk_cell BZ.out 4).trans rfl
  have z5_ : w8.cell? ⟨g2, 5, none⟩ = some (.int .i64 0) := (blk_cell BZ.out 5).trans rfl
  have z6_ : w8.cell? ⟨g2, 6, none⟩ = some (.int .u64 0) := (blk_cell BZ.out 6).trans rfl
  have z7_ : w8.cell? ⟨g2, 7, none⟩ = some (.int .u64 0) := (blk_cell BZ.out 7).trans rfl
  have z8_ : w8.cell? ⟨g2, 8, none⟩ = some (.int .i64 0) := (blk_cell BZ.out 8).trans rfl
  have fz0_ := blk_frozen BZ.out 0
  have fz1_ := blk_frozen BZ.out 1
  have fz2_ := blk_frozen BZ.out 2
  have fz3_ := blk_frozen BZ.out 3
  have fz4_ := blk_frozen BZ.out 4
  have fz5_ := blk_frozen BZ.out 5
  have fz6_ := blk_frozen BZ.out 6
  have fz7_ := blk_frozen BZ.out 7
  have fz8_ := blk_frozen BZ.out 8
  by_cases he : l5 = 0
  case neg =>
   have d3 : (l5 == 0) = false := beq_eq_false_iff_ne.mpr he
   have d5 : (l5 != 0) = true := bne_iff_ne.mpr he
   rw [if_pos he] at h
   obtain rfl := Option.some.inj h
   go_wp2
   exact bodyPost_ret (screeref17_Read.results_c rfl _ _ g2 _ #[.int .i64 0, .string ⟨#[]⟩, .int .u64 0, .string ⟨#[]⟩, .int .u64 0, .int .i64 0, .int .u64 0, .int .u64 0, .int .i64 0] (0, 0) _ rfl (blk_put (cs' := #[.int .i64 0, .string ⟨#[]⟩, .int .u64 0, .string ⟨#[]⟩, .int .u64 0, .int .i64 0, .int .u64 0, .int .u64 0, .int .i64 0]) (blk_put (cs' := #[.int .i64 0, .string ⟨#[]⟩, .int .u64 0, .string ⟨#[]⟩, .int .u64 0, .int .i64 0, .int .u64 0, .int .u64 0, .int .i64 0]) (blk_put (cs' := #[.int .i64 0, .string ⟨#[]⟩, .int .u64 0, .string ⟨#[]⟩, .int .u64 0, .int .i64 0, .int .u64 0, .int .u64 0, .int .i64 0]) (blk_put (cs' := #[.int .i64 0, .string ⟨#[]⟩, .int .u64 0, .string ⟨#[]⟩, .int .u64 0, .int .i64 0, .int .u64 0, .int .u64 0, .int .i64 0]) (blk_put (cs' := #[.int .i64 0, .string ⟨#[]⟩, .int .u64 0, .string ⟨#[]⟩, .int .u64 0, .int .i64 0, .int .u64 0, .int .u64 0, .int .i64 0]) (blk_put (cs' := #[.int .i64 0, .string ⟨#[]⟩, .int .u64 0, .string ⟨#[]⟩, .int .u64 0, .int .i64 0, .int .u64 0, .int .u64 0, .int .i64 0]) (blk_put (cs' := #[.int .i64 0, .string ⟨#[]⟩, .int .u64 0, .string ⟨#[]⟩, .int .u64 0, .int .i64 0, .int .u64 0, .int .u64 0, .int .i64 0]) (blk_put (cs' := #[.int .i64 0, .string ⟨#[]⟩, .int .u64 0, .string ⟨#[]⟩, .int .u64 0, .int .i64 0, .int .u64 0, .int .u64 0, .int .i64 0]) (blk_put (cs' := #[.int .i64 0, .string ⟨#[]⟩, .int .u64 0, .string ⟨#[]⟩, .int .u64 0, .int .i64 0, .int .u64 0, .int .u64 0, .int .i64 0]) BZ.out 0 _ rfl) 1 _ rfl) 2 _ rfl) 3 _ rfl) 4 _ rfl) 5 _ rfl) 6 _ rfl) 7 _ rfl) 8 _ rfl) hu44 rfl r6_) rfl ⟨rfl, (((((((((HB.out.setCell (p := ⟨g2, 0, none⟩) HG.out.2.1 _).setCell (p := ⟨g2, 1, none⟩) HG.out.2.1 _).setCell (p := ⟨g2, 2, none⟩) HG.out.2.1 _).setCell (p := ⟨g2, 3, none⟩) HG.out.2.1 _).setCell (p := ⟨g2, 4, none⟩) HG.out.2.1 _).setCell (p := ⟨g2, 5, none⟩) HG.out.2.1 _).setCell (p := ⟨g2, 6, none⟩) HG.out.2.1 _).setCell (p := ⟨g2, 7, none⟩) HG.out.2.1 _).setCell (p := ⟨g2, 8, none⟩) HG.out.2.1 _)⟩
  subst he
  rw [if_neg r34_] at h
  obtain rfl := Option.some.inj h
  have t0_ : w8.cell? ⟨g5, 0, none⟩ = some (.int .i64 1) := (blk_cell B5.out 0).trans rfl
  have t1_ : w8.cell? ⟨g5, 1, none⟩ = some (.string p2) := (blk_cell B5.out 1).trans rfl
  have t2_ : w8.cell? ⟨g5, 2, none⟩ = some (.int .u64 p3) := (blk_cell B5.out 2).trans rfl
  have t3_ : w8.cell? ⟨g5, 3, none⟩ = some (.string l1) := (blk_cell B5.out 3).trans rfl
  have t4_ : w8.cell? ⟨g5, 4, none⟩ = some (.int .u64 l2) := (blk_cell B5.out 4).trans rfl
  have t5_ : w8.cell? ⟨g5, 5, none⟩ = some (.int .i64 l3) := (blk_cell B5.out 5).trans rfl
  have t6_ : w8.cell? ⟨g5, 6, none⟩ = some (.int .u64 l4) := (blk_cell B5.out 6).trans rfl
  have t7_ : w8.cell? ⟨g5, 7, none⟩ = some (.int .u64 0) := (blk_cell B5.out 7).trans rfl
  have t8_ : w8.cell? ⟨g5, 8, none⟩ = some (.int .i64 0) := (blk_cell B5.out 8).trans rfl
  go_wp2
  exact bodyPost_ret (screeref17_Read.results_c rfl _ _ g2 _ #[.int .i64 1, .string p2, .int .u64 p3, .string l1, .int .u64 l2, .int .i64 l3, .int .u64 l4, .int .u64 0, .int .i64 0] (0, 0) _ rfl (blk_put (cs' := #[.int .i64 1, .string p2, .int .u64 p3, .string l1, .int .u64 l2, .int .i64 l3, .int .u64 l4, .int .u64 0, .int .i64 0]) (blk_put (cs' := #[.int .i64 1, .string p2, .int .u64 p3, .string l1, .int .u64 l2, .int .i64 l3, .int .u64 l4, .int .u64 0, .int .i64 0]) (blk_put (cs' := #[.int .i64 1, .string p2, .int .u64 p3, .string l1, .int .u64 l2, .int .i64 l3, .int .u64 l4, .int .u64 0, .int .i64 0]) (blk_put (cs' := #[.int .i64 1, .string p2, .int .u64 p3, .string l1, .int .u64 l2, .int .i64 l3, .int .u64 0, .int .u64 0, .int .i64 0]) (blk_put (cs' := #[.int .i64 1, .string p2, .int .u64 p3, .string l1, .int .u64 l2, .int .i64 0, .int .u64 0, .int .u64 0, .int .i64 0]) (blk_put (cs' := #[.int .i64 1, .string p2, .int .u64 p3, .string l1, .int .u64 0, .int .i64 0, .int .u64 0, .int .u64 0, .int .i64 0]) (blk_put (cs' := #[.int .i64 1, .string p2, .int .u64 p3, .string ⟨#[]⟩, .int .u64 0, .int .i64 0, .int .u64 0, .int .u64 0, .int .i64 0]) (blk_put (cs' := #[.int .i64 1, .string p2, .int .u64 0, .string ⟨#[]⟩, .int .u64 0, .int .i64 0, .int .u64 0, .int .u64 0, .int .i64 0]) (blk_put (cs' := #[.int .i64 1, .string ⟨#[]⟩, .int .u64 0, .string ⟨#[]⟩, .int .u64 0, .int .i64 0, .int .u64 0, .int .u64 0, .int .i64 0]) BZ.out 0 _ rfl) 1 _ rfl) 2 _ rfl) 3 _ rfl) 4 _ rfl) 5 _ rfl) 6 _ rfl) 7 _ rfl) 8 _ rfl) hu44 rfl r6_) rfl ⟨rfl, (((((((((HB.out.setCell (p := ⟨g2, 0, none⟩) HG.out.2.1 _).setCell (p := ⟨g2, 1, none⟩) HG.out.2.1 _).setCell (p := ⟨g2, 2, none⟩) HG.out.2.1 _).setCell (p := ⟨g2, 3, none⟩) HG.out.2.1 _).setCell (p := ⟨g2, 4, none⟩) HG.out.2.1 _).setCell (p := ⟨g2, 5, none⟩) HG.out.2.1 _).setCell (p := ⟨g2, 6, none⟩) HG.out.2.1 _).setCell (p := ⟨g2, 7, none⟩) HG.out.2.1 _).setCell (p := ⟨g2, 8, none⟩) HG.out.2.1 _)⟩
 by_cases hc2 : p1 = 2
 ·subst hc2
  rw [if_neg (show ¬ ((2 : Int) = 1) by decide)] at h
  rw [if_pos rfl] at h
  replace h := Option.bind_eq_some_iff.mp h
  obtain ⟨⟨l1, l2, l3⟩, hL, h⟩ := h
  have HL := Lib.hid hL
  clear hL
  have x0_ : w6.cell? ⟨g1, 0, none⟩ = some (.string a0) := (blk_cell BX.out 0).trans rfl
  have x1_ : w6.cell? ⟨g1, 1, none⟩ = some (.int .u64 a1) := (blk_cell BX.out 1).trans rfl
  have x2_ : w6.cell? ⟨g1, 2, none⟩ = some (.bool a2) := (blk_cell BX.out 2).trans rfl
  have x3_ : w6.cell? ⟨g1, 3, none⟩ = some (.string a3) := (blk_cell BX.out 3).trans rfl
  go_wp2_with (fail)
  refine (screeref15_Unwrite.calls k a3 l1 l2 l3 _ HL.out).mono ?_
  rintro e w7 ⟨rfl, hb⟩
  replace BX := Aside0.mk (blk_below BX.out hb)
  replace BZ := Aside0.mk (blk_below BZ.out hb)
  replace B3 := Aside0.mk (blk_below B3.out hb)
  replace B5 := Aside0.mk (blk_below B5.out hb)
  replace HB := Aside0.mk (below_step HB.out hb)
  clear hb HL y0_ x0_ x1_ x2_ x3_
  have s7_ : w7.cell? ⟨g5, 7, none⟩ = some (.int .u64 0) := (blk_cell B5.out 7).trans rfl
  have s8_ : w7.cell? ⟨g5, 8, none⟩ = some (.int .i64 0) := (blk_cell B5.out 8).trans rfl
  have fs7_ := blk_frozen B5.out 7
  have fs8_ := blk_frozen B5.out 8
  go_upto_region 9 with (fail)
  clear s7_ fs7_ s8_ fs8_
  replace BZ := Aside0.mk (blk_far (p := ⟨g5, 8, none⟩) (blk_far (p := ⟨g5, 7, none⟩) BZ.out HG6.out.2.2.1 (.int .u64 l1)) HG6.out.2.2.1 (.int .i64 l2))
  replace HB := Aside0.mk ((HB.out.setCell (p := ⟨g5, 7, none⟩) HG6.out.1 (.int .u64 l1)).setCell (p := ⟨g5, 8, none⟩) HG6.out.1 (.int .i64 l2))
  replace B5 := Aside0.mk (blk_put (cs' := #[.int .i64 2, .string p2, .int .u64 p3, .string ⟨#[]⟩, .int .u64 0, .int .i64 0, .int .u64 0, .int .u64 l1, .int .i64 l2]) (blk_put (cs' := #[.int .i64 2, .string p2, .int .u64 p3, .string ⟨#[]⟩, .int .u64 0, .int .i64 0, .int .u64 0, .int .u64 l1, .int .i64 0]) B5.out 7 (.int .u64 l1) rfl) 8 (.int .i64 l2) rfl)
  clear BX B3
  generalize ((w7.setCell ⟨g5, 7, none⟩ (.int .u64 l1)).setCell ⟨g5, 8, none⟩ (.int .i64 l2)) = w8 at BZ B5 HB ⊢
  have z0_ : w8.cell? ⟨g2, 0, none⟩ = some (.int .i64 0) := (blk_cell BZ.out 0).trans rfl
  have z1_ : w8.cell? ⟨g2, 1, none⟩ = some (.string ⟨#[]⟩) := (blk_cell BZ.out 1).trans rfl
  have z2_ : w8.cell? ⟨g2, 2, none⟩ = some (.int .u64 0) := (blk_cell BZ.out 2).trans rfl
  have z3_ : w8.cell? ⟨g2, 3, none⟩ = some (.string ⟨#[]⟩) := (blk_cell BZ.out 3).trans rfl
  have z4_ : w8.cell? ⟨g2, 4, none⟩ = some (.int .u64 0) := (blk_cell BZ.out 4).trans rfl
  have z5_ : w8.cell? ⟨g2, 5, none⟩ = some (.int .i64 0) := (blk_cell BZ.out 5).trans rfl
  have z6_ : w8.cell? ⟨g2, 6, none⟩ = some (.int .u64 0) := (blk_cell BZ.out 6).trans rfl
  have z7_ : w8.cell? ⟨g2, 7, none⟩ = some (.int .u64 0) := (blk_cell BZ.out 7).trans rfl
  have z8_ : w8.cell? ⟨g2, 8, none⟩ = some (.int .i64 0) := (blk_cell BZ.out 8).trans rfl
  have fz0_ := blk_frozen BZ.out 0
  have fz1_ := blk_frozen BZ.out 1
  have fz2_ := blk_frozen BZ.out 2
  have fz3_ := blk_frozen BZ.out 3
  have fz4_ := blk_frozen BZ.out 4
  have fz5_ := blk_frozen BZ.out 5
  have fz6_ := blk_frozen BZ.out 6
  have fz7_ := blk_frozen BZ.out 7
  have fz8_ := blk_frozen BZ.out 8
  by_cases he : l3 = 0
  case neg =>
   have d3 : (l3 == 0) = false := beq_eq_false_iff_ne.mpr he
   have d5 : (l3 != 0) = true := bne_iff_ne.mpr he
   rw [if_pos he] at h
   obtain rfl := Option.some.inj h
   go_wp2
   exact bodyPost_ret (screeref17_Read.results_c rfl _ _ g2 _ #[.int .i64 0, .string ⟨#[]⟩, .int .u64 0, .string ⟨#[]⟩, .int .u64 0, .int .i64 0, .int .u64 0, .int .u64 0, .int .i64 0] (0, 0) _ rfl (blk_put (cs' := #[.int .i64 0, .string ⟨#[]⟩, .int .u64 0, .string ⟨#[]⟩, .int .u64 0, .int .i64 0, .int .u64 0, .int .u64 0, .int .i64 0]) (blk_put (cs' := #[.int .i64 0, .string ⟨#[]⟩, .int .u64 0, .string ⟨#[]⟩, .int .u64 0, .int .i64 0, .int .u64 0, .int .u64 0, .int .i64 0]) (blk_put (cs' := #[.int .i64 0, .string ⟨#[]⟩, .int .u64 0, .string ⟨#[]⟩, .int .u64 0, .int .i64 0, .int .u64 0, .int .u64 0, .int .i64 0]) (blk_put (cs' := #[.int .i64 0, .string ⟨#[]⟩, .int .u64 0, .string ⟨#[]⟩, .int .u64 0, .int .i64 0, .int .u64 0, .int .u64 0, .int .i64 0]) (blk_put (cs' := #[.int .i64 0, .string ⟨#[]⟩, .int .u64 0, .string ⟨#[]⟩, .int .u64 0, .int .i64 0, .int .u64 0, .int .u64 0, .int .i64 0]) (blk_put (cs' := #[.int .i64 0, .string ⟨#[]⟩, .int .u64 0, .string ⟨#[]⟩, .int .u64 0, .int .i64 0, .int .u64 0, .int .u64 0, .int .i64 0]) (blk_put (cs' := #[.int .i64 0, .string ⟨#[]⟩, .int .u64 0, .string ⟨#[]⟩, .int .u64 0, .int .i64 0, .int .u64 0, .int .u64 0, .int .i64 0]) (blk_put (cs' := #[.int .i64 0, .string ⟨#[]⟩, .int .u64 0, .string ⟨#[]⟩, .int .u64 0, .int .i64 0, .int .u64 0, .int .u64 0, .int .i64 0]) (blk_put (cs' := #[.int .i64 0, .string ⟨#[]⟩, .int .u64 0, .string ⟨#[]⟩, .int .u64 0, .int .i64 0, .int .u64 0, .int .u64 0, .int .i64 0]) BZ.out 0 _ rfl) 1 _ rfl) 2 _ rfl) 3 _ rfl) 4 _ rfl) 5 _ rfl) 6 _ rfl) 7 _ rfl) 8 _ rfl) hu44 rfl r6_) rfl ⟨rfl, (((((((((HB.out.setCell (p := ⟨g2, 0, none⟩) HG.out.2.1 _).setCell (p := ⟨g2, 1, none⟩) HG.out.2.1 _).setCell (p := ⟨g2, 2, none⟩) HG.out.2.1 _).setCell (p := ⟨g2, 3, none⟩) HG.out.2.1 _).setCell (p := ⟨g2, 4, none⟩) HG.out.2.1 _).setCell (p := ⟨g2, 5, none⟩) HG.out.2.1 _).setCell (p := ⟨g2, 6, none⟩) HG.out.2.1 _).setCell (p := ⟨g2, 7, none⟩) HG.out.2.1 _).setCell (p := ⟨g2, 8, none⟩) HG.out.2.1 _)⟩
  subst he
  rw [if_neg r34_] at h
  obtain rfl := Option.some.inj h
  have t0_ : w8.cell? ⟨g5, 0, none⟩ = some (.int .i64 2) := (blk_cell B5.out 0).trans rfl
  have t1_ : w8.cell? ⟨g5, 1, none⟩ = some (.string p2) := (blk_cell B5.out 1).trans rfl
  have t2_ : w8.cell? ⟨g5, 2, none⟩ = some (.int .u64 p3) := (blk_cell B5.out 2).trans rfl
  have t3_ : w8.cell? ⟨g5, 3, none⟩ = some (.string ⟨#[]⟩) := (blk_cell B5.out 3).trans rfl
  have t4_ : w8.cell? ⟨g5, 4, none⟩ = some (.int .u64 0) := (blk_cell B5.out 4).trans rfl
  have t5_ : w8.cell? ⟨g5, 5, none⟩ = some (.int .i64 0) := (blk_cell B5.out 5).trans rfl
  have t6_ : w8.cell? ⟨g5, 6, none⟩ = some (.int .u64 0) := (blk_cell B5.out 6).trans rfl
  have t7_ : w8.cell? ⟨g5, 7, none⟩ = some (.int .u64 l1) := (blk_cell B5.out 7).trans rfl
  have t8_ : w8.cell? ⟨g5, 8, none⟩ = some (.int .i64 l2) := (blk_cell B5.out 8).trans rfl
  go_wp2
  exact bodyPost_ret (screeref17_Read.results_c rfl _ _ g2 _ #[.int .i64 2, .string p2, .int .u64 p3, .string ⟨#[]⟩, .int .u64 0, .int .i64 0, .int .u64 0, .int .u64 l1, .int .i64 l2] (0, 0) _ rfl (blk_put (cs' := #[.int .i64 2, .string p2, .int .u64 p3, .string ⟨#[]⟩, .int .u64 0, .int .i64 0, .int .u64 0, .int .u64 l1, .int .i64 l2]) (blk_put (cs' := #[.int .i64 2, .string p2, .int .u64 p3, .string ⟨#[]⟩, .int .u64 0, .int .i64 0, .int .u64 0, .int .u64 l1, .int .i64 0]) (blk_put (cs' := #[.int .i64 2, .string p2, .int .u64 p3, .string ⟨#[]⟩, .int .u64 0, .int .i64 0, .int .u64 0, .int .u64 0, .int .i64 0]) (blk_put (cs' := #[.int .i64 2, .string p2, .int .u64 p3, .string ⟨#[]⟩, .int .u64 0, .int .i64 0, .int .u64 0, .int .u64 0, .int .i64 0]) (blk_put (cs' := #[.int .i64 2, .string p2, .int .u64 p3, .string ⟨#[]⟩, .int .u64 0, .int .i64 0, .int .u64 0, .int .u64 0, .int .i64 0]) (blk_put (cs' := #[.int .i64 2, .string p2, .int .u64 p3, .string ⟨#[]⟩, .int .u64 0, .int .i64 0, .int .u64 0, .int .u64 0, .int .i64 0]) (blk_put (cs' := #[.int .i64 2, .string p2, .int .u64 p3, .string ⟨#[]⟩, .int .u64 0, .int .i64 0, .int .u64 0, .int .u64 0, .int .i64 0]) (blk_put (cs' := #[.int .i64 2, .string p2, .int .u64 0, .string ⟨#[]⟩, .int .u64 0, .int .i64 0, .int .u64 0, .int .u64 0, .int .i64 0]) (blk_put (cs' := #[.int .i64 2, .string ⟨#[]⟩, .int .u64 0, .string ⟨#[]⟩, .int .u64 0, .int .i64 0, .int .u64 0, .int .u64 0, .int .i64 0]) BZ.out 0 _ rfl) 1 _ rfl) 2 _ rfl) 3 _ rfl) 4 _ rfl) 5 _ rfl) 6 _ rfl) 7 _ rfl) 8 _ rfl) hu44 rfl r6_) rfl ⟨rfl, (((((((((HB.out.setCell (p := ⟨g2, 0, none⟩) HG.out.2.1 _).setCell (p := ⟨g2, 1, none⟩) HG.out.2.1 _).setCell (p := ⟨g2, 2, none⟩) HG.out.2.1 _).setCell (p := ⟨g2, 3, none⟩) HG.out.2.1 _).setCell (p := ⟨g2, 4, none⟩) HG.out.2.1 _).setCell (p := ⟨g2, 5, none⟩) HG.out.2.1 _).setCell (p := ⟨g2, 6, none⟩) HG.out.2.1 _).setCell (p := ⟨g2, 7, none⟩) HG.out.2.1 _).setCell (p := ⟨g2, 8, none⟩) HG.out.2.1 _)⟩
 have e1_ : (p1 == 1) = false := beq_eq_false_iff_ne.mpr hc1
 have e2_ : (p1 == 2) = false := beq_eq_false_iff_ne.mpr hc2
 rw [if_neg hc1, if_neg hc2] at h
 obtain rfl := Option.some.inj h
 have z0_ : w6.cell? ⟨g2, 0, none⟩ = some (.int .i64 0) := (blk_cell BZ.out 0).trans rfl
 have z1_ : w6.cell? ⟨g2, 1, none⟩ = some (.string ⟨#[]⟩) := (blk_cell BZ.out 1).trans rfl
 have z2_ : w6.cell? ⟨g2, 2, none⟩ = some (.int .u64 0) := (blk_cell BZ.out 2).trans rfl
 have z3_ : w6.cell? ⟨g2, 3, none⟩ = some (.string ⟨#[]⟩) := (blk_cell BZ.out 3).trans rfl
 have z4_ : w6.cell? ⟨g2, 4, none⟩ = some (.int .u64 0) := (blk_cell BZ.out 4).trans rfl
 have z5_ : w6.cell? ⟨g2, 5, none⟩ = some (.int .i64 0) := (blk_cell BZ.out 5).trans rfl
 have z6_ : w6.cell? ⟨g2, 6, none⟩ = some (.int .u64 0) := (blk_cell BZ.out 6).trans rfl
 have z7_ : w6.cell? ⟨g2, 7, none⟩ = some (.int .u64 0) := (blk_cell BZ.out 7).trans rfl
 have z8_ : w6.cell? ⟨g2, 8, none⟩ = some (.int .i64 0) := (blk_cell BZ.out 8).trans rfl
 have fz0_ := blk_frozen BZ.out 0
 have fz1_ := blk_frozen BZ.out 1
 have fz2_ := blk_frozen BZ.out 2
 have fz3_ := blk_frozen BZ.out 3
 have fz4_ := blk_frozen BZ.out 4
 have fz5_ := blk_frozen BZ.out 5
 have fz6_ := blk_frozen BZ.out 6
 have fz7_ := blk_frozen BZ.out 7
 have fz8_ := blk_frozen BZ.out 8
 have t0_ : w6.cell? ⟨g5, 0, none⟩ = some (.int .i64 p1) := (blk_cell B5.out 0).trans rfl
 have t1_ : w6.cell? ⟨g5, 1, none⟩ = some (.string p2) := (blk_cell B5.out 1).trans rfl
 have t2_ : w6.cell? ⟨g5, 2, none⟩ = some (.int .u64 p3) := (blk_cell B5.out 2).trans rfl
 have t3_ : w6.cell? ⟨g5, 3, none⟩ = some (.string ⟨#[]⟩) := (blk_cell B5.out 3).trans rfl
 have t4_ : w6.cell? ⟨g5, 4, none⟩ = some (.int .u64 0) := (blk_cell B5.out 4).trans rfl
 have t5_ : w6.cell? ⟨g5, 5, none⟩ = some (.int .i64 0) := (blk_cell B5.out 5).trans rfl
 have t6_ : w6.cell? ⟨g5, 6, none⟩ = some (.int .u64 0) := (blk_cell B5.out 6).trans rfl
 have t7_ : w6.cell? ⟨g5, 7, none⟩ = some (.int .u64 0) := (blk_cell B5.out 7).trans rfl
 have t8_ : w6.cell? ⟨g5, 8, none⟩ = some (.int .i64 0) := (blk_cell B5.out 8).trans rfl
 go_wp2
 exact bodyPost_ret (screeref17_Read.results_c rfl _ _ g2 _ #[.int .i64 p1, .string p2, .int .u64 p3, .string ⟨#[]⟩, .int .u64 0, .int .i64 0, .int .u64 0, .int .u64 0, .int .i64 0] (0, 0) _ rfl (blk_put (cs' := #[.int .i64 p1, .string p2, .int .u64 p3, .string ⟨#[]⟩, .int .u64 0, .int .i64 0, .int .u64 0, .int .u64 0, .int .i64 0]) (blk_put (cs' := #[.int .i64 p1, .string p2, .int .u64 p3, .string ⟨#[]⟩, .int .u64 0, .int .i64 0, .int .u64 0, .int .u64 0, .int .i64 0]) (blk_put (cs' := #[.int .i64 p1, .string p2, .int .u64 p3, .string ⟨#[]⟩, .int .u64 0, .int .i64 0, .int .u64 0, .int .u64 0, .int .i64 0]) (blk_put (cs' := #[.int .i64 p1, .string p2, .int .u64 p3, .string ⟨#[]⟩, .int .u64 0, .int .i64 0, .int .u64 0, .int .u64 0, .int .i64 0]) (blk_put (cs' := #[.int .i64 p1, .string p2, .int .u64 p3, .string ⟨#[]⟩, .int .u64 0, .int .i64 0, .int .u64 0, .int .u64 0, .int .i64 0]) (blk_put (cs' := #[.int .i64 p1, .string p2, .int .u64 p3, .string ⟨#[]⟩, .int .u64 0, .int .i64 0, .int .u64 0, .int .u64 0, .int .i64 0]) (blk_put (cs' := #[.int .i64 p1, .string p2, .int .u64 p3, .string ⟨#[]⟩, .int .u64 0, .int .i64 0, .int .u64 0, .int .u64 0, .int .i64 0]) (blk_put (cs' := #[.int .i64 p1, .string p2, .int .u64 0, .string ⟨#[]⟩, .int .u64 0, .int .i64 0, .int .u64 0, .int .u64 0, .int .i64 0]) (blk_put (cs' := #[.int .i64 p1, .string ⟨#[]⟩, .int .u64 0, .string ⟨#[]⟩, .int .u64 0, .int .i64 0, .int .u64 0, .int .u64 0, .int .i64 0]) BZ.out 0 _ rfl) 1 _ rfl) 2 _ rfl) 3 _ rfl) 4 _ rfl) 5 _ rfl) 6 _ rfl) 7 _ rfl) 8 _ rfl) hu44 rfl r6_) rfl ⟨rfl, (((((((((HB.out.setCell (p := ⟨g2, 0, none⟩) HG.out.2.1 _).setCell (p := ⟨g2, 1, none⟩) HG.out.2.1 _).setCell (p := ⟨g2, 2, none⟩) HG.out.2.1 _).setCell (p := ⟨g2, 3, none⟩) HG.out.2.1 _).setCell (p := ⟨g2, 4, none⟩) HG.out.2.1 _).setCell (p := ⟨g2, 5, none⟩) HG.out.2.1 _).setCell (p := ⟨g2, 6, none⟩) HG.out.2.1 _).setCell (p := ⟨g2, 7, none⟩) HG.out.2.1 _).setCell (p := ⟨g2, 8, none⟩) HG.out.2.1 _)⟩
def screeref17_Read.f (k : Nat) (a0 : ByteArray) (a1 : Int) (a2 : Bool) (a3 : ByteArray) : Option (Int × ByteArray × Int × ByteArray × Int × Int × Int × Int × Int) := (screeref17_Read.f1 k a0 a3).bind fun r => some (r.cf, r.us, r.tm, r.lp, r.ls, r.lk, r.la, r.ws, r.wk)
theorem screeref17_Read.mono : ∀ a0 a1 a2 a3 k, LeO (screeref17_Read.f k a0 a1 a2 a3) (screeref17_Read.f (k + 1) a0 a1 a2 a3) := fun _ _ _ _ _ => LeO.bind (screeref17_Read.mono1 _ _ _) (fun _ => LeO.refl _)
theorem screeref17_Read.calls (k : Nat) (a0 : ByteArray) (a1 : Int) (a2 : Bool) (a3 : ByteArray) (r1 : Int) (r2 : ByteArray) (r3 : Int) (r4 : ByteArray) (r5 r6 r7 r8 r9 : Int) (w : World) (h : screeref17_Read.f k a0 a1 a2 a3 = some (r1, r2, r3, r4, r5, r6, r7, r8, r9)) :
  Calls Try.prog 21 #[.agg #[.string a0, .int .u64 a1, .bool a2, .string a3]] w fun e w' => e = .returned (.agg #[.int .i64 r1, .string r2, .int .u64 r3, .string r4, .int .u64 r5, .int .i64 r6, .int .u64 r7, .int .u64 r8, .int .i64 r9]) ∧ Below w.heap.size w w' := by
 replace h := Option.bind_eq_some_iff.mp h
 obtain ⟨r, h1, h⟩ := h
 simp only [Option.some.injEq, Prod.mk.injEq] at h
 obtain ⟨rfl, rfl, rfl, rfl, rfl, rfl, rfl, rfl, rfl⟩ := h
 exact screeref17_Read.calls1 k a0 a1 a2 a3 r w h1

end Go.Proofs.Ytcdadhgcjkgnoaa.P
