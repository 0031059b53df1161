-- Printed by a program of this session's own (wip/tools/pprint.sh, over the kit's print, with given contracts): not typed by hand.
import Derived.Test.YtcdadhgcjkgnoaaPx0
import Derived.Test.YtcdadhgcjkgnoaaPx4
import Derived.Test.YtcdadhgcjkgnoaaPx5
namespace Go.Proofs.Ytcdadhgcjkgnoaa.P
open Go.RowKit Go.Proofs.YtcdadhgcjkgnoaaW.PrintWords Go.Proofs.YtcdadhgcjkgnoaaW.PrintLast Go.Proofs.YtcdadhgcjkgnoaaW.PrintMore
set_option linter.unusedVariables false
set_option linter.unusedSimpArgs false
-- SQUEEZED3

/-! ### api_Lock: function 56 -/
theorem api_Lock.fin (tmps : Array Value) (W : World) (g : Nat) (c0 c1 c2 c3 : Value) (hp : tmps.getD 6 undef = .pointer (some ⟨g, 0, none⟩)) (hg : W.heap[g]? = some (.cells #[c0, c1, c2, c3] 40 (0, 0))) : (results Try.f56 tmps).run Try.prog W = .ok (.tuple #[.agg #[c0, c1, c2, c3], tmps.getD 7 undef]) W :=
 results_ct rfl tmps W g _ #[c0, c1, c2, c3] (0, 0) _ hp hg Try.underlying40 rfl r6_
set_option maxHeartbeats 1600000 in
set_option maxRecDepth 100000 in
theorem api_Lock.good (k : Nat) (p : ByteArray) (st kd at_ : Int) (s is : ByteArray) (w : World) (h : col_Lock.f k p st kd at_ = some (is, 0)) (hs : is.toList = s.toList) :
  Calls Try.prog 56 #[.agg #[.string p, .int .u64 st, .int .i64 kd, .int .u64 at_], .string s, .func (.func 57) #[] #[]] w fun e' w' => e' = .returned (.tuple #[.agg #[.string p, .int .u64 st, .int .i64 kd, .int .u64 at_], .int .i64 0]) ∧ Below w.heap.size w w' := by
 have hu24 := Try.underlying40
 have hfin := api_Lock.fin
 have HC := Lib.hid h
 have s1_ : (is.toList == s.toList) = true := beq_iff_eq.mpr hs
 have s2_ : (is.toList != s.toList) = false := bne_eq_false_iff_eq.mpr hs
 clear h hs
 go_enter Try.func56, Try.ntmps56
 go_wp2_with (fail)
 have BL : Aside0 (((w.alloc (.cells #[.string p, .int .u64 st, .int .i64 kd, .int .u64 at_] 40)).alloc (.cells #[.string ⟨#[]⟩, .int .u64 0, .int .i64 0, .int .u64 0] 40)).heap[w.heap.size]? = some (.cells #[.string p, .int .u64 st, .int .i64 kd, .int .u64 at_] 40 (0, 0))) := ⟨blk_alloc (blk_new _ _) _⟩
 have hR : ((w.alloc (.cells #[.string p, .int .u64 st, .int .i64 kd, .int .u64 at_] 40)).alloc (.cells #[.string ⟨#[]⟩, .int .u64 0, .int .i64 0, .int .u64 0] 40)).heap[w.heap.size + 1]? = some (.cells #[.string ⟨#[]⟩, .int .u64 0, .int .i64 0, .int .u64 0] 40 (0, 0)) := by
  have := blk_new (w.alloc (.cells #[.string p, .int .u64 st, .int .i64 kd, .int .u64 at_] 40)) (.cells #[.string ⟨#[]⟩, .int .u64 0, .int .i64 0, .int .u64 0] 40)
  rwa [World.size_alloc] at this
 have BR := Aside0.mk hR
 clear hR
 have HB : Aside0 (Below w.heap.size w ((w.alloc (.cells #[.string p, .int .u64 st, .int .i64 kd, .int .u64 at_] 40)).alloc (.cells #[.string ⟨#[]⟩, .int .u64 0, .int .i64 0, .int .u64 0] 40))) := ⟨below_alloc (below_alloc (Below.refl _ _) _) _⟩
 generalize ((w.alloc (.cells #[.string p, .int .u64 st, .int .i64 kd, .int .u64 at_] 40)).alloc (.cells #[.string ⟨#[]⟩, .int .u64 0, .int .i64 0, .int .u64 0] 40)) = w1 at BL BR HB ⊢
 obtain ⟨g2, hg2⟩ : ∃ g, w.heap.size + 1 = g := ⟨_, rfl⟩
 have HG : Hid (w.heap.size ≤ g2) := Lib.hid r37_
 rw [hg2] at BR ⊢
 clear hg2
 refine (col_Lock.calls k p st kd at_ is 0 w1 HC.out).mono ?_
 rintro e w2 ⟨rfl, hb⟩
 have BL2 := Aside0.mk (blk_below BL.out hb)
 have BR2 := Aside0.mk (blk_below BR.out hb)
 have HB2 := Aside0.mk (below_step HB.out hb)
 clear hb BL BR HB
 have l0_ : w2.cell? ⟨w.heap.size, 0, none⟩ = some (.string p) := (blk_cell BL2.out 0).trans rfl
 have l1_ : w2.cell? ⟨w.heap.size, 1, none⟩ = some (.int .u64 st) := (blk_cell BL2.out 1).trans rfl
 have l2_ : w2.cell? ⟨w.heap.size, 2, none⟩ = some (.int .i64 kd) := (blk_cell BL2.out 2).trans rfl
 have l3_ : w2.cell? ⟨w.heap.size, 3, none⟩ = some (.int .u64 at_) := (blk_cell BL2.out 3).trans rfl
 have r0_ : w2.cell? ⟨g2, 0, none⟩ = some (.string ⟨#[]⟩) := (blk_cell BR2.out 0).trans rfl
 have r1_ : w2.cell? ⟨g2, 1, none⟩ = some (.int .u64 0) := (blk_cell BR2.out 1).trans rfl
 have r2_ : w2.cell? ⟨g2, 2, none⟩ = some (.int .i64 0) := (blk_cell BR2.out 2).trans rfl
 have r3_ : w2.cell? ⟨g2, 3, none⟩ = some (.int .u64 0) := (blk_cell BR2.out 3).trans rfl
 have p0_ := blk_frozen BR2.out 0
 have p1_ := blk_frozen BR2.out 1
 have p2_ := blk_frozen BR2.out 2
 have p3_ := blk_frozen BR2.out 3
 go_wp2
 exact bodyPost_ret (hfin _ _ g2 _ _ _ _ rfl (blk_put (cs' := #[.string p, .int .u64 st, .int .i64 kd, .int .u64 at_]) (blk_put (cs' := #[.string p, .int .u64 st, .int .i64 kd, .int .u64 0]) (blk_put (cs' := #[.string p, .int .u64 st, .int .i64 0, .int .u64 0]) (blk_put (cs' := #[.string p, .int .u64 0, .int .i64 0, .int .u64 0]) BR2.out 0 _ rfl) 1 _ rfl) 2 _ rfl) 3 _ rfl)) rfl ⟨rfl, (((HB2.out.setCell (p := ⟨g2, 0, none⟩) HG.out _).setCell (p := ⟨g2, 1, none⟩) HG.out _).setCell (p := ⟨g2, 2, none⟩) HG.out _).setCell (p := ⟨g2, 3, none⟩) HG.out _⟩

set_option maxHeartbeats 1600000 in
set_option maxRecDepth 100000 in
theorem api_Lock.bad (k : Nat) (p : ByteArray) (st kd at_ : Int) (s is : ByteArray) (ee : Int) (w : World) (h : col_Lock.f k p st kd at_ = some (is, ee)) (hs : ee ≠ 0 ∨ is.toList ≠ s.toList) :
  Calls Try.prog 56 #[.agg #[.string p, .int .u64 st, .int .i64 kd, .int .u64 at_], .string s, .func (.func 57) #[] #[]] w fun e' w' => e' = .returned (.tuple #[.agg #[.string ⟨#[]⟩, .int .u64 0, .int .i64 0, .int .u64 0], .int .i64 2]) ∧ Below w.heap.size w w' := by
 have hu24 := Try.underlying40
 have hfin := api_Lock.fin
 have HC := Lib.hid h
 have HS := Lib.hid hs
 clear h hs
 go_enter Try.func56, Try.ntmps56
 go_wp2_with (fail)
 have BL : Aside0 (((w.alloc (.cells #[.string p, .int .u64 st, .int .i64 kd, .int .u64 at_] 40)).alloc (.cells #[.string ⟨#[]⟩, .int .u64 0, .int .i64 0, .int .u64 0] 40)).heap[w.heap.size]? = some (.cells #[.string p, .int .u64 st, .int .i64 kd, .int .u64 at_] 40 (0, 0))) := ⟨blk_alloc (blk_new _ _) _⟩
 have hR : ((w.alloc (.cells #[.string p, .int .u64 st, .int .i64 kd, .int .u64 at_] 40)).alloc (.cells #[.string ⟨#[]⟩, .int .u64 0, .int .i64 0, .int .u64 0] 40)).heap[w.heap.size + 1]? = some (.cells #[.string ⟨#[]⟩, .int .u64 0, .int .i64 0, .int .u64 0] 40 (0, 0)) := by
  have := blk_new (w.alloc (.cells #[.string p, .int .u64 st, .int .i64 kd, .int .u64 at_] 40)) (.cells #[.string ⟨#[]⟩, .int .u64 0, .int .i64 0, .int .u64 0] 40)
  rwa [World.size_alloc] at this
 have BR := Aside0.mk hR
 clear hR
 have HB : Aside0 (Below w.heap.size w ((w.alloc (.cells #[.string p, .int .u64 st, .int .i64 kd, .int .u64 at_] 40)).alloc (.cells #[.string ⟨#[]⟩, .int .u64 0, .int .i64 0, .int .u64 0] 40))) := ⟨below_alloc (below_alloc (Below.refl _ _) _) _⟩
 generalize ((w.alloc (.cells #[.string p, .int .u64 st, .int .i64 kd, .int .u64 at_] 40)).alloc (.cells #[.string ⟨#[]⟩, .int .u64 0, .int .i64 0, .int .u64 0] 40)) = w1 at BL BR HB ⊢
 obtain ⟨g2, hg2⟩ : ∃ g, w.heap.size + 1 = g := ⟨_, rfl⟩
 have HG : Hid (w.heap.size ≤ g2) := Lib.hid r37_
 rw [hg2] at BR ⊢
 clear hg2
 refine (col_Lock.calls k p st kd at_ is ee w1 HC.out).mono ?_
 rintro e w2 ⟨rfl, hb⟩
 have BL2 := Aside0.mk (blk_below BL.out hb)
 have BR2 := Aside0.mk (blk_below BR.out hb)
 have HB2 := Aside0.mk (below_step HB.out hb)
 clear hb BL BR HB
 have l0_ : w2.cell? ⟨w.heap.size, 0, none⟩ = some (.string p) := (blk_cell BL2.out 0).trans rfl
 have l1_ : w2.cell? ⟨w.heap.size, 1, none⟩ = some (.int .u64 st) := (blk_cell BL2.out 1).trans rfl
 have l2_ : w2.cell? ⟨w.heap.size, 2, none⟩ = some (.int .i64 kd) := (blk_cell BL2.out 2).trans rfl
 have l3_ : w2.cell? ⟨w.heap.size, 3, none⟩ = some (.int .u64 at_) := (blk_cell BL2.out 3).trans rfl
 have r0_ : w2.cell? ⟨g2, 0, none⟩ = some (.string ⟨#[]⟩) := (blk_cell BR2.out 0).trans rfl
 have r1_ : w2.cell? ⟨g2, 1, none⟩ = some (.int .u64 0) := (blk_cell BR2.out 1).trans rfl
 have r2_ : w2.cell? ⟨g2, 2, none⟩ = some (.int .i64 0) := (blk_cell BR2.out 2).trans rfl
 have r3_ : w2.cell? ⟨g2, 3, none⟩ = some (.int .u64 0) := (blk_cell BR2.out 3).trans rfl
 have p0_ := blk_frozen BR2.out 0
 have p1_ := blk_frozen BR2.out 1
 have p2_ := blk_frozen BR2.out 2
 have p3_ := blk_frozen BR2.out 3
 by_cases he : ee = 0
 ·subst he
  have hs : is.toList ≠ s.toList := by simpa using HS.out
  have s1_ : (is.toList == s.toList) = false := beq_eq_false_iff_ne.mpr hs
  have s2_ : (is.toList != s.toList) = true := bne_iff_ne.mpr hs
  clear hs
  go_upto_region 4 with (fail)
  clear l0_ l1_ l2_ l3_ r0_ r1_ r2_ r3_ p0_ p1_ p2_ p3_
  have BR3 := Aside0.mk (blk_alloc BR2.out (.cells #[.string ⟨#[]⟩, .int .u64 0, .int .i64 0, .int .u64 0] 40))
  have BN3 := Aside0.mk (blk_new w2 (.cells #[.string ⟨#[]⟩, .int .u64 0, .int .i64 0, .int .u64 0] 40))
  have HB3 := Aside0.mk (below_alloc HB2.out (.cells #[.string ⟨#[]⟩, .int .u64 0, .int .i64 0, .int .u64 0] 40))
  generalize (w2.alloc (.cells #[.string ⟨#[]⟩, .int .u64 0, .int .i64 0, .int .u64 0] 40)) = w3 at BR3 BN3 HB3 ⊢
  generalize w2.heap.size = g4 at BN3 ⊢
  have n0_ : w3.cell? ⟨g4, 0, none⟩ = some (.string ⟨#[]⟩) := (blk_cell BN3.out 0).trans rfl
  have n1_ : w3.cell? ⟨g4, 1, none⟩ = some (.int .u64 0) := (blk_cell BN3.out 1).trans rfl
  have n2_ : w3.cell? ⟨g4, 2, none⟩ = some (.int .i64 0) := (blk_cell BN3.out 2).trans rfl
  have n3_ : w3.cell? ⟨g4, 3, none⟩ = some (.int .u64 0) := (blk_cell BN3.out 3).trans rfl
  have r0_ : w3.cell? ⟨g2, 0, none⟩ = some (.string ⟨#[]⟩) := (blk_cell BR3.out 0).trans rfl
  have p0_ := blk_frozen BR3.out 0
  have r1_ : w3.cell? ⟨g2, 1, none⟩ = some (.int .u64 0) := (blk_cell BR3.out 1).trans rfl
  have p1_ := blk_frozen BR3.out 1
  have r2_ : w3.cell? ⟨g2, 2, none⟩ = some (.int .i64 0) := (blk_cell BR3.out 2).trans rfl
  have p2_ := blk_frozen BR3.out 2
  have r3_ : w3.cell? ⟨g2, 3, none⟩ = some (.int .u64 0) := (blk_cell BR3.out 3).trans rfl
  have p3_ := blk_frozen BR3.out 3
  go_wp2
  exact bodyPost_ret (hfin _ _ g2 _ _ _ _ rfl (blk_put (cs' := #[.string ⟨#[]⟩, .int .u64 0, .int .i64 0, .int .u64 0]) (blk_put (cs' := #[.string ⟨#[]⟩, .int .u64 0, .int .i64 0, .int .u64 0]) (blk_put (cs' := #[.string ⟨#[]⟩, .int .u64 0, .int .i64 0, .int .u64 0]) (blk_put (cs' := #[.string ⟨#[]⟩, .int .u64 0, .int .i64 0, .int .u64 0]) BR3.out 0 _ rfl) 1 _ rfl) 2 _ rfl) 3 _ rfl)) rfl ⟨rfl, (((HB3.out.setCell (p := ⟨g2, 0, none⟩) HG.out _).setCell (p := ⟨g2, 1, none⟩) HG.out _).setCell (p := ⟨g2, 2, none⟩) HG.out _).setCell (p := ⟨g2, 3, none⟩) HG.out _⟩

 ·have e1_ : (ee == 0) = false := beq_eq_false_iff_ne.mpr he
  have e2_ : (ee != 0) = true := bne_iff_ne.mpr he
  clear he
  go_upto_region 4 with (fail)
  clear l0_ l1_ l2_ l3_ r0_ r1_ r2_ r3_ p0_ p1_ p2_ p3_
  have BR3 := Aside0.mk (blk_alloc BR2.out (.cells #[.string ⟨#[]⟩, .int .u64 0, .int .i64 0, .int .u64 0] 40))
  have BN3 := Aside0.mk (blk_new w2 (.cells #[.string ⟨#[]⟩, .int .u64 0, .int .i64 0, .int .u64 0] 40))
  have HB3 := Aside0.mk (below_alloc HB2.out (.cells #[.string ⟨#[]⟩, .int .u64 0, .int .i64 0, .int .u64 0] 40))
  generalize (w2.alloc (.cells #[.string ⟨#[]⟩, .int .u64 0, .int .i64 0, .int .u64 0] 40)) = w3 at BR3 BN3 HB3 ⊢
  generalize w2.heap.size = g4 at BN3 ⊢
  have n0_ : w3.cell? ⟨g4, 0, none⟩ = some (.string ⟨#[]⟩) := (blk_cell BN3.out 0).trans rfl
  have n1_ : w3.cell? ⟨g4, 1, none⟩ = some (.int .u64 0) := (blk_cell BN3.out 1).trans rfl
  have n2_ : w3.cell? ⟨g4, 2, none⟩ = some (.int .i64 0) := (blk_cell BN3.out 2).trans rfl
  have n3_ : w3.cell? ⟨g4, 3, none⟩ = some (.int .u64 0) := (blk_cell BN3.out 3).trans rfl
  have r0_ : w3.cell? ⟨g2, 0, none⟩ = some (.string ⟨#[]⟩) := (blk_cell BR3.out 0).trans rfl
  have p0_ := blk_frozen BR3.out 0
  have r1_ : w3.cell? ⟨g2, 1, none⟩ = some (.int .u64 0) := (blk_cell BR3.out 1).trans rfl
  have p1_ := blk_frozen BR3.out 1
  have r2_ : w3.cell? ⟨g2, 2, none⟩ = some (.int .i64 0) := (blk_cell BR3.out 2).trans rfl
  have p2_ := blk_frozen BR3.out 2
  have r3_ : w3.cell? ⟨g2, 3, none⟩ = some (.int .u64 0) := (blk_cell BR3.out 3).trans rfl
  have p3_ := blk_frozen BR3.out 3
  go_wp2
  exact bodyPost_ret (hfin _ _ g2 _ _ _ _ rfl (blk_put (cs' := #[.string ⟨#[]⟩, .int .u64 0, .int .i64 0, .int .u64 0]) (blk_put (cs' := #[.string ⟨#[]⟩, .int .u64 0, .int .i64 0, .int .u64 0]) (blk_put (cs' := #[.string ⟨#[]⟩, .int .u64 0, .int .i64 0, .int .u64 0]) (blk_put (cs' := #[.string ⟨#[]⟩, .int .u64 0, .int .i64 0, .int .u64 0]) BR3.out 0 _ rfl) 1 _ rfl) 2 _ rfl) 3 _ rfl)) rfl ⟨rfl, (((HB3.out.setCell (p := ⟨g2, 0, none⟩) HG.out _).setCell (p := ⟨g2, 1, none⟩) HG.out _).setCell (p := ⟨g2, 2, none⟩) HG.out _).setCell (p := ⟨g2, 3, none⟩) HG.out _⟩

theorem api_Lock.chk (k : Nat) (p : ByteArray) (st kd at_ : Int) (s is : ByteArray) (ee : Int) (v0 : ByteArray) (v1 v2 v3 v4 : Int) (w : World) (h : col_Lock.f k p st kd at_ = some (is, ee)) (hr : (if ee ≠ 0 ∨ is.toList ≠ s.toList then some ((⟨#[]⟩ : ByteArray), (0 : Int), (0 : Int), (0 : Int), (2 : Int)) else some (p, st, kd, at_, 0)) = some (v0, v1, v2, v3, v4)) :
  Calls Try.prog 56 #[.agg #[.string p, .int .u64 st, .int .i64 kd, .int .u64 at_], .string s, .func (.func 57) #[] #[]] w fun e' w' => e' = .returned (.tuple #[.agg #[.string v0, .int .u64 v1, .int .i64 v2, .int .u64 v3], .int .i64 v4]) ∧ Below w.heap.size w w' := by
 by_cases hb : ee ≠ 0 ∨ is.toList ≠ s.toList
 ·rw [if_pos hb] at hr
  simp only [Option.some.injEq, Prod.mk.injEq] at hr
  obtain ⟨rfl, rfl, rfl, rfl, rfl⟩ := hr
  exact api_Lock.bad k p st kd at_ s is ee w h hb
 rw [if_neg hb] at hr
 simp only [Option.some.injEq, Prod.mk.injEq] at hr
 obtain ⟨rfl, rfl, rfl, rfl, rfl⟩ := hr
 have he : ee = 0 := Classical.not_not.1 fun e => hb (Or.inl e)
 subst he
 exact api_Lock.good k p st kd at_ s is w h (Classical.not_not.1 fun e => hb (Or.inr e))
def api_Lock.f (k : Nat) (a0_0 : ByteArray) (a0_1 a0_2 a0_3 : Int) (a1 : ByteArray) : Option (ByteArray × Int × Int × Int × Int) :=
 (col_Lock.f k a0_0 a0_1 a0_2 a0_3).bind fun c => if c.2 ≠ 0 ∨ c.1.toList ≠ a1.toList then some (⟨#[]⟩, 0, 0, 0, 2) else some (a0_0, a0_1, a0_2, a0_3, 0)
theorem api_Lock.mono : ∀ a0 a1 a2 a3 a4 k, LeO (api_Lock.f k a0 a1 a2 a3 a4) (api_Lock.f (k + 1) a0 a1 a2 a3 a4) := by
 intro a0 a1 a2 a3 a4 k
 unfold api_Lock.f
 exact LeO.bind (col_Lock.mono _ _ _ _ _) (fun _ => LeO.refl _)
theorem api_Lock.calls (k : Nat) (a0_0 : ByteArray) (a0_1 a0_2 a0_3 : Int) (a1 : ByteArray) (r1 : ByteArray) (r2 r3 r4 r5 : Int) (w : World) (h : api_Lock.f k a0_0 a0_1 a0_2 a0_3 a1 = some (r1, r2, r3, r4, r5)) :
  Calls Try.prog 56 #[.agg #[.string a0_0, .int .u64 a0_1, .int .i64 a0_2, .int .u64 a0_3], .string a1, .func (.func 57) #[] #[]] w fun e w' => e = .returned (.tuple #[.agg #[.string r1, .int .u64 r2, .int .i64 r3, .int .u64 r4], .int .i64 r5]) ∧ Below w.heap.size w w' := by
 unfold api_Lock.f at h
 replace h := Option.bind_eq_some_iff.mp h
 obtain ⟨⟨is, ee⟩, hC, h⟩ := h
 exact api_Lock.chk k a0_0 a0_1 a0_2 a0_3 a1 is ee r1 r2 r3 r4 r5 w hC h

/-! ### col_Unlock: function 39 -/
def col_Unlock.f (k : Nat) (a0 : ByteArray) : Option (ByteArray × Int × Int × Int × Int) := if a0.toList = ([] : List UInt8) then (some ((⟨#[]⟩ : ByteArray), 0, 0, 0, 2)) else (if 1 ≤ (a0.size : Int) then ((col_numbers.f k (a0.extract 1 a0.size) 2).bind fun bt147 => (if bt147.2.2 = true then (if 0 < (bt147.1.length : Int) then (if 0 < (a0.size : Int) then (if 1 < (bt147.1.length : Int) then ((api_Lock.f k bt147.2.1 (rd bt147.1 0) (wrap64 (bt a0 0)) (rd bt147.1 1) a0).bind fun bt154 => (some (bt154.1, bt154.2.1, bt154.2.2.1, bt154.2.2.2.1, bt154.2.2.2.2))) else (none)) else (none)) else (none)) else (some ((⟨#[]⟩ : ByteArray), 0, 0, 0, 2)))) else (none))
theorem col_Unlock.mono : ∀ a0 k, LeO (col_Unlock.f k a0) (col_Unlock.f (k + 1) a0) := by
 intro a0 k
 unfold col_Unlock.f
 repeat' first
   | (with_reducible exact LeO.refl _)
   | (with_reducible exact LeO.none _)
   | (with_reducible refine LeO.ite ?_ ?_)
   | (with_reducible refine LeO.bind ?_ (fun _ => ?_))
   | exact api_Lock.mono _ _ _ _ _ _
   | exact col_numbers.mono _ _ _
   | exact LeO.none _
   | refine LeO.ite ?_ ?_
   | refine LeO.bind ?_ (fun _ => ?_)
def col_Unlock.T6 : Bool × List (List Nat × List Nat) := (true, [([], []), ([], []), ([1], [1]), ([2], [2]), ([], []), ([4], [4]), ([5], [5]), ([], []), ([7], [7]), ([8], [8]), ([0, 3, 6, 9], [0, 3, 6, 9]), ([], []), ([10, 11], [10, 11]), ([12], [12]), ([12], [12]), ([13, 12, 0, 1, 2, 3, 4, 5, 6, 7, 8, 9, 10, 11, 12, 13, 14], [13]), ([14, 15, 0, 1, 2, 3, 4, 5, 6, 7, 8, 9, 10, 11, 12, 13, 14, 15], [14])])
def col_Unlock.B6 : List Nat := [0, 0, 2, 6, 0, 16, 48, 0, 128, 384, 1023, 0, 4095, 8191, 8191, 32767, 65535]
theorem col_Unlock.tab6 : rtab .any (opsOf Try.f39 6) = col_Unlock.T6 := by kernel_rfl
theorem col_Unlock.bits6 : waitsOk col_Unlock.T6.2 col_Unlock.B6 = true := by kernel_rfl
set_option maxHeartbeats 8000000 in
set_option maxRecDepth 100000 in
theorem col_Unlock.calls (k : Nat) (a0 : ByteArray) (r1 : ByteArray) (r2 : Int) (r3 : Int) (r4 : Int) (r5 : Int) (w : World) (h : col_Unlock.f k a0 = some (r1, r2, r3, r4, r5)) :
  Calls Try.prog 39 #[.string a0] w fun e w' => e = .returned (.tuple #[.agg #[.string r1, .int .u64 r2, .int .i64 r3, .int .u64 r4], .int .i64 r5]) ∧ Below w.heap.size w w' := by
 have hu40 := Try.underlying40
 have HB := Aside0.mk (Below.refl w.heap.size w)
 have H : (if a0.toList = ([] : List UInt8) then (some ((⟨#[]⟩ : ByteArray), 0, 0, 0, 2)) else (if 1 ≤ (a0.size : Int) then ((col_numbers.f k (a0.extract 1 a0.size) 2).bind fun bt147 => (if bt147.2.2 = true then (if 0 < (bt147.1.length : Int) then (if 0 < (a0.size : Int) then (if 1 < (bt147.1.length : Int) then ((api_Lock.f k bt147.2.1 (rd bt147.1 0) (wrap64 (bt a0 0)) (rd bt147.1 1) a0).bind fun bt154 => (some (bt154.1, bt154.2.1, bt154.2.2.1, bt154.2.2.2.1, bt154.2.2.2.2))) else (none)) else (none)) else (none)) else (some ((⟨#[]⟩ : ByteArray), 0, 0, 0, 2)))) else (none))) = some (r1, r2, r3, r4, r5) := h
 clear h
 by_cases c2 : a0.toList = ([] : List UInt8)
 ·rw [if_pos c2] at H
  have c2b0 := beq_iff_eq.mpr c2
  have c2b1 := bne_eq_false_iff_eq.mpr c2
  clear c2
  simp only [Option.some.injEq, Prod.mk.injEq] at H
  obtain ⟨rfl, rfl, rfl, rfl, rfl⟩ := H
  go_enter Try.func39, Try.ntmps39
  go_wp2_with (first | ((with_reducible refine gate_dst (N := 2) rfl ?_); refine box_event ?hg (N := 2) ?hd (cs := #[.string (⟨#[]⟩ : ByteArray), .int .u64 0, .int .i64 0, .int .u64 0]) (t := 40) ?hr ?_; (case hd => rfl); (case hg => rfl); (case hr => first | (go_simp; done) | (go_simp; rfl)); intro gb146 hg w3 hbox hb; have BK146 := Aside0.mk (hbox); have GW146 := Aside0.mk ((by rw [hg]; exact (below_size hB_) : w.heap.size ≤ gb146)); have GE146 := Aside0.mk ((by rw [hg]; exact (below_size hB_) : w.heap.size ≤ gb146)); replace HB := Aside0.mk (below_step hB_ hb); clear hb hbox hg; have hcz4_0 : w3.cell? ⟨gb146, 0, none⟩ = some (.string (⟨#[]⟩ : ByteArray)) := (blk_cell BK146.out 0).trans rfl; have hcz4_1 : w3.cell? ⟨gb146, 1, none⟩ = some (.int .u64 0) := (blk_cell BK146.out 1).trans rfl; have hcz4_2 : w3.cell? ⟨gb146, 2, none⟩ = some (.int .i64 0) := (blk_cell BK146.out 2).trans rfl; have hcz4_3 : w3.cell? ⟨gb146, 3, none⟩ = some (.int .u64 0) := (blk_cell BK146.out 3).trans rfl; have hfz4_0 := blk_frozen BK146.out 0; have hfz4_1 := blk_frozen BK146.out 1; have hfz4_2 := blk_frozen BK146.out 2; have hfz4_3 := blk_frozen BK146.out 3))
  refine bodyPost_ret (results_ct rfl _ _ gb146 40 #[.string (⟨#[]⟩ : ByteArray), .int .u64 0, .int .i64 0, .int .u64 0] (0, 0) _ rfl (by (with_reducible repeat (first | refine blk_drewN ?_ _ | refine blk_drew ?_ | refine blk_alloc ?_ _)); refine blk_put (cs := #[.string (⟨#[]⟩ : ByteArray), .int .u64 0, .int .i64 0, .int .u64 0]) ?_ 3 _ rfl; (with_reducible repeat (first | refine blk_drewN ?_ _ | refine blk_drew ?_ | refine blk_alloc ?_ _)); refine blk_put (cs := #[.string (⟨#[]⟩ : ByteArray), .int .u64 0, .int .i64 0, .int .u64 0]) ?_ 2 _ rfl; (with_reducible repeat (first | refine blk_drewN ?_ _ | refine blk_drew ?_ | refine blk_alloc ?_ _)); refine blk_put (cs := #[.string (⟨#[]⟩ : ByteArray), .int .u64 0, .int .i64 0, .int .u64 0]) ?_ 1 _ rfl; (with_reducible repeat (first | refine blk_drewN ?_ _ | refine blk_drew ?_ | refine blk_alloc ?_ _)); refine blk_put (cs := #[.string (⟨#[]⟩ : ByteArray), .int .u64 0, .int .i64 0, .int .u64 0]) ?_ 0 _ rfl; (with_reducible repeat (first | refine blk_drewN ?_ _ | refine blk_drew ?_ | refine blk_alloc ?_ _)); exact BK146.out) Try.underlying40 rfl r6_) rfl ?_
  exact ⟨rf_, r30_⟩
 rw [if_neg c2] at H
 have c2b0 := beq_eq_false_iff_ne.mpr c2
 have c2b1 := bne_iff_ne.mpr c2
 by_cases c5 : 1 ≤ (a0.size : Int)
 rotate_left
 ·rw [if_neg c5] at H
  exact absurd H r34_
 rw [if_pos c5] at H
 have c5b0 := eq_true c5
 have c5b1 : decide (1 ≤ (a0.size : Int)) = true := decide_eq_true c5
 clear c5
 replace H := Option.bind_eq_some_iff.mp H
 obtain ⟨⟨t147, t148, t149⟩, A60, H⟩ := H
 try dsimp only at H
 have A6 := Aside0.mk A60
 clear A60
 by_cases c7 : t149 = true
 rotate_left
 ·replace c7 := Bool.eq_false_iff.mpr c7
  subst c7
  rw [if_neg ff_] at H
  simp only [Option.some.injEq, Prod.mk.injEq] at H
  obtain ⟨rfl, rfl, rfl, rfl, rfl⟩ := H
  go_enter Try.func39, Try.ntmps39
  go_wp2_with (first | ((with_reducible refine gate_dst (N := 2) rfl ?_); refine box_event ?hg (N := 2) ?hd (cs := #[.string (⟨#[]⟩ : ByteArray), .int .u64 0, .int .i64 0, .int .u64 0]) (t := 40) ?hr ?_; (case hd => rfl); (case hg => rfl); (case hr => first | (go_simp; done) | (go_simp; rfl)); intro gb146 hg w22 hbox hb; have BK146 := Aside0.mk (hbox); have GW146 := Aside0.mk ((by rw [hg]; exact (below_size hB_) : w.heap.size ≤ gb146)); have GE146 := Aside0.mk ((by rw [hg]; exact (below_size hB_) : w.heap.size ≤ gb146)); replace HB := Aside0.mk (below_step hB_ hb); clear hb hbox hg) | ((with_reducible refine gate_callee (f := 55) rfl ?_); refine goesL_ (some 13) rfl rfl Try.func55 r6_ rfl #[.string (a0.extract 1 a0.size), .int .i64 2] rfl hA_ ?_; (with_reducible refine (col_numbers.calls k (a0.extract 1 a0.size) 2 t147 t148 false _ A6.out).mono ?_); rintro e w23 ⟨v150, rfl, ho0, hb⟩; refine ⟨_, rfl, ?_⟩; have HO151 := Aside0.mk (Kd.R_lower ho0 (below_size r30_)); replace BK146 := Aside0.mk (blk_below (g := gb146) (o := .cells #[.string (⟨#[]⟩ : ByteArray), .int .u64 0, .int .i64 0, .int .u64 0] 40 (0, 0)) r67_ hb); replace HB := Aside0.mk (below_step r30_ hb); clear hb ho0 A6; have hcz24_0 : w23.cell? ⟨gb146, 0, none⟩ = some (.string (⟨#[]⟩ : ByteArray)) := (blk_cell BK146.out 0).trans rfl; have hcz24_1 : w23.cell? ⟨gb146, 1, none⟩ = some (.int .u64 0) := (blk_cell BK146.out 1).trans rfl; have hcz24_2 : w23.cell? ⟨gb146, 2, none⟩ = some (.int .i64 0) := (blk_cell BK146.out 2).trans rfl; have hcz24_3 : w23.cell? ⟨gb146, 3, none⟩ = some (.int .u64 0) := (blk_cell BK146.out 3).trans rfl; have hfz24_0 := blk_frozen BK146.out 0; have hfz24_1 := blk_frozen BK146.out 1; have hfz24_2 := blk_frozen BK146.out 2; have hfz24_3 := blk_frozen BK146.out 3))
  refine bodyPost_ret (results_ct rfl _ _ gb146 40 #[.string (⟨#[]⟩ : ByteArray), .int .u64 0, .int .i64 0, .int .u64 0] (0, 0) _ rfl (by (with_reducible repeat (first | refine blk_drewN ?_ _ | refine blk_drew ?_ | refine blk_alloc ?_ _)); refine blk_put (cs := #[.string (⟨#[]⟩ : ByteArray), .int .u64 0, .int .i64 0, .int .u64 0]) ?_ 3 _ rfl; (with_reducible repeat (first | refine blk_drewN ?_ _ | refine blk_drew ?_ | refine blk_alloc ?_ _)); refine blk_put (cs := #[.string (⟨#[]⟩ : ByteArray), .int .u64 0, .int .i64 0, .int .u64 0]) ?_ 2 _ rfl; (with_reducible repeat (first | refine blk_drewN ?_ _ | refine blk_drew ?_ | refine blk_alloc ?_ _)); refine blk_put (cs := #[.string (⟨#[]⟩ : ByteArray), .int .u64 0, .int .i64 0, .int .u64 0]) ?_ 1 _ rfl; (with_reducible repeat (first | refine blk_drewN ?_ _ | refine blk_drew ?_ | refine blk_alloc ?_ _)); refine blk_put (cs := #[.string (⟨#[]⟩ : ByteArray), .int .u64 0, .int .i64 0, .int .u64 0]) ?_ 0 _ rfl; (with_reducible repeat (first | refine blk_drewN ?_ _ | refine blk_drew ?_ | refine blk_alloc ?_ _)); exact BK146.out) Try.underlying40 rfl r6_) rfl ?_
  exact ⟨rf_, r30_⟩
 subst c7
 rw [if_pos rfl] at H
 by_cases c8 : 0 < (t147.length : Int)
 rotate_left
 ·rw [if_neg c8] at H
  exact absurd H r34_
 rw [if_pos c8] at H
 have c8b0 := decide_eq_true c8
 have c8b1 : decide (0 < t147.length) = true := decide_eq_true r37_
 clear c8
 by_cases c9 : 0 < (a0.size : Int)
 rotate_left
 ·rw [if_neg c9] at H
  exact absurd H r34_
 rw [if_pos c9] at H
 have c9b0 := decide_eq_true c9
 have c9b1 : decide (0 < a0.size) = true := decide_eq_true r37_
 clear c9
 by_cases c11 : 1 < (t147.length : Int)
 rotate_left
 ·rw [if_neg c11] at H
  exact absurd H r34_
 rw [if_pos c11] at H
 have c11b0 := decide_eq_true c11
 have c11b1 : decide (1 < t147.length) = true := decide_eq_true r37_
 clear c11
 replace H := Option.bind_eq_some_iff.mp H
 obtain ⟨⟨t154, t155, t156, t157, t158⟩, A120, H⟩ := H
 try dsimp only at H
 have A12 := Aside0.mk A120
 clear A120
 simp only [Option.some.injEq, Prod.mk.injEq] at H
 obtain ⟨rfl, rfl, rfl, rfl, rfl⟩ := H
 go_enter Try.func39, Try.ntmps39
 try go_wp2_with (first | ((with_reducible refine gate_dst (N := 2) rfl ?_); refine box_event ?hg (N := 2) ?hd (cs := #[.string (⟨#[]⟩ : ByteArray), .int .u64 0, .int .i64 0, .int .u64 0]) (t := 40) ?hr ?_; (case hd => rfl); (case hg => rfl); (case hr => first | (go_simp; done) | (go_simp; rfl)); intro gb146 hg w13 hbox hb; have BK146 := Aside0.mk (hbox); have GW146 := Aside0.mk ((by rw [hg]; exact (below_size hB_) : w.heap.size ≤ gb146)); have GE146 := Aside0.mk ((by rw [hg]; exact (below_size hB_) : w.heap.size ≤ gb146)); replace HB := Aside0.mk (below_step hB_ hb); clear hb hbox hg) | ((with_reducible refine gate_callee (f := 55) rfl ?_); refine goesL_ (some 13) rfl rfl Try.func55 r6_ rfl #[.string (a0.extract 1 a0.size), .int .i64 2] rfl hA_ ?_; (with_reducible refine (col_numbers.calls k (a0.extract 1 a0.size) 2 t147 t148 true _ A6.out).mono ?_); rintro e w14 ⟨v150, rfl, ho0, hb⟩; refine ⟨_, rfl, ?_⟩; have HO151 := Aside0.mk (Kd.R_lower ho0 (below_size r30_)); replace BK146 := Aside0.mk (blk_below (g := gb146) (o := .cells #[.string (⟨#[]⟩ : ByteArray), .int .u64 0, .int .i64 0, .int .u64 0] 40 (0, 0)) r67_ hb); replace HB := Aside0.mk (below_step r30_ hb); clear hb ho0 A6))
 replace HO151 := Aside0.mk (Kd.R_drew HO151.out)
 replace BK146 := Aside0.mk (blk_drew BK146.out)
 replace HB := Aside0.mk (below_drew1 HB.out)
 obtain ⟨Ao16, co16, eo16⟩ := Kd.R_slice HO151.out
 (first | subst eo16 | (injection eo16 with f1_ f2_ f3_; have f4_ := f1_.symm; have f5_ := f3_.symm; clear f1_ f2_ f3_; subst f4_; subst f5_))
 have p152 : 0 ≤ (0 : Int) := r37_
 have q152 : 0 < (t147.length : Int) := of_decide_eq_true as_
 obtain ⟨ad152, e152, hx152_0⟩ := Kd.at_int (Kd.R_reads' HO151.out).2.2 0 p152 q152
 cases e152
 have qi152 : (0 < t147.length) = True := eq_true r37_
 (try rw [show ((0 : Int)).toNat = 0 from rfl] at hx152_0)
 (try rw [Addr.add_zero'] at hx152_0)
 replace p152 := eq_true p152
 replace q152 := eq_true q152
 have p10 : 0 ≤ (0 : Int) := r37_
 have q10 : 0 < a0.size := (by have : (0 : Int) < (a0.size : Int) := of_decide_eq_true as_; omega)
 have hx10 : ∀ h : 0 < a0.size, ((a0[0]'h).toNat : Int) = bt a0 0 := bt_at a0 0
 clear p10
 have qi10 : (0 < (a0.size : Int)) = True := eq_true (of_decide_eq_true as_)
 replace q10 := eq_true q10
 have p153 : 0 ≤ (1 : Int) := r37_
 have q153 : 1 < (t147.length : Int) := of_decide_eq_true as_
 obtain ⟨ad153, e153, hx153_0⟩ := Kd.at_int (Kd.R_reads' HO151.out).2.2 1 p153 q153
 obtain rfl : ad152 = ad153 := (by injection e153)
 (try simp only [show (1 : Int).toNat = 1 from rfl, Nat.reduceMul, Nat.reduceEqDiff, Go.Addr.add, ↓reduceIte] at hx153_0)
 have qi153 : (1 < t147.length) = True := eq_true r37_
 (try rw [show ((1 : Int)).toNat = 1 from rfl] at hx153_0)
 replace p153 := eq_true p153
 replace q153 := eq_true q153
 refine start_ (n := 17) (S := fun w' => w'.cell? ad152 = some (.int .u64 (rd t147 0)) ∧ w'.cell? ⟨ad152.block, ad152.off + 1, none⟩ = some (.int .u64 (rd t147 1))) (ds := []) #[N,N,N,N,N,N,N,N,N,N,N,N,N,N,N,N,N] r6_ rfl rfl ⟨hx152_0, hx153_0⟩ (fun hHeld => ?_); refine with_tabW col_Unlock.tab6 col_Unlock.bits6 (fun HT_ HW_ => ?_)
 generalize w14.drew = w15 at HO151 BK146 HB hx152_0 hx153_0 hHeld ⊢
 refine pure_ (i := 0) (N := some 20) (v := ?_) (a' := ?_) #[Y,N,N,N,N,N,N,N,N,N,N,N,N,N,N,N,N] rfl rfl (any_of HT_.out r6_) (fun _ _ _ h => h) (Or.inl ⟨by rfl, ?_⟩) ?_ ?_
 rotate_left
 ·intro w'
  go_simp
  with_reducible rfl
 rotate_left
 ·simp only [Act.put, sp_, i64_w, i32_w]
  rfl
 refine pure_ (i := 1) (N := some 21) (v := ?_) (a' := ?_) #[Y,Y,N,N,N,N,N,N,N,N,N,N,N,N,N,N,N] rfl rfl (any_of HT_.out r6_) (fun _ _ _ h => h) (Or.inl ⟨by rfl, ?_⟩) ?_ ?_
 rotate_left
 ·intro w'
  go_simp
  with_reducible rfl
 rotate_left
 ·simp only [Act.put, sp_, i64_w, i32_w]
  rfl
 refine pure_ (i := 2) (N := some 22) (v := ?_) (a' := ?_) #[Y,Y,Y,N,N,N,N,N,N,N,N,N,N,N,N,N,N] rfl rfl (any_of HT_.out r6_) (fun _ _ _ h => h) (Or.inl ⟨by rfl, ?_⟩) ?_ ?_
 rotate_left
 ·intro w'
  go_simp
  with_reducible rfl
 rotate_left
 ·simp only [Act.put, sp_, i64_w, i32_w]
  rfl
 refine pure_ (i := 4) (N := some 24) (v := ?_) (a' := ?_) #[Y,Y,Y,N,Y,N,N,N,N,N,N,N,N,N,N,N,N] rfl rfl (any_of HT_.out r6_) (fun _ _ _ h => h) (Or.inl ⟨by rfl, ?_⟩) ?_ ?_
 rotate_left
 ·intro w'
  go_simp
  with_reducible rfl
 rotate_left
 ·simp only [Act.put, sp_, i64_w, i32_w]
  rfl
 refine pure_ (i := 7) (N := some 27) (v := ?_) (a' := ?_) #[Y,Y,Y,N,Y,N,N,Y,N,N,N,N,N,N,N,N,N] rfl rfl (any_of HT_.out r6_) (fun _ _ _ h => h) (Or.inl ⟨by rfl, ?_⟩) ?_ ?_
 rotate_left
 ·intro w'
  go_simp
  with_reducible rfl
 rotate_left
 ·simp only [Act.put, sp_, i64_w, i32_w]
  rfl
 refine pure_ (i := 8) (N := some 28) (v := ?_) (a' := ?_) #[Y,Y,Y,N,Y,N,N,Y,Y,N,N,N,N,N,N,N,N] rfl rfl (any_of HT_.out r6_) (fun _ _ _ h => h) (Or.inl ⟨by rfl, ?_⟩) ?_ ?_
 rotate_left
 ·intro w'
  go_simp
  with_reducible rfl
 rotate_left
 ·simp only [Act.put, sp_, i64_w, i32_w]
  rfl
 refine pure_ (i := 11) (N := some 31) (v := ?_) (a' := ?_) #[Y,Y,Y,N,Y,N,N,Y,Y,N,N,Y,N,N,N,N,N] rfl rfl (any_of HT_.out r6_) (fun _ _ _ h => h) (Or.inl ⟨by rfl, ?_⟩) ?_ ?_
 rotate_left
 ·intro w'
  go_simp
  with_reducible rfl
 rotate_left
 ·simp only [Act.put, sp_, i64_w, i32_w]
  rfl
 refine take_ (i := 3) (N := some 23) (v := ?_) (a' := ?_) #[Y,Y,Y,Y,Y,N,N,Y,Y,N,N,Y,N,N,N,N,N] rfl rfl (take_ofW HT_.out HW_.out r6_) (fun _ _ _ h => h) (Or.inl ⟨by rfl, ?_⟩) hHeld ?_ ?_
 rotate_left
 ·rintro w' ⟨s0, s1⟩
  go_simp
  with_reducible rfl
 rotate_left
 ·simp only [Act.put, sp_, i64_w, i32_w]
  rfl
 refine take_ (i := 5) (N := some 25) (v := ?_) (a' := ?_) #[Y,Y,Y,Y,Y,Y,N,Y,Y,N,N,Y,N,N,N,N,N] rfl rfl (take_ofW HT_.out HW_.out r6_) (fun _ _ _ h => h) (Or.inl ⟨by rfl, ?_⟩) hHeld ?_ ?_
 rotate_left
 ·rintro w' ⟨s0, s1⟩
  go_simp
  with_reducible rfl
 rotate_left
 ·simp only [Act.put, sp_, i64_w, i32_w]
  rfl
 refine pure_ (i := 6) (N := some 26) (v := ?_) (a' := ?_) #[Y,Y,Y,Y,Y,Y,Y,Y,Y,N,N,Y,N,N,N,N,N] rfl rfl (any_of HT_.out r6_) (fun _ _ _ h => h) (Or.inl ⟨by rfl, ?_⟩) ?_ ?_
 rotate_left
 ·intro w'
  go_simp
  with_reducible rfl
 rotate_left
 ·simp only [Act.put, sp_, i64_w, i32_w]
  rfl
 refine take_ (i := 9) (N := some 29) (v := ?_) (a' := ?_) #[Y,Y,Y,Y,Y,Y,Y,Y,Y,Y,N,Y,N,N,N,N,N] rfl rfl (take_ofW HT_.out HW_.out r6_) (fun _ _ _ h => h) (Or.inl ⟨by rfl, ?_⟩) hHeld ?_ ?_
 rotate_left
 ·rintro w' ⟨s0, s1⟩
  go_simp
  with_reducible rfl
 rotate_left
 ·simp only [Act.put, sp_, i64_w, i32_w]
  rfl
 refine pure_ (i := 10) (N := some 30) (v := ?_) (a' := ?_) #[Y,Y,Y,Y,Y,Y,Y,Y,Y,Y,Y,Y,N,N,N,N,N] rfl rfl (any_of HT_.out r6_) (fun _ _ _ h => h) (Or.inl ⟨by rfl, ?_⟩) ?_ ?_
 rotate_left
 ·intro w'
  go_simp
  with_reducible rfl
 rotate_left
 ·simp only [Act.put, sp_, i64_w, i32_w]
  rfl
 refine one_ (i := 12) (N := some 32) #[Y,Y,Y,Y,Y,Y,Y,Y,Y,Y,Y,Y,Y,N,N,N,N] rfl rfl (one_of HT_.out r6_) r44_ (fun K hK => ?_)
 refine goes_ Try.func56 r6_ rfl #[.agg #[.string t148, .int .u64 (rd t147 0), .int .i64 (wrap64 (bt a0 0)), .int .u64 (rd t147 1)], .string a0, .func (.func 57) #[] #[]] (by rfl) rfl rfl hA_ ?_
 with_reducible refine (api_Lock.calls k t148 (rd t147 0) (wrap64 (bt a0 0)) (rd t147 1) a0  t154 t155 t156 t157 t158 _ A12.out).mono ?_
 rintro e w17 ⟨rfl, hb⟩
 have HS0_ := (hb.cell (World.block_lt_of_cell? _ _ (hHeld.1))).trans (hHeld.1)
 have HS1_ := (hb.cell (World.block_lt_of_cell? _ _ (hHeld.2))).trans (hHeld.2)
 refine ⟨_, rfl, ?_⟩
 replace HO151 := Aside0.mk (Kd.R_below (by (with_reducible repeat (first | apply Kd.R_alloc | apply Kd.R_drewN | apply Kd.R_drew)); exact HO151.out) hb)
 replace BK146 := Aside0.mk (blk_below (g := gb146) (o := .cells #[.string (⟨#[]⟩ : ByteArray), .int .u64 0, .int .i64 0, .int .u64 0] 40 (0, 0)) r67_ hb)
 replace HB := Aside0.mk (below_step r30_ hb)
 (try clear hb)
 (try clear hb2)
 (try clear hk)
 (try clear hi)
 (try clear A12)
 refine hK.out _ _ ⟨HS0_, HS1_⟩ (fun hHeld => ?_)
 clear hK K
 refine norm_ (a' := ?_) ?_ ?_
 rotate_left
 ·show Act.put _ (some 32) _ = _
  simp only [Act.put, sp_, i64_w, i32_w]
  rfl
 refine pure_ (i := 13) (N := some 33) (v := ?_) (a' := ?_) #[Y,Y,Y,Y,Y,Y,Y,Y,Y,Y,Y,Y,Y,Y,N,N,N] rfl rfl (any_of HT_.out r6_) (fun _ _ _ h => h) (Or.inl ⟨by rfl, ?_⟩) ?_ ?_
 rotate_left
 ·intro w'
  go_simp
  with_reducible rfl
 rotate_left
 ·simp only [Act.put, sp_, i64_w, i32_w]
  rfl
 refine pure_ (i := 14) (N := some 34) (v := ?_) (a' := ?_) #[Y,Y,Y,Y,Y,Y,Y,Y,Y,Y,Y,Y,Y,Y,Y,N,N] rfl rfl (any_of HT_.out r6_) (fun _ _ _ h => h) (Or.inl ⟨by rfl, ?_⟩) ?_ ?_
 rotate_left
 ·intro w'
  go_simp
  with_reducible rfl
 rotate_left
 ·simp only [Act.put, sp_, i64_w, i32_w]
  rfl
 refine one_ (i := 15) (N := none) #[Y,Y,Y,Y,Y,Y,Y,Y,Y,Y,Y,Y,Y,Y,Y,Y,N] rfl rfl (one_of HT_.out r6_) r44_ (fun K hK => ?_)
 have hs18 : w17.cell? ⟨gb146, 0, none⟩ = some (.string (⟨#[]⟩ : ByteArray)) := (blk_cell BK146.out 0).trans rfl
 have hfs18 := blk_frozen BK146.out 0
 have hs19 : w17.cell? ⟨gb146, 1, none⟩ = some (.int .u64 0) := (blk_cell BK146.out 1).trans rfl
 have hfs19 := blk_frozen BK146.out 1
 have hs20 : w17.cell? ⟨gb146, 2, none⟩ = some (.int .i64 0) := (blk_cell BK146.out 2).trans rfl
 have hfs20 := blk_frozen BK146.out 2
 have hs21 : w17.cell? ⟨gb146, 3, none⟩ = some (.int .u64 0) := (blk_cell BK146.out 3).trans rfl
 have hfs21 := blk_frozen BK146.out 3
 refine skip_ (w1 := ?_) (by rfl) rfl ?_ ?_
 rotate_left
 ·go_simp
  rfl
 refine hK.out _ _ ⟨((cell_far (p := ⟨gb146, _, none⟩) r15_ _).trans (((cell_far (p := ⟨gb146, _, none⟩) r15_ _).trans (((cell_far (p := ⟨gb146, _, none⟩) r15_ _).trans (((cell_far (p := ⟨gb146, _, none⟩) r15_ _).trans (hHeld.1)))))))), ((cell_far (p := ⟨gb146, _, none⟩) r15_ _).trans (((cell_far (p := ⟨gb146, _, none⟩) r15_ _).trans (((cell_far (p := ⟨gb146, _, none⟩) r15_ _).trans (((cell_far (p := ⟨gb146, _, none⟩) r15_ _).trans (hHeld.2))))))))⟩ (fun hHeld => ?_)
 clear hK K
 refine pure_ (i := 16) (N := some 3) (v := ?_) (a' := ?_) #[Y,Y,Y,Y,Y,Y,Y,Y,Y,Y,Y,Y,Y,Y,Y,Y,Y] rfl rfl (any_of HT_.out r6_) (fun _ _ _ h => h) (Or.inl ⟨by rfl, ?_⟩) ?_ ?_
 rotate_left
 ·intro w'
  go_simp
  with_reducible rfl
 rotate_left
 ·simp only [Act.put, sp_, i64_w, i32_w]
  rfl
 refine done_ (done_of HT_.out r6_) ?_
 (try clear hHeld)
 (try clear c5b0); (try clear c5b1); (try clear c5b2); (try clear c5b3); (try clear c5b4); (try clear c5b5); (try clear c5b6)
 try go_wp2
 refine bodyPost_ret (results_ct rfl _ _ gb146 40 #[.string t154, .int .u64 t155, .int .i64 t156, .int .u64 t157] (0, 0) _ rfl (by (with_reducible repeat (first | refine blk_drewN ?_ _ | refine blk_drew ?_ | refine blk_alloc ?_ _)); refine blk_put (cs := #[.string t154, .int .u64 t155, .int .i64 t156, .int .u64 0]) ?_ 3 _ rfl; (with_reducible repeat (first | refine blk_drewN ?_ _ | refine blk_drew ?_ | refine blk_alloc ?_ _)); refine blk_put (cs := #[.string t154, .int .u64 t155, .int .i64 0, .int .u64 0]) ?_ 2 _ rfl; (with_reducible repeat (first | refine blk_drewN ?_ _ | refine blk_drew ?_ | refine blk_alloc ?_ _)); refine blk_put (cs := #[.string t154, .int .u64 0, .int .i64 0, .int .u64 0]) ?_ 1 _ rfl; (with_reducible repeat (first | refine blk_drewN ?_ _ | refine blk_drew ?_ | refine blk_alloc ?_ _)); refine blk_put (cs := #[.string (⟨#[]⟩ : ByteArray), .int .u64 0, .int .i64 0, .int .u64 0]) ?_ 0 _ rfl; (with_reducible repeat (first | refine blk_drewN ?_ _ | refine blk_drew ?_ | refine blk_alloc ?_ _)); exact BK146.out) Try.underlying40 rfl r6_) rfl ?_
 exact ⟨rf_, r30_⟩

/-! ### col_Write: function 59 -/
def col_Write.f (k : Nat) (a0_0 : Int) (a0_1 : Int) : Option (ByteArray × Int) := (col_time.f a0_0).bind fun t160 => (if t160 = true then (if a0_1 < 1 then (some ((⟨#[]⟩ : ByteArray), 2)) else (if a0_1 > 3 then (some ((⟨#[]⟩ : ByteArray), 2)) else ((some (([(a0_1) % 256] : List Int) : List Int)).bind fun y161 => ((num_Short.f k a0_0).bind fun t164 => (if (strOfNums y161).size + t164.size ≤ 9223372036854775807 then (some ((strOfNums y161) ++ t164, 0)) else (none)))))) else (some ((⟨#[]⟩ : ByteArray), 2)))
theorem col_Write.mono : ∀ a0 a1 k, LeO (col_Write.f k a0 a1) (col_Write.f (k + 1) a0 a1) := by
 intro a0 a1 k
 unfold col_Write.f
 repeat' first
   | (with_reducible exact LeO.refl _)
   | (with_reducible exact LeO.none _)
   | (with_reducible refine LeO.ite ?_ ?_)
   | (with_reducible refine LeO.bind ?_ (fun _ => ?_))
   | exact num_Short.mono _ _
   | exact LeO.none _
   | refine LeO.ite ?_ ?_
   | refine LeO.bind ?_ (fun _ => ?_)
def col_Write.T3 : Bool × List (List Nat × List Nat) := (true, [([], []), ([0], [0]), ([1], [1]), ([2], [2]), ([3], [3]), ([], []), ([5], [5]), ([6], [6]), ([4, 7], [4, 7]), ([8, 7, 0, 1, 2, 3, 4, 5, 6, 7, 8], [8]), ([9, 0, 1, 2, 3, 4, 5, 6, 7, 8, 9], [])])
def col_Write.B3 : List Nat := [0, 1, 3, 7, 15, 0, 32, 96, 255, 511, 1023]
theorem col_Write.tab3 : rtab .any (opsOf Try.f59 3) = col_Write.T3 := by kernel_rfl
theorem col_Write.bits3 : waitsOk col_Write.T3.2 col_Write.B3 = true := by kernel_rfl
set_option maxHeartbeats 8000000 in
set_option maxRecDepth 100000 in
theorem col_Write.calls (k : Nat) (a0_0 : Int) (a0_1 : Int) (r1 : ByteArray) (r2 : Int) (w : World) (h : col_Write.f k a0_0 a0_1 = some (r1, r2)) :
  Calls Try.prog 59 #[.agg #[.int .u64 a0_0, .int .i64 a0_1]] w fun e w' => e = .returned (.tuple #[.string r1, .int .i64 r2]) ∧ Below w.heap.size w w' := by
 have hu42 := Try.underlying42
 have HB := Aside0.mk (Below.refl w.heap.size w)
 have H : ((col_time.f a0_0).bind fun t160 => (if t160 = true then (if a0_1 < 1 then (some ((⟨#[]⟩ : ByteArray), 2)) else (if a0_1 > 3 then (some ((⟨#[]⟩ : ByteArray), 2)) else ((some (([(a0_1) % 256] : List Int) : List Int)).bind fun y161 => ((num_Short.f k a0_0).bind fun t164 => (if (strOfNums y161).size + t164.size ≤ 9223372036854775807 then (some ((strOfNums y161) ++ t164, 0)) else (none)))))) else (some ((⟨#[]⟩ : ByteArray), 2)))) = some (r1, r2) := h
 clear h
 replace H := Option.bind_eq_some_iff.mp H
 obtain ⟨t160, A20, H⟩ := H
 try dsimp only at H
 have A2 := Aside0.mk A20
 clear A20
 by_cases c3 : t160 = true
 rotate_left
 ·replace c3 := Bool.eq_false_iff.mpr c3
  subst c3
  rw [if_neg ff_] at H
  simp only [Option.some.injEq, Prod.mk.injEq] at H
  obtain ⟨rfl, rfl⟩ := H
  go_enter Try.func59, Try.ntmps59
  go_wp2_with (first | ((with_reducible refine gate_dst (N := 1) rfl ?_); refine box_event ?hg (N := 1) ?hd (cs := #[.int .u64 a0_0, .int .i64 a0_1]) (t := 42) ?hr ?_; (case hd => rfl); (case hg => rfl); (case hr => first | (go_simp; done) | (go_simp; rfl)); intro gb159 hg w20 hbox hb; have BK159 := Aside0.mk (hbox); have GW159 := Aside0.mk ((by rw [hg]; exact (below_size hB_) : w.heap.size ≤ gb159)); have GE159 := Aside0.mk ((by rw [hg]; exact (below_size hB_) : w.heap.size ≤ gb159)); replace HB := Aside0.mk (below_step hB_ hb); clear hb hbox hg; have hcz21_0 : w20.cell? ⟨gb159, 0, none⟩ = some (.int .u64 a0_0) := (blk_cell BK159.out 0).trans rfl; have hcz21_1 : w20.cell? ⟨gb159, 1, none⟩ = some (.int .i64 a0_1) := (blk_cell BK159.out 1).trans rfl; have hfz21_0 := blk_frozen BK159.out 0; have hfz21_1 := blk_frozen BK159.out 1) | ((with_reducible refine gate_callee (f := 70) rfl ?_); refine goesL_ (some 6) rfl rfl Try.func70 r6_ rfl #[.int .u64 a0_0] rfl hA_ ?_; (with_reducible refine (col_time.calls a0_0 false _ A2.out).mono ?_); rintro e w' ⟨rfl, ⟨nd, rfl⟩⟩; refine ⟨_, rfl, ?_⟩))
  go_ret2
  exact ⟨rf_, r17_⟩
 subst c3
 rw [if_pos rfl] at H
 by_cases c4 : a0_1 < 1
 ·rw [if_pos c4] at H
  have c4b0 := decide_eq_true c4
  clear c4
  simp only [Option.some.injEq, Prod.mk.injEq] at H
  obtain ⟨rfl, rfl⟩ := H
  go_enter Try.func59, Try.ntmps59
  go_wp2_with (first | ((with_reducible refine gate_dst (N := 1) rfl ?_); refine box_event ?hg (N := 1) ?hd (cs := #[.int .u64 a0_0, .int .i64 a0_1]) (t := 42) ?hr ?_; (case hd => rfl); (case hg => rfl); (case hr => first | (go_simp; done) | (go_simp; rfl)); intro gb159 hg w5 hbox hb; have BK159 := Aside0.mk (hbox); have GW159 := Aside0.mk ((by rw [hg]; exact (below_size hB_) : w.heap.size ≤ gb159)); have GE159 := Aside0.mk ((by rw [hg]; exact (below_size hB_) : w.heap.size ≤ gb159)); replace HB := Aside0.mk (below_step hB_ hb); clear hb hbox hg; have hcz6_0 : w5.cell? ⟨gb159, 0, none⟩ = some (.int .u64 a0_0) := (blk_cell BK159.out 0).trans rfl; have hcz6_1 : w5.cell? ⟨gb159, 1, none⟩ = some (.int .i64 a0_1) := (blk_cell BK159.out 1).trans rfl; have hfz6_0 := blk_frozen BK159.out 0; have hfz6_1 := blk_frozen BK159.out 1) | ((with_reducible refine gate_callee (f := 70) rfl ?_); refine goesL_ (some 6) rfl rfl Try.func70 r6_ rfl #[.int .u64 a0_0] rfl hA_ ?_; (with_reducible refine (col_time.calls a0_0 true _ A2.out).mono ?_); rintro e w' ⟨rfl, ⟨nd, rfl⟩⟩; refine ⟨_, rfl, ?_⟩))
  go_ret2
  exact ⟨rf_, r17_⟩
 rw [if_neg c4] at H
 have c4b0 := decide_eq_false c4
 clear c4
 by_cases c7 : a0_1 > 3
 ·rw [if_pos c7] at H
  have c7b0 : decide (3 < a0_1) = true := decide_eq_true c7
  clear c7
  simp only [Option.some.injEq, Prod.mk.injEq] at H
  obtain ⟨rfl, rfl⟩ := H
  go_enter Try.func59, Try.ntmps59
  go_wp2_with (first | ((with_reducible refine gate_dst (N := 1) rfl ?_); refine box_event ?hg (N := 1) ?hd (cs := #[.int .u64 a0_0, .int .i64 a0_1]) (t := 42) ?hr ?_; (case hd => rfl); (case hg => rfl); (case hr => first | (go_simp; done) | (go_simp; rfl)); intro gb159 hg w8 hbox hb; have BK159 := Aside0.mk (hbox); have GW159 := Aside0.mk ((by rw [hg]; exact (below_size hB_) : w.heap.size ≤ gb159)); have GE159 := Aside0.mk ((by rw [hg]; exact (below_size hB_) : w.heap.size ≤ gb159)); replace HB := Aside0.mk (below_step hB_ hb); clear hb hbox hg; have hcz9_0 : w8.cell? ⟨gb159, 0, none⟩ = some (.int .u64 a0_0) := (blk_cell BK159.out 0).trans rfl; have hcz9_1 : w8.cell? ⟨gb159, 1, none⟩ = some (.int .i64 a0_1) := (blk_cell BK159.out 1).trans rfl; have hfz9_0 := blk_frozen BK159.out 0; have hfz9_1 := blk_frozen BK159.out 1) | ((with_reducible refine gate_callee (f := 70) rfl ?_); refine goesL_ (some 6) rfl rfl Try.func70 r6_ rfl #[.int .u64 a0_0] rfl hA_ ?_; (with_reducible refine (col_time.calls a0_0 true _ A2.out).mono ?_); rintro e w' ⟨rfl, ⟨nd, rfl⟩⟩; refine ⟨_, rfl, ?_⟩))
  go_ret2
  exact ⟨rf_, r17_⟩
 rw [if_neg c7] at H
 have c7b0 : decide (3 < a0_1) = false := decide_eq_false c7
 clear c7
 obtain ⟨y161, hy161⟩ : ∃ y_ : List Int, y_ = (([(a0_1) % 256] : List Int)) := ⟨_, rfl⟩
 replace H : ((num_Short.f k a0_0).bind fun t164 => (if (strOfNums y161).size + t164.size ≤ 9223372036854775807 then (some ((strOfNums y161) ++ t164, 0)) else (none))) = some (r1, r2) := by first | (rw [hy161]; with_reducible exact H) | (have H2_ := (Option.bind_some _ _).symm.trans H; rw [hy161]; with_reducible exact H2_) | (have H2_ := (Option.bind_some _ _).symm.trans H; with_reducible exact H2_) | with_reducible exact H | (rw [hy161]; exact H) | exact H
 have Ny161 := Aside0.mk hy161
 clear hy161
 replace H := Option.bind_eq_some_iff.mp H
 obtain ⟨t164, A100, H⟩ := H
 try dsimp only at H
 have A10 := Aside0.mk A100
 clear A100
 by_cases c11 : (strOfNums y161).size + t164.size ≤ 9223372036854775807
 rotate_left
 ·rw [if_neg c11] at H
  exact absurd H r34_
 rw [if_pos c11] at H
 have c11b0 := eq_true c11
 have c11b1 : decide ((strOfNums y161).size + t164.size ≤ 9223372036854775807) = true := decide_eq_true c11
 try have c11b2 : (9223372036854775807 < (strOfNums y161).size + t164.size) = False := eq_false (Nat.not_lt.2 c11)
 try (have c11b3 := c11b2; simp only [ByteArray.size_append] at c11b3)
 try (have c11b4 := c11b2; simp only [ByteArray.size_extract, ByteArray.size_append, Nat.sub_zero] at c11b4)
 simp only [Option.some.injEq, Prod.mk.injEq] at H
 obtain ⟨rfl, rfl⟩ := H
 go_enter Try.func59, Try.ntmps59
 try go_wp2_with (first | ((with_reducible refine gate_dst (N := 1) rfl ?_); refine box_event ?hg (N := 1) ?hd (cs := #[.int .u64 a0_0, .int .i64 a0_1]) (t := 42) ?hr ?_; (case hd => rfl); (case hg => rfl); (case hr => first | (go_simp; done) | (go_simp; rfl)); intro gb159 hg w12 hbox hb; have BK159 := Aside0.mk (hbox); have GW159 := Aside0.mk ((by rw [hg]; exact (below_size hB_) : w.heap.size ≤ gb159)); have GE159 := Aside0.mk ((by rw [hg]; exact (below_size hB_) : w.heap.size ≤ gb159)); replace HB := Aside0.mk (below_step hB_ hb); clear hb hbox hg; have hcz13_0 : w12.cell? ⟨gb159, 0, none⟩ = some (.int .u64 a0_0) := (blk_cell BK159.out 0).trans rfl; have hcz13_1 : w12.cell? ⟨gb159, 1, none⟩ = some (.int .i64 a0_1) := (blk_cell BK159.out 1).trans rfl; have hfz13_0 := blk_frozen BK159.out 0; have hfz13_1 := blk_frozen BK159.out 1) | ((with_reducible refine gate_callee (f := 70) rfl ?_); refine goesL_ (some 6) rfl rfl Try.func70 r6_ rfl #[.int .u64 a0_0] rfl hA_ ?_; (with_reducible refine (col_time.calls a0_0 true _ A2.out).mono ?_); rintro e w' ⟨rfl, ⟨nd, rfl⟩⟩; refine ⟨_, rfl, ?_⟩))
 (try (rw [drewN_self w12]; generalize hq_ : World.drewN w12 _ = w12; have n0_ : Aside0 (w12.heap[gb159]? = some (.cells #[.int .u64 a0_0, .int .i64 a0_1] 42 (0, 0))) := ⟨by rw [← hq_]; exact r33_⟩; have n1_ : Aside0 (Below w.heap.size w w12) := ⟨by rw [← hq_]; exact r17_⟩; clear BK159 HB hq_; have BK159 := n0_; have HB := n1_; clear n0_ n1_))
 replace BK159 := Aside0.mk (blk_drew BK159.out)
 replace HB := Aside0.mk (below_drew1 HB.out)
 refine start_ (n := 11) (S := fun w' => w'.cell? ⟨gb159, 0, none⟩ = some (.int .u64 a0_0) ∧ w'.cell? ⟨gb159, 1, none⟩ = some (.int .i64 a0_1)) (ds := []) #[N,N,N,N,N,N,N,N,N,N,N] r6_ rfl rfl ⟨(blk_cell BK159.out 0).trans rfl, (blk_cell BK159.out 1).trans rfl⟩ (fun hHeld => ?_); refine with_tabW col_Write.tab3 col_Write.bits3 (fun HT_ HW_ => ?_)
 generalize w12.drew = w14 at BK159 HB hHeld ⊢
 refine pure_ (i := 0) (N := some 18) (v := ?_) (a' := ?_) #[Y,N,N,N,N,N,N,N,N,N,N] rfl rfl (any_of HT_.out r6_) (fun _ _ _ h => h) (Or.inl ⟨by rfl, ?_⟩) ?_ ?_
 rotate_left
 ·intro w'
  go_simp
  with_reducible rfl
 rotate_left
 ·simp only [Act.put, sp_, i64_w, i32_w]
  rfl
 refine pure_ (i := 5) (N := some 23) (v := ?_) (a' := ?_) #[Y,N,N,N,N,Y,N,N,N,N,N] rfl rfl (any_of HT_.out r6_) (fun _ _ _ h => h) (Or.inl ⟨by rfl, ?_⟩) ?_ ?_
 rotate_left
 ·intro w'
  go_simp
  with_reducible rfl
 rotate_left
 ·simp only [Act.put, sp_, i64_w, i32_w]
  rfl
 refine take_ (i := 1) (N := some 19) (v := ?_) (a' := ?_) #[Y,Y,N,N,N,Y,N,N,N,N,N] rfl rfl (take_ofW HT_.out HW_.out r6_) (fun _ _ _ h => h) (Or.inl ⟨by rfl, ?_⟩) hHeld ?_ ?_
 rotate_left
 ·rintro w' ⟨s0, s1⟩
  go_simp
  with_reducible rfl
 rotate_left
 ·simp only [Act.put, sp_, i64_w, i32_w]
  rfl
 refine pure_ (i := 2) (N := some 20) (v := ?_) (a' := ?_) #[Y,Y,Y,N,N,Y,N,N,N,N,N] rfl rfl (any_of HT_.out r6_) (fun _ _ _ h => h) (Or.inl ⟨by rfl, ?_⟩) ?_ ?_
 rotate_left
 ·intro w'
  go_simp
  with_reducible rfl
 rotate_left
 ·simp only [Act.put, sp_, i64_w, i32_w]
  rfl
 refine take_ (i := 6) (N := some 24) (v := ?_) (a' := ?_) #[Y,Y,Y,N,N,Y,Y,N,N,N,N] rfl rfl (take_ofW HT_.out HW_.out r6_) (fun _ _ _ h => h) (Or.inl ⟨by rfl, ?_⟩) hHeld ?_ ?_
 rotate_left
 ·rintro w' ⟨s0, s1⟩
  go_simp
  with_reducible rfl
 rotate_left
 ·simp only [Act.put, sp_, i64_w, i32_w]
  rfl
 refine join_ (σ := Value) 3 #[Y,Y,Y,Y,Y,Y,Y,Y,N,N,N] (fun s_ => [(21, s_), (22, .string (strOfNums y161)), (25, .string t164)]) (fun s_ w' => (w'.cell? ⟨gb159, 0, none⟩ = some (.int .u64 a0_0) ∧ w'.cell? ⟨gb159, 1, none⟩ = some (.int .i64 a0_1)) ∧ (Kd.R (Kd.int .u8) 5 w' w.heap.size (fun _ => True) s_ y161) ∧ (w'.heap[gb159]? = some (.cells #[.int .u64 a0_0, .int .i64 a0_1] 42 (0, 0))) ∧ (Below w.heap.size w w')) ?_ ?_
 rotate_left
 ·intro hCont
  refine two_ (i := 3) (j := 7) (Ni := some 21) (Nj := some 25) #[Y,Y,Y,Y,N,Y,Y,N,N,N,N] #[Y,Y,Y,N,N,Y,Y,Y,N,N,N] rfl rfl rfl rfl (two_of HT_.out r6_) r44_ r44_ (fun K hK => ?_) (fun K hK => ?_)
  ·skip
   refine Kd.R_lit_step (Kd.int .u8) _ 5 ?hg (N := 21) ?hd (xs := ([(a0_1) % 256] : List Int)) (inner := [.int .u8 ((a0_1) % 256)]) (ok := fun _ => True) (okp := fun _ => True) ?hr ?hp (fun _ hk => hk) trivial (Below.refl _ _) (Nat.le_refl _) r34_ ?_; (case hd => rfl); (case hg => rfl); (case hr => first | (go_simp; done) | (go_simp; rfl)); (case hp => exact (Reps.one (show Kd.M (Kd.int .u8) _ _ _ ((a0_1) % 256) [.int .u8 ((a0_1) % 256)] from rfl) (Reps.none _ _)))
   intro v162 w15 ho16 hb hg_ hnew_
   clear hg_ hnew_
   (first | rw [← Ny161.out] at ho16 | (simp only [Int.reduceToNat] at ho16; rw [← Ny161.out] at ho16))
   have HO163 := Aside0.mk (Kd.R_lower ho16 (below_size r17_))
   replace BK159 := Aside0.mk (blk_below (g := gb159) (o := .cells #[.int .u64 a0_0, .int .i64 a0_1] 42 (0, 0)) r33_ hb)
   replace HB := Aside0.mk (below_step r17_ hb)
   clear hb ho16
   refine hK.out _ _ ⟨(blk_cell BK159.out 0).trans rfl, (blk_cell BK159.out 1).trans rfl⟩ (fun hHeld => ?_)
   clear hK K
   refine norm_ (a' := ?_) ?_ ?_
   rotate_left
   ·show Act.put _ (some 21) _ = _
    simp only [Act.put, sp_, i64_w, i32_w]
    rfl
   refine two_ (i := 4) (j := 7) (Ni := some 22) (Nj := some 25) #[Y,Y,Y,Y,Y,Y,Y,N,N,N,N] #[Y,Y,Y,Y,N,Y,Y,Y,N,N,N] rfl rfl rfl rfl (two_of HT_.out r6_) r44_ r44_ (fun K hK => ?_) (fun K hK => ?_)
   ·skip
    have hcv17 := own_string (P := Try.prog) Try.underlying96 Try.underlying5 Try.underlying9 (Kd.own_of_R HO163.out)
    refine value_ (w1 := ?_) (v := ?_) (by rfl) rfl ?_ ?_
    rotate_left 2
    ·go_simp
     constructor
     ·rfl
     ·rfl
    clear hcv17
    refine hK.out _ _ ⟨(blk_cell BK159.out 0).trans rfl, (blk_cell BK159.out 1).trans rfl⟩ (fun hHeld => ?_)
    clear hK K
    refine norm_ (a' := ?_) ?_ ?_
    rotate_left
    ·show Act.put _ (some 22) _ = _
     simp only [Act.put, sp_, i64_w, i32_w]
     rfl
    refine one_ (i := 7) (N := some 25) #[Y,Y,Y,Y,Y,Y,Y,Y,N,N,N] rfl rfl (one_of HT_.out r6_) r44_ (fun K hK => ?_)
    refine goes_ Try.func71 r6_ rfl #[.int .u64 a0_0] (by rfl) rfl rfl hA_ ?_
    with_reducible refine (num_Short.calls k a0_0 t164 _ A10.out).mono ?_
    rintro e w18 ⟨rfl, hb⟩
    refine ⟨_, rfl, ?_⟩
    replace HO163 := Aside0.mk (Kd.R_below r52_ hb)
    replace BK159 := Aside0.mk (blk_below (g := gb159) (o := .cells #[.int .u64 a0_0, .int .i64 a0_1] 42 (0, 0)) r33_ hb)
    replace HB := Aside0.mk (below_step r17_ hb)
    (try clear hb)
    (try clear hb2)
    (try clear hk)
    (try clear hi)
    (try clear A10)
    refine hK.out _ _ ⟨(blk_cell BK159.out 0).trans rfl, (blk_cell BK159.out 1).trans rfl⟩ (fun hHeld => ?_)
    clear hK K
    refine norm_ (a' := ?_) ?_ ?_
    rotate_left
    ·show Act.put _ (some 25) _ = _
     simp only [Act.put, sp_, i64_w, i32_w]
     rfl
    exact norm_ (by simp only [putAll, Act.put, sp_]) (hCont (v162) _ ⟨hHeld, r52_, r33_, r17_⟩)
   ·skip
    refine goes_ Try.func71 r6_ rfl #[.int .u64 a0_0] (by rfl) rfl rfl hA_ ?_
    with_reducible refine (num_Short.calls k a0_0 t164 _ A10.out).mono ?_
    rintro e w17 ⟨rfl, hb⟩
    refine ⟨_, rfl, ?_⟩
    replace HO163 := Aside0.mk (Kd.R_below r52_ hb)
    replace BK159 := Aside0.mk (blk_below (g := gb159) (o := .cells #[.int .u64 a0_0, .int .i64 a0_1] 42 (0, 0)) r33_ hb)
    replace HB := Aside0.mk (below_step r17_ hb)
    (try clear hb)
    (try clear hb2)
    (try clear hk)
    (try clear hi)
    (try clear A10)
    refine hK.out _ _ ⟨(blk_cell BK159.out 0).trans rfl, (blk_cell BK159.out 1).trans rfl⟩ (fun hHeld => ?_)
    clear hK K
    refine norm_ (a' := ?_) ?_ ?_
    rotate_left
    ·show Act.put _ (some 25) _ = _
     simp only [Act.put, sp_, i64_w, i32_w]
     rfl
    refine one_ (i := 4) (N := some 22) #[Y,Y,Y,Y,Y,Y,Y,Y,N,N,N] rfl rfl (one_of HT_.out r6_) r44_ (fun K hK => ?_)
    have hcv18 := own_string (P := Try.prog) Try.underlying96 Try.underlying5 Try.underlying9 (Kd.own_of_R HO163.out)
    refine value_ (w1 := ?_) (v := ?_) (by rfl) rfl ?_ ?_
    rotate_left 2
    ·go_simp
     constructor
     ·rfl
     ·rfl
    clear hcv18
    refine hK.out _ _ ⟨(blk_cell BK159.out 0).trans rfl, (blk_cell BK159.out 1).trans rfl⟩ (fun hHeld => ?_)
    clear hK K
    refine norm_ (a' := ?_) ?_ ?_
    rotate_left
    ·show Act.put _ (some 22) _ = _
     simp only [Act.put, sp_, i64_w, i32_w]
     rfl
    exact norm_ (by simp only [putAll, Act.put, sp_]) (hCont (v162) _ ⟨hHeld, r52_, r33_, r17_⟩)
  ·skip
   refine goes_ Try.func71 r6_ rfl #[.int .u64 a0_0] (by rfl) rfl rfl hA_ ?_
   with_reducible refine (num_Short.calls k a0_0 t164 _ A10.out).mono ?_
   rintro e w15 ⟨rfl, hb⟩
   refine ⟨_, rfl, ?_⟩
   replace BK159 := Aside0.mk (blk_below (g := gb159) (o := .cells #[.int .u64 a0_0, .int .i64 a0_1] 42 (0, 0)) r33_ hb)
   replace HB := Aside0.mk (below_step r17_ hb)
   (try clear hb)
   (try clear hb2)
   (try clear hk)
   (try clear hi)
   (try clear A10)
   refine hK.out _ _ ⟨(blk_cell BK159.out 0).trans rfl, (blk_cell BK159.out 1).trans rfl⟩ (fun hHeld => ?_)
   clear hK K
   refine norm_ (a' := ?_) ?_ ?_
   rotate_left
   ·show Act.put _ (some 25) _ = _
    simp only [Act.put, sp_, i64_w, i32_w]
    rfl
   refine one_ (i := 3) (N := some 21) #[Y,Y,Y,Y,N,Y,Y,Y,N,N,N] rfl rfl (one_of HT_.out r6_) r44_ (fun K hK => ?_)
   refine Kd.R_lit_step (Kd.int .u8) _ 5 ?hg (N := 21) ?hd (xs := ([(a0_1) % 256] : List Int)) (inner := [.int .u8 ((a0_1) % 256)]) (ok := fun _ => True) (okp := fun _ => True) ?hr ?hp (fun _ hk => hk) trivial (Below.refl _ _) (Nat.le_refl _) r34_ ?_; (case hd => rfl); (case hg => rfl); (case hr => first | (go_simp; done) | (go_simp; rfl)); (case hp => exact (Reps.one (show Kd.M (Kd.int .u8) _ _ _ ((a0_1) % 256) [.int .u8 ((a0_1) % 256)] from rfl) (Reps.none _ _)))
   intro v162 w16 ho17 hb hg_ hnew_
   clear hg_ hnew_
   (first | rw [← Ny161.out] at ho17 | (simp only [Int.reduceToNat] at ho17; rw [← Ny161.out] at ho17))
   have HO163 := Aside0.mk (Kd.R_lower ho17 (below_size r17_))
   replace BK159 := Aside0.mk (blk_below (g := gb159) (o := .cells #[.int .u64 a0_0, .int .i64 a0_1] 42 (0, 0)) r33_ hb)
   replace HB := Aside0.mk (below_step r17_ hb)
   clear hb ho17
   refine hK.out _ _ ⟨(blk_cell BK159.out 0).trans rfl, (blk_cell BK159.out 1).trans rfl⟩ (fun hHeld => ?_)
   clear hK K
   refine norm_ (a' := ?_) ?_ ?_
   rotate_left
   ·show Act.put _ (some 21) _ = _
    simp only [Act.put, sp_, i64_w, i32_w]
    rfl
   refine one_ (i := 4) (N := some 22) #[Y,Y,Y,Y,Y,Y,Y,Y,N,N,N] rfl rfl (one_of HT_.out r6_) r44_ (fun K hK => ?_)
   have hcv18 := own_string (P := Try.prog) Try.underlying96 Try.underlying5 Try.underlying9 (Kd.own_of_R HO163.out)
   refine value_ (w1 := ?_) (v := ?_) (by rfl) rfl ?_ ?_
   rotate_left 2
   ·go_simp
    constructor
    ·rfl
    ·rfl
   clear hcv18
   refine hK.out _ _ ⟨(blk_cell BK159.out 0).trans rfl, (blk_cell BK159.out 1).trans rfl⟩ (fun hHeld => ?_)
   clear hK K
   refine norm_ (a' := ?_) ?_ ?_
   rotate_left
   ·show Act.put _ (some 22) _ = _
    simp only [Act.put, sp_, i64_w, i32_w]
    rfl
   exact norm_ (by simp only [putAll, Act.put, sp_]) (hCont (v162) _ ⟨hHeld, r52_, r33_, r17_⟩)
 rintro v162 w19 ⟨hS_, h0_, h1_, h2_⟩
 have n0_ : Aside0 (Kd.R (Kd.int .u8) 5 w19 w.heap.size (fun _ => True) v162 y161) := ⟨h0_⟩
 have n1_ : Aside0 (w19.heap[gb159]? = some (.cells #[.int .u64 a0_0, .int .i64 a0_1] 42 (0, 0))) := ⟨h1_⟩
 have n2_ : Aside0 (Below w.heap.size w w19) := ⟨h2_⟩
 clear BK159
 clear HB
 clear h0_ h1_ h2_
 have HO163 := n0_
 have BK159 := n1_
 have HB := n2_
 clear n0_ n1_ n2_
 have hHeld : w19.cell? ⟨gb159, 0, none⟩ = some (.int .u64 a0_0) ∧ w19.cell? ⟨gb159, 1, none⟩ = some (.int .i64 a0_1) := hS_
 refine norm_ (a' := ?_) ?_ ?_
 rotate_left
 ·simp only [putAll, Act.put, sp_]
  rfl
 refine pure_ (i := 8) (N := some 26) (v := ?_) (a' := ?_) #[Y,Y,Y,Y,Y,Y,Y,Y,Y,N,N] rfl rfl (any_of HT_.out r6_) (fun _ _ _ h => h) (Or.inl ⟨by rfl, ?_⟩) ?_ ?_
 rotate_left
 ·intro w'
  go_simp
  with_reducible rfl
 rotate_left
 ·simp only [Act.put, sp_, i64_w, i32_w]
  rfl
 refine pure_ (i := 9) (N := some 2) (v := ?_) (a' := ?_) #[Y,Y,Y,Y,Y,Y,Y,Y,Y,Y,N] rfl rfl (any_of HT_.out r6_) (fun _ _ _ h => h) (Or.inl ⟨by rfl, ?_⟩) ?_ ?_
 rotate_left
 ·intro w'
  go_simp
  with_reducible rfl
 rotate_left
 ·simp only [Act.put, sp_, i64_w, i32_w]
  rfl
 refine pure_ (i := 10) (N := some 3) (v := ?_) (a' := ?_) #[Y,Y,Y,Y,Y,Y,Y,Y,Y,Y,Y] rfl rfl (any_of HT_.out r6_) (fun _ _ _ h => h) (Or.inl ⟨by rfl, ?_⟩) ?_ ?_
 rotate_left
 ·intro w'
  go_simp
  with_reducible rfl
 rotate_left
 ·simp only [Act.put, sp_, i64_w, i32_w]
  rfl
 refine done_ (done_of HT_.out r6_) ?_
 (try clear hHeld)
 (try clear c11b0); (try clear c11b1); (try clear c11b2); (try clear c11b3); (try clear c11b4); (try clear c11b5); (try clear c11b6)
 try go_wp2
 go_ret2
 exact ⟨rf_, r17_⟩

end Go.Proofs.Ytcdadhgcjkgnoaa.P
