-- Printed by a program of this session's own (wip/tools/pprint.sh, over the kit's print, with given contracts): not typed by hand.
import Derived.Test.YtcdadhgcjkgnoaaPx0
import Derived.Test.YtcdadhgcjkgnoaaPx2
import Derived.Test.YtcdadhgcjkgnoaaPx7
namespace Go.Proofs.Ytcdadhgcjkgnoaa.P
open Go.RowKit Go.Proofs.YtcdadhgcjkgnoaaW.PrintWords Go.Proofs.YtcdadhgcjkgnoaaW.PrintLast Go.Proofs.YtcdadhgcjkgnoaaW.PrintMore
set_option linter.unusedVariables false
set_option linter.unusedSimpArgs false
-- SQUEEZED3

/-! ### gc_Visible: function 16 -/
/-- What a record changes of the last write that was met (when it began, its kind; 0: none) and the data of the user's key. -/
def gc_Visible.nx (user : ByteArray) (t : Int) (value : ByteArray) (r : gc_read.R) (ok : Bool) (ls lk : Int) (M : List (Int × List UInt8)) : Int × Int × List (Int × List UInt8) :=
 if ok = false ∨ ¬ (r.us.toList = user.toList) then (ls, lk, M) else if r.cf = 3 then (ls, lk, (r.tm, value.data.toList) :: M) else if r.cf = 2 ∧ r.tm ≤ t ∧ ¬ r.wk = 3 ∧ lk = 0 then (r.ws, r.wk, M) else (ls, lk, M)
def gc_Visible.may (value : ByteArray) (r : gc_read.R) (M : List (Int × List UInt8)) : Prop :=
 (0 ≤ r.tm ∧ r.tm < 18446744073709551616) ∧ value.size ≤ 140737488351232 ∧ (0 ≤ r.ws ∧ r.ws < 18446744073709551616) ∧ M.length ≤ 1000000 ∧ True
instance gc_Visible.may_dec (value : ByteArray) (r : gc_read.R) (M : List (Int × List UInt8)) : Decidable (gc_Visible.may value r M) := by unfold gc_Visible.may; exact inferInstance
def gc_Visible.go (k : Nat) (user : ByteArray) (t : Int) : List (S47) → Int → Int → List (Int × List UInt8) → Option (Int × Int × List (Int × List UInt8))
 | [], ls, lk, M => some (ls, lk, M)
 | x :: l, ls, lk, M => (gc_read.f k x.f0 x.f3).bind fun o => if gc_Visible.may x.f3 o.1 M then gc_Visible.go k user t l (gc_Visible.nx user t x.f3 o.1 o.2 ls lk M).1 (gc_Visible.nx user t x.f3 o.1 o.2 ls lk M).2.1 (gc_Visible.nx user t x.f3 o.1 o.2 ls lk M).2.2 else none
theorem gc_Visible.go_mono (k : Nat) (user : ByteArray) (t : Int) : ∀ l ls lk M, LeO (gc_Visible.go k user t l ls lk M) (gc_Visible.go (k + 1) user t l ls lk M)
 | [], _, _, _ => LeO.refl _
 | x :: l, ls, lk, M => LeO.bind (gc_read.mono _ _ _) (fun _ => LeO.ite (gc_Visible.go_mono k user t l _ _ _) (LeO.refl _))
def gc_Visible.fin (ls lk : Int) (M : List (Int × List UInt8)) : ByteArray × Bool := if lk = 1 ∧ (Mp.tget M ls).isSome = true then (⟨((Mp.tget M ls).getD []).toArray⟩, true) else (⟨#[]⟩, false)
def gc_Visible.f (k : Nat) (l0 : List (S47)) (user : ByteArray) (t : Int) : Option (ByteArray × Bool) :=
 (gc_rises.f k l0).bind fun b => if b = false then some (⟨#[]⟩, false) else (gc_Visible.go k user t l0 0 0 []).bind fun o => if 0 ≤ o.1 ∧ o.1 < 18446744073709551616 then some (gc_Visible.fin o.1 o.2.1 o.2.2) else none
theorem gc_Visible.mono : ∀ l0 a1 a2 k, LeO (gc_Visible.f k l0 a1 a2) (gc_Visible.f (k + 1) l0 a1 a2) := by
 intro l0 a1 a2 k
 unfold gc_Visible.f
 exact LeO.bind (gc_rises.mono _ _) (fun _ => LeO.ite (LeO.refl _) (LeO.bind (gc_Visible.go_mono _ _ _ _ _ _ _) (fun _ => LeO.refl _)))
theorem gc_Visible.zeroS (w : World) : (zeroValue 9).run Try.prog w = .ok (.string ⟨#[]⟩) w := by kernel_rfl
set_option maxHeartbeats 6400000 in
set_option maxRecDepth 100000 in
theorem gc_Visible.calls (k : Nat) (A0 : Option Addr) (c0 : Nat) (l0 : List (S47)) (a1 : ByteArray) (a2 : Int) (r1 : ByteArray) (r2 : Bool) (w : World) (hr0 : Kd.C k47 w A0 l0.length l0) (hc0 : l0.length ≤ c0) (h : gc_Visible.f k l0 a1 a2 = some (r1, r2)) :
  Calls Try.prog 16 #[.slice A0 l0.length c0, .string a1, .int .u64 a2] w fun e w' => e = .returned (.tuple #[.string r1, .bool r2]) ∧ Below w.heap.size w w' := by
 have HR0 := Aside0.mk hr0
 have HC0 := Aside0.mk hc0
 have HMX := Lib.hid (Kd.C_max hr0)
 clear hr0 hc0
 unfold gc_Visible.f at h
 replace h := Option.bind_eq_some_iff.mp h
 obtain ⟨t, hT, h⟩ := h
 have HT := Lib.hid hT
 clear hT
 cases t with
 | false =>
  rw [if_pos rfl] at h
  simp only [Option.some.injEq, Prod.mk.injEq] at h
  obtain ⟨rfl, rfl⟩ := h
  go_enter Try.func16, Try.ntmps16
  go_wp2_with (go_at_call 28; (refine (gc_rises.calls k A0 c0 l0 false _ HR0.out HC0.out HT.out).mono ?_); rintro e w1 ⟨rfl, hb⟩; have HB := Aside0.mk hb.below; clear hb)
  go_ret2
  exact ⟨rfl, HB.out⟩
 | true =>
 rw [if_neg r34_] at h
 replace h := Option.bind_eq_some_iff.mp h
 obtain ⟨⟨lsf, lkf, Mf⟩, hG, h⟩ := h
 by_cases hls : 0 ≤ (lsf, lkf, Mf).1 ∧ (lsf, lkf, Mf).1 < 18446744073709551616
 case neg => rw [if_neg hls] at h; exact absurd h r34_
 rw [if_pos hls] at h
 have hfin : gc_Visible.fin lsf lkf Mf = (r1, r2) := Option.some.inj h
 clear h
 have HFIN := Lib.hid hfin
 have HG := Lib.hid hG
 have HLS : Hid (0 ≤ lsf ∧ lsf < 18446744073709551616) := Lib.hid hls
 clear hfin hG hls
 have hmm := @run_makeMap Try.prog
 go_enter Try.func16, Try.ntmps16
 go_wp2_with (go_at_call 28; (refine (gc_rises.calls k A0 c0 l0 true _ HR0.out HC0.out HT.out).mono ?_); rintro e w1 ⟨rfl, hb⟩; have HB1 := Aside0.mk hb.below; clear hb)
 have hL0 : ((w1.alloc (.cells #[.int .u64 0, .int .i64 0] 42)).alloc (.map #[] 0)).heap[w1.heap.size]? = some (.cells #[.int .u64 0, .int .i64 0] 42 (0, 0)) := blk_alloc (blk_new w1 _) _
 have hM0 : Mp.TMap Try.prog 23 9 ((w1.alloc (.cells #[.int .u64 0, .int .i64 0] 42)).alloc (.map #[] 0)) (w1.heap.size + 1) [] := by
  have := Mp.TMap.made Try.prog 23 9 (w1.alloc (.cells #[.int .u64 0, .int .i64 0] 42))
  rwa [World.size_alloc] at this
 have BL0 := Aside0.mk hL0
 have HM0 := Aside0.mk hM0
 have HB2 : Aside0 (Below w.heap.size w ((w1.alloc (.cells #[.int .u64 0, .int .i64 0] 42)).alloc (.map #[] 0))) := ⟨below_alloc (below_alloc HB1.out _) _⟩
 have HS1 := Lib.hid HB1.out.size
 clear hL0 hM0 HB1
 generalize ((w1.alloc (.cells #[.int .u64 0, .int .i64 0] 42)).alloc (.map #[] 0)) = w2 at BL0 HM0 HB2 ⊢
 obtain ⟨g8, hg8⟩ : ∃ g, w1.heap.size = g := ⟨_, rfl⟩
 obtain ⟨b, hb⟩ : ∃ g, w1.heap.size + 1 = g := ⟨_, rfl⟩
 have HGW : Hid (w.heap.size ≤ g8 ∧ w.heap.size ≤ b) := Lib.hid (by have := HS1.out; omega)
 have HGN : Hid (g8 ≠ b) := Lib.hid r37_
 have BL1 : Aside0 (w2.heap[g8]? = some (.cells #[.int .u64 0, .int .i64 0] 42 (0, 0))) := by rw [← hg8]; exact BL0
 have HM1 : Aside0 (Mp.TMap Try.prog 23 9 w2 b []) := by rw [← hb]; exact HM0
 clear BL0 HM0 HS1
 rw [hb, hg8]
 clear hb hg8
 go_loopg [22] l0.length (fun kq v22 w' => ∃ (i : Nat) (ls lk : Int) (M : List (Int × List UInt8)), v22 = .int .i64 (i : Int) ∧ Aside0 (kq + i = l0.length) ∧ Aside0 (gc_Visible.go k a1 a2 (l0.drop i) ls lk M = some (lsf, lkf, Mf)) ∧ Aside0 (Mp.TMap Try.prog 23 9 w' b M) ∧ Aside0 (w'.heap[g8]? = some (.cells #[.int .u64 ls, .int .i64 lk] 42 (0, 0))) ∧ Aside0 (Below w.heap.size w w'))
 case atStart => exact ⟨0, 0, 0, [], rfl, ⟨r37_⟩, ⟨HG.out⟩, HM1, BL1, HB2⟩
 case round =>
  clear HM1 BL1 HB2 HG HT
  obtain ⟨i, ls, lk, M, rfl, HI, HG, HM6, BL, HB⟩ := hrel
  by_cases hlt : i < l0.length
  rotate_left
  ·have hi : i = l0.length := by have := HI.out; omega
   have dl : decide ((i : Int) < (l0.length : Int)) = false := decide_eq_false r37_
   have hL : ls = lsf ∧ lk = lkf ∧ M = Mf := by
    have := HG.out
    rw [List.drop_eq_nil_of_le r37_] at this
    simpa [gc_Visible.go] using this
   obtain ⟨rfl, rfl, rfl⟩ := hL
   have l0_ : wr.cell? ⟨g8, 0, none⟩ = some (.int .u64 ls) := (blk_cell BL.out 0).trans rfl
   have l1_ : wr.cell? ⟨g8, 1, none⟩ = some (.int .i64 lk) := (blk_cell BL.out 1).trans rfl
   have hlk := Mp.TMap.look (x := ls) HM6.out Try.underlying23 Try.underlying60 Try.underlying9 (gc_Visible.zeroS wr) (Kt.wf64 HLS.out.1 HLS.out.2)
   have hf := HFIN.out
   unfold gc_Visible.fin at hf
   clear HG HI HFIN
   obtain ⟨q, hq⟩ : ∃ q, (Mp.tget M ls).isSome = q := ⟨_, rfl⟩
   obtain ⟨z, hz⟩ : ∃ z, (⟨((Mp.tget M ls).getD []).toArray⟩ : ByteArray) = z := ⟨_, rfl⟩
   rw [hq, hz] at hf hlk
   clear hq hz
   by_cases c1 : lk = 1
   rotate_left
   ·have e1 : (lk != 1) = true := bne_iff_ne.mpr c1
    rw [if_neg (fun z => c1 z.1)] at hf
    simp only [Prod.mk.injEq] at hf
    obtain ⟨rfl, rfl⟩ := hf
    go_wp2
    go_ret2
    exact ⟨rfl, HB.out⟩
   subst c1
   cases q with
   | true =>
    rw [if_pos ⟨rfl, rfl⟩] at hf
    simp only [Prod.mk.injEq] at hf
    obtain ⟨rfl, rfl⟩ := hf
    go_wp2
    go_ret2
    exact ⟨rfl, HB.out⟩
   | false =>
    rw [if_neg r34_] at hf
    simp only [Prod.mk.injEq] at hf
    obtain ⟨rfl, rfl⟩ := hf
    go_wp2
    go_ret2
    exact ⟨rfl, HB.out⟩
  have hkg : ∃ k1, gk = k1 + 1 := ⟨gk - 1, by have := HI.out; omega⟩
  obtain ⟨k1, rfl⟩ := hkg
  have hmx := HMX.out
  have dl : decide ((i : Int) < (l0.length : Int)) = true := decide_eq_true r37_
  have hdr : l0.drop i = rd_T47 l0 (i : Int) :: l0.drop (i + 1) := by
   rw [List.drop_eq_getElem_cons hlt]; simp [rd_T47, hlt]
  have hg := HG.out
  rw [hdr] at hg
  clear hdr HG
  unfold gc_Visible.go at hg
  obtain ⟨ad, ead, hx0, hx1, hx2, hx3⟩ := at_T47 HR0.out (i : Int) r37_ r37_
  subst ead
  have htn : ((i : Int)).toNat = i := by omega
  rw [htn] at hx0 hx1 hx2 hx3
  clear htn
  replace hx0 := (HB.out.cell (World.block_lt_of_cell? w _ hx0)).trans hx0
  replace hx1 := (HB.out.cell (World.block_lt_of_cell? w _ hx1)).trans hx1
  replace hx2 := (HB.out.cell (World.block_lt_of_cell? w _ hx2)).trans hx2
  replace hx3 := (HB.out.cell (World.block_lt_of_cell? w _ hx3)).trans hx3
  generalize rd_T47 l0 (i : Int) = y at hg hx0 hx1 hx2 hx3
  obtain ⟨y0, y1, y2, y3⟩ := y
  simp only at hg hx0 hx1 hx2 hx3
  replace hg := Option.bind_eq_some_iff.mp hg
  obtain ⟨⟨rr, ok⟩, hrd, hg⟩ := hg
  by_cases hmay : gc_Visible.may y3 rr M
  case neg => rw [if_neg hmay] at hg; exact absurd hg r34_
  rw [if_pos hmay] at hg
  have HRD := Lib.hid hrd
  have HGG := Lib.hid hg
  have HM := Lib.hid hmay
  clear hrd hg hmay
  obtain ⟨r0, r1, r2, r3, r4, r5, r6, r7, r8⟩ := rr
  go_wp2_with (fail)
  have HLT : Hid (b < wr.heap.size) := Lib.hid (Mp.TMap.lt HM6.out)
  have BX := Aside0.mk (blk_new wr (.cells #[.string y0, .int .u64 y1, .bool y2, .string y3] 47))
  replace HM6 := Aside0.mk (Mp.TMap.alloc HM6.out (.cells #[.string y0, .int .u64 y1, .bool y2, .string y3] 47))
  replace BL := Aside0.mk (blk_alloc BL.out (.cells #[.string y0, .int .u64 y1, .bool y2, .string y3] 47))
  replace HB := Aside0.mk (below_alloc HB.out (.cells #[.string y0, .int .u64 y1, .bool y2, .string y3] 47))
  clear hx0 hx1 hx2 hx3
  generalize (wr.alloc (.cells #[.string y0, .int .u64 y1, .bool y2, .string y3] 47)) = w4 at HM6 BL HB BX ⊢
  generalize wr.heap.size = g10 at HLT BX ⊢
  refine (gc_read.calls k y0 y1 y2 y3 ⟨r0, r1, r2, r3, r4, r5, r6, r7, r8⟩ ok _ HRD.out).mono ?_
  rintro e w5 ⟨rfl, hb⟩
  replace HM6 := Aside0.mk (Mp.TMap.below HM6.out hb)
  replace BL := Aside0.mk (blk_below BL.out hb)
  replace BX := Aside0.mk (blk_below BX.out hb)
  replace HB := Aside0.mk (below_step HB.out hb)
  clear hb HRD
  simp only [gc_read.R.cells]
  go_upto_region 9 with (fail)
  have HLU : Hid (b < w5.heap.size) := Lib.hid (Mp.TMap.lt HM6.out)
  have BR := Aside0.mk (blk_new w5 (.cells #[.int .i64 r0, .string r1, .int .u64 r2, .string r3, .int .u64 r4, .int .i64 r5, .int .u64 r6, .int .u64 r7, .int .i64 r8] 63))
  replace HM6 := Aside0.mk (Mp.TMap.alloc HM6.out (.cells #[.int .i64 r0, .string r1, .int .u64 r2, .string r3, .int .u64 r4, .int .i64 r5, .int .u64 r6, .int .u64 r7, .int .i64 r8] 63))
  replace BL := Aside0.mk (blk_alloc BL.out (.cells #[.int .i64 r0, .string r1, .int .u64 r2, .string r3, .int .u64 r4, .int .i64 r5, .int .u64 r6, .int .u64 r7, .int .i64 r8] 63))
  replace BX := Aside0.mk (blk_alloc BX.out (.cells #[.int .i64 r0, .string r1, .int .u64 r2, .string r3, .int .u64 r4, .int .i64 r5, .int .u64 r6, .int .u64 r7, .int .i64 r8] 63))
  replace HB := Aside0.mk (below_alloc HB.out (.cells #[.int .i64 r0, .string r1, .int .u64 r2, .string r3, .int .u64 r4, .int .i64 r5, .int .u64 r6, .int .u64 r7, .int .i64 r8] 63))
  generalize (w5.alloc (.cells #[.int .i64 r0, .string r1, .int .u64 r2, .string r3, .int .u64 r4, .int .i64 r5, .int .u64 r6, .int .u64 r7, .int .i64 r8] 63)) = w6 at HM6 BL HB BX BR ⊢
  generalize w5.heap.size = g11 at HLU BR ⊢
  have HNE : Hid (g10 ≠ b ∧ g11 ≠ b ∧ g8 ≠ b) := Lib.hid (by have := HLT.out; have := HLU.out; have := HGN.out; omega)
  clear HLT HLU
  cases ok with
  | false =>
   have s1_ : w6.cell? ⟨g11, 1, none⟩ = some (.string r1) := (blk_cell BR.out 1).trans rfl
   go_wp2
   go_roundg k1
   case measure => omega
   case rel => exact ⟨i + 1, ls, lk, M, by go_num, ⟨by have := HI.out; omega⟩, ⟨by have := HGG.out; simp only [gc_Visible.nx, Int.reduceEq, reduceIte, ne_eq, not_false_eq_true, not_true_eq_false, if_true, if_false, reduceCtorEq, ite_true, ite_false, false_or, true_or, or_true, or_false, true_and, and_true, false_and, and_false] at this; exact this⟩, HM6, BL, HB⟩
  | true =>
  by_cases cu : r1.toList = a1.toList
  case neg =>
   have eu : (r1.toList == a1.toList) = false := beq_eq_false_iff_ne.mpr cu
   have eu2 : (r1.toList != a1.toList) = true := bne_iff_ne.mpr cu
   have s1_ : w6.cell? ⟨g11, 1, none⟩ = some (.string r1) := (blk_cell BR.out 1).trans rfl
   go_wp2
   go_roundg k1
   case measure => omega
   case rel => exact ⟨i + 1, ls, lk, M, by go_num, ⟨by have := HI.out; omega⟩, ⟨by have := HGG.out; simp only [gc_Visible.nx, cu, Int.reduceEq, reduceIte, ne_eq, not_false_eq_true, not_true_eq_false, if_true, if_false, reduceCtorEq, ite_true, ite_false, false_or, true_or, or_true, or_false, true_and, and_true, false_and, and_false] at this; exact this⟩, HM6, BL, HB⟩
  have eu : (r1.toList == a1.toList) = true := beq_iff_eq.mpr cu
  have eu2 : (r1.toList != a1.toList) = false := bne_eq_false_iff_eq.mpr cu
  by_cases c3 : r0 = 3
  ·subst c3
   have s0_ : w6.cell? ⟨g11, 0, none⟩ = some (.int .i64 3) := (blk_cell BR.out 0).trans rfl
   have s1_ : w6.cell? ⟨g11, 1, none⟩ = some (.string r1) := (blk_cell BR.out 1).trans rfl
   have s2_ : w6.cell? ⟨g11, 2, none⟩ = some (.int .u64 r2) := (blk_cell BR.out 2).trans rfl
   have y3_ : w6.cell? ⟨g10, 3, none⟩ = some (.string y3) := (blk_cell BX.out 3).trans rfl
   obtain ⟨w7, hrun, hown, hg⟩ := Mp.TMap.put (x := r2) (v := y3) HM6.out Try.underlying23 Try.underlying60 Try.underlying9 (by have := HM.out.2.2.2.1; unfold maxLen; omega) (Kt.wf64 HM.out.1.1 HM.out.1.2) (by have := HM.out.2.1; unfold maxLen; omega)
   have HMn := Aside0.mk hown
   have BLn := Aside0.mk (blk_grown BL.out hg (fun e => HNE.out.2.2 (Option.some.inj e)))
   have HBn := Aside0.mk (HB.out.trans (Mp.grown_below hg HB.out.size HGW.out.2))
   clear hown hg
   go_wp2
   go_roundg k1
   case measure => omega
   case rel => exact ⟨i + 1, ls, lk, (r2, y3.data.toList) :: M, by go_num, ⟨by have := HI.out; omega⟩, ⟨by have := HGG.out; simp only [gc_Visible.nx, cu, Int.reduceEq, reduceIte, ne_eq, not_false_eq_true, not_true_eq_false, if_true, if_false, reduceCtorEq, ite_true, ite_false, false_or, true_or, or_true, or_false, true_and, and_true, false_and, and_false] at this; exact this⟩, HMn, BLn, HBn⟩
  have e3 : (r0 == 3) = false := beq_eq_false_iff_ne.mpr c3
  by_cases c2 : r0 = 2
  case neg =>
   have e2 : (r0 == 2) = false := beq_eq_false_iff_ne.mpr c2
   have s0_ : w6.cell? ⟨g11, 0, none⟩ = some (.int .i64 r0) := (blk_cell BR.out 0).trans rfl
   have s1_ : w6.cell? ⟨g11, 1, none⟩ = some (.string r1) := (blk_cell BR.out 1).trans rfl
   go_wp2
   go_roundg k1
   case measure => omega
   case rel => exact ⟨i + 1, ls, lk, M, by go_num, ⟨by have := HI.out; omega⟩, ⟨by have := HGG.out; simp only [gc_Visible.nx, cu, c3, c2, Int.reduceEq, reduceIte, ne_eq, not_false_eq_true, not_true_eq_false, if_true, if_false, reduceCtorEq, ite_true, ite_false, false_or, true_or, or_true, or_false, true_and, and_true, false_and, and_false] at this; exact this⟩, HM6, BL, HB⟩
  subst c2
  clear c3 e3
  by_cases ct : r2 ≤ a2
  case neg =>
   have et : decide (r2 ≤ a2) = false := decide_eq_false ct
   have s0_ : w6.cell? ⟨g11, 0, none⟩ = some (.int .i64 2) := (blk_cell BR.out 0).trans rfl
   have s1_ : w6.cell? ⟨g11, 1, none⟩ = some (.string r1) := (blk_cell BR.out 1).trans rfl
   have s2_ : w6.cell? ⟨g11, 2, none⟩ = some (.int .u64 r2) := (blk_cell BR.out 2).trans rfl
   go_wp2
   go_roundg k1
   case measure => omega
   case rel => exact ⟨i + 1, ls, lk, M, by go_num, ⟨by have := HI.out; omega⟩, ⟨by have := HGG.out; simp only [gc_Visible.nx, cu, if_neg (show ¬ (r2 ≤ a2 ∧ ¬ r8 = 3 ∧ lk = 0) from fun z => by have := z.1; omega), Int.reduceEq, reduceIte, ne_eq, not_false_eq_true, not_true_eq_false, if_true, if_false, reduceCtorEq, ite_true, ite_false, false_or, true_or, or_true, or_false, true_and, and_true, false_and, and_false] at this; exact this⟩, HM6, BL, HB⟩
  have et : decide (r2 ≤ a2) = true := decide_eq_true ct
  by_cases c8 : r8 = 3
  ·subst c8
   have s0_ : w6.cell? ⟨g11, 0, none⟩ = some (.int .i64 2) := (blk_cell BR.out 0).trans rfl
   have s1_ : w6.cell? ⟨g11, 1, none⟩ = some (.string r1) := (blk_cell BR.out 1).trans rfl
   have s2_ : w6.cell? ⟨g11, 2, none⟩ = some (.int .u64 r2) := (blk_cell BR.out 2).trans rfl
   have s8_ : w6.cell? ⟨g11, 8, none⟩ = some (.int .i64 3) := (blk_cell BR.out 8).trans rfl
   go_wp2
   go_roundg k1
   case measure => omega
   case rel => exact ⟨i + 1, ls, lk, M, by go_num, ⟨by have := HI.out; omega⟩, ⟨by have := HGG.out; simp only [gc_Visible.nx, cu, Int.reduceEq, reduceIte, ne_eq, not_false_eq_true, not_true_eq_false, if_true, if_false, reduceCtorEq, ite_true, ite_false, false_or, true_or, or_true, or_false, true_and, and_true, false_and, and_false] at this; exact this⟩, HM6, BL, HB⟩
  have e8 : (r8 != 3) = true := bne_iff_ne.mpr c8
  have l1_ : w6.cell? ⟨g8, 1, none⟩ = some (.int .i64 lk) := (blk_cell BL.out 1).trans rfl
  by_cases cl : lk = 0
  case neg =>
   have el : (lk == 0) = false := beq_eq_false_iff_ne.mpr cl
   have s0_ : w6.cell? ⟨g11, 0, none⟩ = some (.int .i64 2) := (blk_cell BR.out 0).trans rfl
   have s1_ : w6.cell? ⟨g11, 1, none⟩ = some (.string r1) := (blk_cell BR.out 1).trans rfl
   have s2_ : w6.cell? ⟨g11, 2, none⟩ = some (.int .u64 r2) := (blk_cell BR.out 2).trans rfl
   have s8_ : w6.cell? ⟨g11, 8, none⟩ = some (.int .i64 r8) := (blk_cell BR.out 8).trans rfl
   go_wp2
   go_roundg k1
   case measure => omega
   case rel => exact ⟨i + 1, ls, lk, M, by go_num, ⟨by have := HI.out; omega⟩, ⟨by have := HGG.out; simp only [gc_Visible.nx, cu, cl, Int.reduceEq, reduceIte, ne_eq, not_false_eq_true, not_true_eq_false, if_true, if_false, reduceCtorEq, ite_true, ite_false, false_or, true_or, or_true, or_false, true_and, and_true, false_and, and_false] at this; exact this⟩, HM6, BL, HB⟩
  subst cl
  have s0_ : w6.cell? ⟨g11, 0, none⟩ = some (.int .i64 2) := (blk_cell BR.out 0).trans rfl
  have s1_ : w6.cell? ⟨g11, 1, none⟩ = some (.string r1) := (blk_cell BR.out 1).trans rfl
  have s2_ : w6.cell? ⟨g11, 2, none⟩ = some (.int .u64 r2) := (blk_cell BR.out 2).trans rfl
  have s7_ : w6.cell? ⟨g11, 7, none⟩ = some (.int .u64 r7) := (blk_cell BR.out 7).trans rfl
  have s8_ : w6.cell? ⟨g11, 8, none⟩ = some (.int .i64 r8) := (blk_cell BR.out 8).trans rfl
  have l0_ : w6.cell? ⟨g8, 0, none⟩ = some (.int .u64 ls) := (blk_cell BL.out 0).trans rfl
  have fl0_ := blk_frozen BL.out 0
  have fl1_ := blk_frozen BL.out 1
  have BLn := Aside0.mk (blk_put (cs' := #[.int .u64 r7, .int .i64 r8]) (blk_put (cs' := #[.int .u64 r7, .int .i64 0]) BL.out 0 (.int .u64 r7) rfl) 1 (.int .i64 r8) rfl)
  have HMn := Aside0.mk (Mp.TMap.far (p := ⟨g8, 1, none⟩) (Mp.TMap.far (p := ⟨g8, 0, none⟩) HM6.out (Ne.symm HNE.out.2.2) (.int .u64 r7)) (Ne.symm HNE.out.2.2) (.int .i64 r8))
  have HBn := Aside0.mk ((HB.out.setCell (p := ⟨g8, 0, none⟩) HGW.out.1 (.int .u64 r7)).setCell (p := ⟨g8, 1, none⟩) HGW.out.1 (.int .i64 r8))
  go_wp2
  go_roundg k1
  case measure => omega
  case rel => exact ⟨i + 1, r7, r8, M, by go_num, ⟨by have := HI.out; omega⟩, ⟨by have := HGG.out; simp only [gc_Visible.nx, cu, ct, c8, Int.reduceEq, reduceIte, ne_eq, not_false_eq_true, not_true_eq_false, if_true, if_false, reduceCtorEq, ite_true, ite_false, false_or, true_or, or_true, or_false, true_and, and_true, false_and, and_false] at this; exact this⟩, HMn, BLn, HBn⟩

/-! ### gc_Counts: function 18 -/
def gc_Counts.go (k : Nat) : List (S47) → Int → Int → Int → Option (Int × Int × Int)
 | [], a, b, c => some (a, b, c)
 | x :: l, a, b, c => (gc_read.f k x.f0 x.f3).bind fun o => if 0 ≤ a ∧ 0 ≤ b ∧ 0 ≤ c ∧ a ≤ 1000000 ∧ b ≤ 1000000 ∧ c ≤ 1000000 then (if o.2 = false then gc_Counts.go k l a b c else if o.1.cf = 1 then gc_Counts.go k l (a + 1) b c else if o.1.cf = 2 then gc_Counts.go k l a (b + 1) c else if o.1.cf = 3 then gc_Counts.go k l a b (c + 1) else none) else none
theorem gc_Counts.go_mono (k : Nat) : ∀ l a b c, LeO (gc_Counts.go k l a b c) (gc_Counts.go (k + 1) l a b c)
 | [], _, _, _ => LeO.refl _
 | x :: l, a, b, c => LeO.bind (gc_read.mono _ _ _) (fun _ => LeO.ite (LeO.ite (gc_Counts.go_mono k l _ _ _) (LeO.ite (gc_Counts.go_mono k l _ _ _) (LeO.ite (gc_Counts.go_mono k l _ _ _) (LeO.ite (gc_Counts.go_mono k l _ _ _) (LeO.refl _))))) (LeO.refl _))
def gc_Counts.f (k : Nat) (l0 : List (S47)) : Option (Int × Int × Int) := gc_Counts.go k l0 0 0 0
theorem gc_Counts.mono : ∀ l0 k, LeO (gc_Counts.f k l0) (gc_Counts.f (k + 1) l0) := fun l0 k => gc_Counts.go_mono k l0 0 0 0
set_option maxHeartbeats 6400000 in
set_option maxRecDepth 100000 in
theorem gc_Counts.calls (k : Nat) (A0 : Option Addr) (c0 : Nat) (l0 : List (S47)) (r1 : Int) (r2 : Int) (r3 : Int) (w : World) (hr0 : Kd.C k47 w A0 l0.length l0) (hc0 : l0.length ≤ c0) (h : gc_Counts.f k l0 = some (r1, r2, r3)) :
  Calls Try.prog 18 #[.slice A0 l0.length c0] w fun e w' => e = .returned (.tuple #[.int .i64 r1, .int .i64 r2, .int .i64 r3]) ∧ Below w.heap.size w w' := by
 have HR0 := Aside0.mk hr0
 have HMX := Lib.hid (Kd.C_max hr0)
 clear hr0 hc0
 have HG : Hid (gc_Counts.go k l0 0 0 0 = some (r1, r2, r3)) := Lib.hid h
 clear h
 go_enter Try.func18, Try.ntmps18
 go_wp2_with (fail)
 have BA0 := Aside0.mk (blk_new w (.cells #[.int .i64 0, .int .i64 0, .int .i64 0, .int .i64 0, .int .i64 0] 66))
 have HB0 := Aside0.mk (below_alloc (Below.refl w.heap.size w) (.cells #[.int .i64 0, .int .i64 0, .int .i64 0, .int .i64 0, .int .i64 0] 66))
 generalize hw1 : w.alloc (.cells #[.int .i64 0, .int .i64 0, .int .i64 0, .int .i64 0, .int .i64 0] 66) = w1 at BA0 HB0 ⊢
 clear hw1
 obtain ⟨g5, hg5⟩ : ∃ g, w.heap.size = g := ⟨_, rfl⟩
 have HG5 : Hid (w.heap.size ≤ g5) := Lib.hid r37_
 have BA : Aside0 (w1.heap[g5]? = some (.cells #[.int .i64 0, .int .i64 0, .int .i64 0, .int .i64 0, .int .i64 0] 66 (0, 0))) := by rw [← hg5]; exact BA0
 clear BA0
 rw [hg5]
 clear hg5
 go_loopg [12] l0.length (fun kq v12 w' => ∃ (i : Nat) (a b c : Int), v12 = .int .i64 (i : Int) ∧ Aside0 (kq + i = l0.length) ∧ Aside0 (gc_Counts.go k (l0.drop i) a b c = some (r1, r2, r3)) ∧ Aside0 (w'.heap[g5]? = some (.cells #[.int .i64 0, .int .i64 a, .int .i64 b, .int .i64 c, .int .i64 0] 66 (0, 0))) ∧ Aside0 (Below w.heap.size w w'))
 case atStart => exact ⟨0, 0, 0, 0, rfl, ⟨r37_⟩, ⟨HG.out⟩, BA, HB0⟩
 case round =>
  clear BA HB0 HG
  obtain ⟨i, a, b, c, rfl, HI, HG, BA, HB⟩ := hrel
  by_cases hlt : i < l0.length
  rotate_left
  ·have hi : i = l0.length := by have := HI.out; omega
   have dl : decide ((i : Int) < (l0.length : Int)) = false := decide_eq_false r37_
   have hL : a = r1 ∧ b = r2 ∧ c = r3 := by
    have := HG.out
    rw [List.drop_eq_nil_of_le r37_] at this
    simpa [gc_Counts.go] using this
   obtain ⟨rfl, rfl, rfl⟩ := hL
   have a1_ : wr.cell? ⟨g5, 1, none⟩ = some (.int .i64 a) := (blk_cell BA.out 1).trans rfl
   have a2_ : wr.cell? ⟨g5, 2, none⟩ = some (.int .i64 b) := (blk_cell BA.out 2).trans rfl
   have a3_ : wr.cell? ⟨g5, 3, none⟩ = some (.int .i64 c) := (blk_cell BA.out 3).trans rfl
   clear HG HI
   go_wp2
   go_region
   go_wp2
   go_ret3
   exact ⟨rfl, below_drew1 HB.out⟩
  have hkg : ∃ k1, gk = k1 + 1 := ⟨gk - 1, by have := HI.out; omega⟩
  obtain ⟨k1, rfl⟩ := hkg
  have hmx := HMX.out
  have dl : decide ((i : Int) < (l0.length : Int)) = true := decide_eq_true r37_
  have hdr : l0.drop i = rd_T47 l0 (i : Int) :: l0.drop (i + 1) := by
   rw [List.drop_eq_getElem_cons hlt]; simp [rd_T47, hlt]
  have hg := HG.out
  rw [hdr] at hg
  clear hdr HG
  unfold gc_Counts.go at hg
  obtain ⟨ad, ead, hx0, hx1, hx2, hx3⟩ := at_T47 HR0.out (i : Int) r37_ r37_
  subst ead
  have htn : ((i : Int)).toNat = i := by omega
  rw [htn] at hx0 hx1 hx2 hx3
  clear htn
  replace hx0 := (HB.out.cell (World.block_lt_of_cell? w _ hx0)).trans hx0
  replace hx1 := (HB.out.cell (World.block_lt_of_cell? w _ hx1)).trans hx1
  replace hx2 := (HB.out.cell (World.block_lt_of_cell? w _ hx2)).trans hx2
  replace hx3 := (HB.out.cell (World.block_lt_of_cell? w _ hx3)).trans hx3
  generalize rd_T47 l0 (i : Int) = y at hg hx0 hx1 hx2 hx3
  obtain ⟨y0, y1, y2, y3⟩ := y
  simp only at hg hx0 hx1 hx2 hx3
  replace hg := Option.bind_eq_some_iff.mp hg
  obtain ⟨⟨rr, ok⟩, hrd, hg⟩ := hg
  by_cases hmay : 0 ≤ a ∧ 0 ≤ b ∧ 0 ≤ c ∧ a ≤ 1000000 ∧ b ≤ 1000000 ∧ c ≤ 1000000
  case neg => rw [if_neg hmay] at hg; exact absurd hg r34_
  rw [if_pos hmay] at hg
  have HRD := Lib.hid hrd
  clear hrd
  obtain ⟨r0, r1', r2', r3', r4, r5, r6, r7, r8⟩ := rr
  simp only at hg
  have HGG := Lib.hid hg
  clear hg
  go_wp2_with (fail)
  replace BA := Aside0.mk (blk_alloc BA.out (.cells #[.string y0, .int .u64 y1, .bool y2, .string y3] 47))
  replace HB := Aside0.mk (below_alloc HB.out (.cells #[.string y0, .int .u64 y1, .bool y2, .string y3] 47))
  clear hx0 hx1 hx2 hx3
  generalize (wr.alloc (.cells #[.string y0, .int .u64 y1, .bool y2, .string y3] 47)) = w4 at BA HB ⊢
  refine (gc_read.calls k y0 y1 y2 y3 ⟨r0, r1', r2', r3', r4, r5, r6, r7, r8⟩ ok _ HRD.out).mono ?_
  rintro e w5 ⟨rfl, hb⟩
  replace BA := Aside0.mk (blk_below BA.out hb)
  replace HB := Aside0.mk (below_step HB.out hb)
  clear hb HRD
  simp only [gc_read.R.cells]
  go_upto_region 6 with (fail)
  have BR := Aside0.mk (blk_new w5 (.cells #[.int .i64 r0, .string r1', .int .u64 r2', .string r3', .int .u64 r4, .int .i64 r5, .int .u64 r6, .int .u64 r7, .int .i64 r8] 63))
  replace BA := Aside0.mk (blk_alloc BA.out (.cells #[.int .i64 r0, .string r1', .int .u64 r2', .string r3', .int .u64 r4, .int .i64 r5, .int .u64 r6, .int .u64 r7, .int .i64 r8] 63))
  replace HB := Aside0.mk (below_alloc HB.out (.cells #[.int .i64 r0, .string r1', .int .u64 r2', .string r3', .int .u64 r4, .int .i64 r5, .int .u64 r6, .int .u64 r7, .int .i64 r8] 63))
  generalize (w5.alloc (.cells #[.int .i64 r0, .string r1', .int .u64 r2', .string r3', .int .u64 r4, .int .i64 r5, .int .u64 r6, .int .u64 r7, .int .i64 r8] 63)) = w6 at BA HB BR ⊢
  generalize w5.heap.size = g11 at BR ⊢
  cases ok with
  | false =>
   go_wp2
   go_roundg k1
   case measure => omega
   case rel => exact ⟨i + 1, a, b, c, by go_num, ⟨by have := HI.out; omega⟩, ⟨by have := HGG.out; simp only [Int.reduceEq, reduceIte, ne_eq, not_false_eq_true, not_true_eq_false, if_true, if_false, reduceCtorEq, ite_true, ite_false] at this; exact this⟩, BA, HB⟩
  | true =>
  by_cases c1 : r0 = 1
  ·subst c1
   have s0_ : w6.cell? ⟨g11, 0, none⟩ = some (.int .i64 1) := (blk_cell BR.out 0).trans rfl
   have a1_ : w6.cell? ⟨g5, 1, none⟩ = some (.int .i64 a) := (blk_cell BA.out 1).trans rfl
   have fa1_ := blk_frozen BA.out 1
   have BAn := Aside0.mk (blk_put (cs' := #[.int .i64 0, .int .i64 (a + 1), .int .i64 b, .int .i64 c, .int .i64 0]) BA.out 1 (.int .i64 (a + 1)) rfl)
   have HBn := Aside0.mk (HB.out.setCell (p := ⟨g5, 1, none⟩) HG5.out (.int .i64 (a + 1)))
   go_wp2
   go_roundg k1
   case measure => omega
   case rel => exact ⟨i + 1, (a + 1), b, c, by go_num, ⟨by have := HI.out; omega⟩, ⟨by have := HGG.out; simp only [Int.reduceEq, reduceIte, ne_eq, not_false_eq_true, not_true_eq_false, if_true, if_false, reduceCtorEq, ite_true, ite_false] at this; exact this⟩, BAn, HBn⟩
  by_cases c2 : r0 = 2
  ·subst c2
   have s0_ : w6.cell? ⟨g11, 0, none⟩ = some (.int .i64 2) := (blk_cell BR.out 0).trans rfl
   have a2_ : w6.cell? ⟨g5, 2, none⟩ = some (.int .i64 b) := (blk_cell BA.out 2).trans rfl
   have fa2_ := blk_frozen BA.out 2
   have BAn := Aside0.mk (blk_put (cs' := #[.int .i64 0, .int .i64 a, .int .i64 (b + 1), .int .i64 c, .int .i64 0]) BA.out 2 (.int .i64 (b + 1)) rfl)
   have HBn := Aside0.mk (HB.out.setCell (p := ⟨g5, 2, none⟩) HG5.out (.int .i64 (b + 1)))
   go_wp2
   go_roundg k1
   case measure => omega
   case rel => exact ⟨i + 1, a, (b + 1), c, by go_num, ⟨by have := HI.out; omega⟩, ⟨by have := HGG.out; simp only [Int.reduceEq, reduceIte, ne_eq, not_false_eq_true, not_true_eq_false, if_true, if_false, reduceCtorEq, ite_true, ite_false] at this; exact this⟩, BAn, HBn⟩
  by_cases c3 : r0 = 3
  ·subst c3
   have s0_ : w6.cell? ⟨g11, 0, none⟩ = some (.int .i64 3) := (blk_cell BR.out 0).trans rfl
   have a3_ : w6.cell? ⟨g5, 3, none⟩ = some (.int .i64 c) := (blk_cell BA.out 3).trans rfl
   have fa3_ := blk_frozen BA.out 3
   have BAn := Aside0.mk (blk_put (cs' := #[.int .i64 0, .int .i64 a, .int .i64 b, .int .i64 (c + 1), .int .i64 0]) BA.out 3 (.int .i64 (c + 1)) rfl)
   have HBn := Aside0.mk (HB.out.setCell (p := ⟨g5, 3, none⟩) HG5.out (.int .i64 (c + 1)))
   go_wp2
   go_roundg k1
   case measure => omega
   case rel => exact ⟨i + 1, a, b, (c + 1), by go_num, ⟨by have := HI.out; omega⟩, ⟨by have := HGG.out; simp only [Int.reduceEq, reduceIte, ne_eq, not_false_eq_true, not_true_eq_false, if_true, if_false, reduceCtorEq, ite_true, ite_false] at this; exact this⟩, BAn, HBn⟩
  exfalso
  have := HGG.out
  rw [if_neg r34_, if_neg c1, if_neg c2, if_neg c3] at this
  simp at this

/-! ### screeref02_May: function 62 -/
def screeref02_May.f (a0 : ByteArray) : Option (Bool) := if (a0.size : Int) ≥ 1 then (some (decide ((a0.size : Int) ≤ 24))) else (some false)
set_option maxHeartbeats 8000000 in
set_option maxRecDepth 100000 in
theorem screeref02_May.calls (a0 : ByteArray) (r : Bool) (w : World) (h : screeref02_May.f a0 = some r) :
  Calls Try.prog 62 #[.string a0] w fun e w' => e = .returned (.bool r) ∧ Drawn0 w w' := by
 have H : (if (a0.size : Int) ≥ 1 then (some (decide ((a0.size : Int) ≤ 24))) else (some false)) = some r := h
 clear h
 by_cases c2 : (a0.size : Int) ≥ 1
 ·rw [if_pos c2] at H
  have c2b0 : decide (1 ≤ (a0.size : Int)) = true := decide_eq_true c2
  have c2b1 : decide (1 ≤ a0.size) = true := decide_eq_true r37_
  clear c2
  obtain rfl := Option.some.inj H
  go_enter Try.func62, Try.ntmps62
  go_wp2
  go_ret
  exact ⟨rs_, dR_⟩
 rw [if_neg c2] at H
 have c2b0 : decide (1 ≤ (a0.size : Int)) = false := decide_eq_false c2
 have c2b1 : decide (1 ≤ a0.size) = false := decide_eq_false r37_
 clear c2
 obtain rfl := Option.some.inj H
 go_enter Try.func62, Try.ntmps62
 go_wp2
 go_ret
 exact ⟨rs_, dR_⟩

/-! ### screeref02_Escape: function 45 -/
def screeref02_Escape.l0 : Nat → ByteArray → List Int → Int → Option (ByteArray × Int)
 | 0, _, _, _ => none
 | k + 1, x0, x4, x5 => if x5 < (x0.size : Int) then (if 0 ≤ x5 then (if x4.length < 140737488355328 then ((some (x4 ++ [bt x0 x5] : List Int)).bind fun y192 => (if (bt x0 x5) = 0 then (if y192.length < 140737488355328 then (screeref02_Escape.l0 k x0 (y192 ++ [255]) (wrap64 (x5 + 1))) else (none)) else (screeref02_Escape.l0 k x0 y192 (wrap64 (x5 + 1))))) else (none)) else (none)) else ((some (([0, 1] : List Int) : List Int)).bind fun y198 => (if x4.length + y198.length < 140737488355328 then (some (strOfNums (x4 ++ y198), 0)) else (none)))
def screeref02_Escape.f (k : Nat) (a0 : ByteArray) : Option (ByteArray × Int) := (screeref02_May.f a0).bind fun t188 => (if t188 = true then (screeref02_Escape.l0 k a0 (([] : List Int)) 0) else (some ((⟨#[]⟩ : ByteArray), 20)))
theorem screeref02_Escape.mono_l : ∀ k, (∀ y0 y1 y2, LeO (screeref02_Escape.l0 k y0 y1 y2) (screeref02_Escape.l0 (k + 1) y0 y1 y2))
 | 0 => fun _ _ _ r h => by simp [screeref02_Escape.l0] at h
 | k + 1 => by
  have ih0 := screeref02_Escape.mono_l k
  ·intro y0 y1 y2
   unfold screeref02_Escape.l0
   repeat' first
   | (with_reducible exact ih0 _ _ _)
   | (with_reducible exact LeO.refl _)
   | (with_reducible exact LeO.none _)
   | (with_reducible refine LeO.ite ?_ ?_)
   | (with_reducible refine LeO.bind ?_ (fun _ => ?_))
   | exact ih0 _ _ _
   | exact LeO.none _
   | refine LeO.ite ?_ ?_
   | refine LeO.bind ?_ (fun _ => ?_)
theorem screeref02_Escape.mono : ∀ a0 k, LeO (screeref02_Escape.f k a0) (screeref02_Escape.f (k + 1) a0) := by
 intro a0 k
 have ih0 := screeref02_Escape.mono_l k
 unfold screeref02_Escape.f
 repeat' first
   | (with_reducible exact ih0 _ _ _)
   | (with_reducible exact LeO.refl _)
   | (with_reducible exact LeO.none _)
   | (with_reducible refine LeO.ite ?_ ?_)
   | (with_reducible refine LeO.bind ?_ (fun _ => ?_))
   | exact ih0 _ _ _
   | exact LeO.none _
   | refine LeO.ite ?_ ?_
   | refine LeO.bind ?_ (fun _ => ?_)
set_option maxHeartbeats 8000000 in
set_option maxRecDepth 100000 in
theorem screeref02_Escape.calls (k : Nat) (a0 : ByteArray) (r1 : ByteArray) (r2 : Int) (w : World) (h : screeref02_Escape.f k a0 = some (r1, r2)) :
  Calls Try.prog 45 #[.string a0] w fun e w' => e = .returned (.tuple #[.string r1, .int .i64 r2]) ∧ Below w.heap.size w w' := by
 have HB := Aside0.mk (Below.refl w.heap.size w)
 have H : ((screeref02_May.f a0).bind fun t188 => (if t188 = true then (screeref02_Escape.l0 k a0 (([] : List Int)) 0) else (some ((⟨#[]⟩ : ByteArray), 20)))) = some (r1, r2) := h
 clear h
 replace H := Option.bind_eq_some_iff.mp H
 obtain ⟨t188, A20, H⟩ := H
 try dsimp only at H
 have A2 := Aside0.mk A20
 clear A20
 by_cases c3 : t188 = true
 rotate_left
 ·replace c3 := Bool.eq_false_iff.mpr c3
  subst c3
  rw [if_neg ff_] at H
  simp only [Option.some.injEq, Prod.mk.injEq] at H
  obtain ⟨rfl, rfl⟩ := H
  go_enter Try.func45, Try.ntmps45
  go_wp2_with (first | ((with_reducible refine gate_callee (f := 62) rfl ?_); refine goesL_ (some 7) rfl rfl Try.func62 r6_ rfl #[.string a0] rfl hA_ ?_; (with_reducible refine (screeref02_May.calls a0 false _ A2.out).mono ?_); rintro e w' ⟨rfl, ⟨nd, rfl⟩⟩; refine ⟨_, rfl, ?_⟩))
  go_ret2
  exact ⟨rf_, hB_⟩
 subst c3
 rw [if_pos rfl] at H
 obtain ⟨y189, hy189⟩ : ∃ y_ : List Int, y_ = (([] : List Int)) := ⟨_, rfl⟩
 replace H : (screeref02_Escape.l0 k a0 y189 0) = some (r1, r2) := by first | (rw [hy189]; with_reducible exact H) | (have H2_ := (Option.bind_some _ _).symm.trans H; rw [hy189]; with_reducible exact H2_) | (have H2_ := (Option.bind_some _ _).symm.trans H; with_reducible exact H2_) | with_reducible exact H | (rw [hy189]; exact H) | exact H
 have Ny189 := Aside0.mk hy189
 clear hy189
 have H' := Aside0.mk H
 clear H
 go_enter Try.func45, Try.ntmps45
 go_wp2_with (first | ((with_reducible refine gate_callee (f := 62) rfl ?_); refine goesL_ (some 7) rfl rfl Try.func62 r6_ rfl #[.string a0] rfl hA_ ?_; (with_reducible refine (screeref02_May.calls a0 true _ A2.out).mono ?_); rintro e w' ⟨rfl, ⟨nd, rfl⟩⟩; refine ⟨_, rfl, ?_⟩) | ((with_reducible refine gate_dst (N := 9) rfl ?_); refine Kd.R_lit (Kd.int .u8) _ 5 ?hg (N := 9) ?hd (xs := ([] : List Int)) (inner := []) (ok := fun _ => True) (okp := fun _ => True) ?hr ?hp (fun _ hk => hk) trivial (Below.refl _ _) (Nat.le_refl _) r34_ ?_; (case hd => rfl); (case hg => rfl); (case hr => first | (go_simp; done) | (go_simp; rfl)); (case hp => exact (Reps.none _ _)); intro v190 w4 ho5 hb hg_ hnew_; clear hg_ hnew_; (first | rw [← Ny189.out] at ho5 | (simp only [Int.reduceToNat] at ho5; rw [← Ny189.out] at ho5)); have HO191 := Aside0.mk (Kd.R_lower ho5 (below_size hB_)); replace HB := Aside0.mk (below_step hB_ hb); clear hb ho5))
 go_loopg [4, 5] k (fun kq v4 v5 w' => ∃ (x4_1 : List Int) (x5_1 : Int), v5 = .int .i64 x5_1 ∧ Aside0 (screeref02_Escape.l0 kq a0 x4_1 x5_1 = some (r1, r2)) ∧ Aside0 (kq ≤ k) ∧ Aside0 (Kd.R (Kd.int .u8) 5 w' w.heap.size (fun _ => True) v4 x4_1) ∧ Aside0 (Below w.heap.size w w'))
 case atStart => exact ⟨(y189), (0), rs_, H', ⟨Nat.le_refl _⟩, ⟨by (with_reducible repeat (first | apply Kd.R_alloc | apply Kd.R_drewN | apply Kd.R_drew)); exact HO191.out⟩, ⟨hB_⟩⟩
 case round =>
  clear H'
  try clear c3
  obtain ⟨x4_1, x5_1, rfl, HA, HK1, HO_4, HB⟩ := hrel
  cases gk with
  | zero => exact absurd HA.out (by simp [screeref02_Escape.l0])
  | succ k1 =>
   have H := HA.out
   clear HA
   simp only [screeref02_Escape.l0] at H
   by_cases c6 : x5_1 < (a0.size : Int)
   rotate_left
   ·rw [if_neg c6] at H
    have c6b0 := decide_eq_false c6
    clear c6
    obtain ⟨y198, hy198⟩ : ∃ y_ : List Int, y_ = (([0, 1] : List Int)) := ⟨_, rfl⟩
    replace H : (if x4_1.length + y198.length < 140737488355328 then (some (strOfNums (x4_1 ++ y198), 0)) else (none)) = some (r1, r2) := by first | (rw [hy198]; with_reducible exact H) | (have H2_ := (Option.bind_some _ _).symm.trans H; rw [hy198]; with_reducible exact H2_) | (have H2_ := (Option.bind_some _ _).symm.trans H; with_reducible exact H2_) | with_reducible exact H | (rw [hy198]; exact H) | exact H
    have Ny198 := Aside0.mk hy198
    clear hy198
    by_cases c16 : x4_1.length + y198.length < 140737488355328
    rotate_left
    ·rw [if_neg c16] at H
     exact absurd H r34_
    rw [if_pos c16] at H
    have LMc16 := Aside0.mk c16
    clear c16
    obtain ⟨y201, hy201⟩ : ∃ y_ : List Int, y_ = (x4_1 ++ y198) := ⟨_, rfl⟩
    replace H : (some (strOfNums y201, 0)) = some (r1, r2) := by first | (rw [hy201]; with_reducible exact H) | (have H2_ := (Option.bind_some _ _).symm.trans H; rw [hy201]; with_reducible exact H2_) | (have H2_ := (Option.bind_some _ _).symm.trans H; with_reducible exact H2_) | with_reducible exact H | (rw [hy201]; exact H) | exact H
    have Ny201 := Aside0.mk hy201
    clear hy201
    simp only [Option.some.injEq, Prod.mk.injEq] at H
    obtain ⟨rfl, rfl⟩ := H
    go_wp2_with (first | ((with_reducible refine gate_dst (N := 30) rfl ?_); refine Kd.R_lit (Kd.int .u8) _ 5 ?hg (N := 30) ?hd (xs := ([0, 1] : List Int)) (inner := [.int .u8 0, .int .u8 1]) (ok := fun _ => True) (okp := fun _ => True) ?hr ?hp (fun _ hk => hk) trivial (Below.refl _ _) (Nat.le_refl _) r34_ ?_; (case hd => rfl); (case hg => rfl); (case hr => first | (go_simp; done) | (go_simp; rfl)); (case hp => exact (Reps.one (show Kd.M (Kd.int .u8) _ _ _ 0 [.int .u8 0] from rfl) (Reps.one (show Kd.M (Kd.int .u8) _ _ _ 1 [.int .u8 1] from rfl) (Reps.none _ _)))); intro v199 w17 ho18 hb hg_ hnew_; clear hg_ hnew_; (first | rw [← Ny198.out] at ho18 | (simp only [Int.reduceToNat] at ho18; rw [← Ny198.out] at ho18)); have HO200 := Aside0.mk (Kd.R_lower (Kd.R_new' ho18 (Kd.R_lt r66_)) (below_size hB_)); replace HO_4 := Aside0.mk (Kd.R_elder' r66_ (Kd.R_base ho18) hb); replace HB := Aside0.mk (below_step hB_ hb); clear hb ho18; obtain ⟨Ao20, co20, eo20⟩ := Kd.R_slice HO200.out; subst eo20) | ((with_reducible refine gate_builtin (b := .append) (xs := #[.tmp 29, .tmp 30]) rfl ?_); at_builtin; refine Kd.R_append_rows (Kd.int .u8) (w0 := w) w.heap.size rfl (.tmp 29) (.tmp 30) 96 5 (.int .u8 0) 1 rfl Try.underlying96 info5 rfl r44_ r37_ u4 x4_1 y198 _ _ _ (fun k_ => some k_ ≠ (.slice Ao20 y198.length co20 : Value).ownBlock) (fun _ => False) rfl rfl ?aO ?aR (fun _ _ h => h) (fun _ h => h.elim) ?aF ?aB ?aS ?aL ?_; (case aR => repeat (first | exact (Kd.R_reads' HO200.out).2.2 | (with_reducible refine Kd.C_alloc ?_ _) | (with_reducible refine Kd.C_drewN ?_ _) | (with_reducible refine Kd.C_drew ?_))); (case aB => exact hB_); (case aF => exact (fun k_ hk => Kd.fresh' (Kd.R_lt (by (with_reducible repeat (first | apply Kd.R_alloc | apply Kd.R_drewN | apply Kd.R_drew)); exact HO200.out)) k_ hk)); (case aO => exact (by (with_reducible repeat (first | apply Kd.R_alloc | apply Kd.R_drewN | apply Kd.R_drew)); exact Kd.R_mono HO_4.out (fun _ hk => hk.2))); (case aS => exact (below_size hB_)); (case aL => have := LMc16.out; omega); intro v202 w19 ho hb hg hat; rw [← Ny201.out] at ho; replace HO200 := Aside0.mk (Kd.R_after (ok := (fun _ => True)) (by (with_reducible repeat (first | apply Kd.R_alloc | apply Kd.R_drewN | apply Kd.R_drew)); exact HO200.out) hg hat); replace HB := Aside0.mk (hb); have HO203 := Aside0.mk (ho); clear HO_4; clear ho hb hg hat; have hcv21 := own_string (P := Try.prog) Try.underlying96 Try.underlying5 Try.underlying9 (Kd.own_of_R (HO203.out))))
    go_ret2
    exact ⟨rf_, hB_⟩
   rw [if_pos c6] at H
   have c6b0 := decide_eq_true c6
   clear c6
   by_cases c7 : 0 ≤ x5_1
   rotate_left
   ·rw [if_neg c7] at H
    exact absurd H r34_
   rw [if_pos c7] at H
   have c7b0 := decide_eq_true c7
   clear c7
   by_cases c9 : x4_1.length < 140737488355328
   rotate_left
   ·rw [if_neg c9] at H
    exact absurd H r34_
   rw [if_pos c9] at H
   have LMc9 := Aside0.mk c9
   clear c9
   obtain ⟨y192, hy192⟩ : ∃ y_ : List Int, y_ = (x4_1 ++ [bt a0 x5_1]) := ⟨_, rfl⟩
   replace H : (if (bt a0 x5_1) = 0 then (if y192.length < 140737488355328 then (screeref02_Escape.l0 k1 a0 (y192 ++ [255]) (wrap64 (x5_1 + 1))) else (none)) else (screeref02_Escape.l0 k1 a0 y192 (wrap64 (x5_1 + 1)))) = some (r1, r2) := by first | (rw [hy192]; with_reducible exact H) | (have H2_ := (Option.bind_some _ _).symm.trans H; rw [hy192]; with_reducible exact H2_) | (have H2_ := (Option.bind_some _ _).symm.trans H; with_reducible exact H2_) | with_reducible exact H | (rw [hy192]; exact H) | exact H
   have Ny192 := Aside0.mk hy192
   clear hy192
   by_cases c11 : (bt a0 x5_1) = 0
   rotate_left
   ·rw [if_neg c11] at H
    have c11b0 := beq_eq_false_iff_ne.mpr c11
    have c11b1 := bne_iff_ne.mpr c11
    have H' := Aside0.mk H
    clear H
    have p8 : 0 ≤ (x5_1 : Int) := of_decide_eq_true as_
    have q8 : x5_1 < (a0.size : Int) := of_decide_eq_true as_
    have hx8 := bt_at a0 x5_1
    replace p8 := eq_true p8
    replace q8 := eq_true q8
    go_wp2_with (first | ((with_reducible refine gate_builtin (b := .append) (xs := #[.tmp 16, .tmp 20]) rfl ?_); at_builtin; refine Kd.R_append (Kd.int .u8) (w0 := w) w.heap.size rfl (.tmp 16) (.tmp 20) 96 5 (.int .u8 0) 1 rfl Try.underlying96 info5 rfl r44_ r37_ u4 x4_1 (bt a0 x5_1) [.int .u8 (bt a0 x5_1)] (fun _ => True) (fun _ => False) rfl rfl ?aP (fun _ hk => hk.elim) ?aF ?aO ?aB ?aS ?aL ?_; (case aP => exact rfl); (case aB => exact hB_); (case aF => exact (fun _ _ => trivial)); (case aO => exact r66_); (case aS => exact (below_size hB_)); (case aL => have := LMc9.out; omega); intro v193 w15 ho hb hg hat; rw [← Ny192.out] at ho; replace HB := Aside0.mk (hb); have HO194 := Aside0.mk (ho); clear HO_4; clear ho hb hg hat; have p10 : 0 ≤ (x5_1 : Int) := of_decide_eq_true as_; have q10 : x5_1 < (a0.size : Int) := of_decide_eq_true as_; have hx10 := bt_at a0 x5_1; replace p10 := eq_true p10; replace q10 := eq_true q10))
    go_roundg k1
    case measure => have := HK1.out; omega
    case rel => exact ⟨(y192), (wrap64 (x5_1 + 1)), rs_, hH_, ⟨by have := HK1.out; omega⟩, ⟨by (with_reducible repeat (first | apply Kd.R_alloc | apply Kd.R_drewN | apply Kd.R_drew)); exact HO194.out⟩, ⟨hB_⟩⟩
   rw [if_pos c11] at H
   have c11b0 := beq_iff_eq.mpr c11
   have c11b1 := bne_eq_false_iff_eq.mpr c11
   clear c11
   by_cases c12 : y192.length < 140737488355328
   rotate_left
   ·rw [if_neg c12] at H
    exact absurd H r34_
   rw [if_pos c12] at H
   have LMc12 := Aside0.mk c12
   clear c12
   obtain ⟨y195, hy195⟩ : ∃ y_ : List Int, y_ = (y192 ++ [255]) := ⟨_, rfl⟩
   replace H : (screeref02_Escape.l0 k1 a0 y195 (wrap64 (x5_1 + 1))) = some (r1, r2) := by first | (rw [hy195]; with_reducible exact H) | (have H2_ := (Option.bind_some _ _).symm.trans H; rw [hy195]; with_reducible exact H2_) | (have H2_ := (Option.bind_some _ _).symm.trans H; with_reducible exact H2_) | with_reducible exact H | (rw [hy195]; exact H) | exact H
   have Ny195 := Aside0.mk hy195
   clear hy195
   have H' := Aside0.mk H
   clear H
   have p8 : 0 ≤ (x5_1 : Int) := of_decide_eq_true as_
   have q8 : x5_1 < (a0.size : Int) := of_decide_eq_true as_
   have hx8 := bt_at a0 x5_1
   replace p8 := eq_true p8
   replace q8 := eq_true q8
   go_wp2_with (first | ((with_reducible refine gate_builtin (b := .append) (xs := #[.tmp 16, .tmp 20]) rfl ?_); at_builtin; refine Kd.R_append (Kd.int .u8) (w0 := w) w.heap.size rfl (.tmp 16) (.tmp 20) 96 5 (.int .u8 0) 1 rfl Try.underlying96 info5 rfl r44_ r37_ u4 x4_1 (bt a0 x5_1) [.int .u8 (bt a0 x5_1)] (fun _ => True) (fun _ => False) rfl rfl ?aP (fun _ hk => hk.elim) ?aF ?aO ?aB ?aS ?aL ?_; (case aP => exact rfl); (case aB => exact hB_); (case aF => exact (fun _ _ => trivial)); (case aO => exact r66_); (case aS => exact (below_size hB_)); (case aL => have := LMc9.out; omega); intro v193 w13 ho hb hg hat; rw [← Ny192.out] at ho; replace HB := Aside0.mk (hb); have HO194 := Aside0.mk (ho); clear HO_4; clear ho hb hg hat; have p10 : 0 ≤ (x5_1 : Int) := of_decide_eq_true as_; have q10 : x5_1 < (a0.size : Int) := of_decide_eq_true as_; have hx10 := bt_at a0 x5_1; replace p10 := eq_true p10; replace q10 := eq_true q10) | ((with_reducible refine gate_builtin (b := .append) (xs := #[.tmp 26, .tmp 27]) rfl ?_); at_builtin; refine Kd.R_append (Kd.int .u8) (w0 := w) w.heap.size rfl (.tmp 26) (.tmp 27) 96 5 (.int .u8 0) 1 rfl Try.underlying96 info5 rfl r44_ r37_ v193 y192 255 [.int .u8 255] (fun _ => True) (fun _ => False) rfl rfl ?aP (fun _ hk => hk.elim) ?aF ?aO ?aB ?aS ?aL ?_; (case aP => exact rfl); (case aB => exact hB_); (case aF => exact (fun _ _ => trivial)); (case aO => exact (by (with_reducible repeat (first | apply Kd.R_alloc | apply Kd.R_drewN | apply Kd.R_drew)); exact HO194.out)); (case aS => exact (below_size hB_)); (case aL => have := LMc12.out; omega); intro v196 w14 ho hb hg hat; rw [← Ny195.out] at ho; replace HB := Aside0.mk (hb); have HO197 := Aside0.mk (ho); clear HO194; clear ho hb hg hat))
   go_roundg k1
   case measure => have := HK1.out; omega
   case rel => exact ⟨(y195), (wrap64 (x5_1 + 1)), rs_, hH_, ⟨by have := HK1.out; omega⟩, ⟨by (with_reducible repeat (first | apply Kd.R_alloc | apply Kd.R_drewN | apply Kd.R_drew)); exact HO197.out⟩, ⟨hB_⟩⟩

/-! ### screeref02_First: function 33 -/
def screeref02_First.j0 : Nat → Int → ByteArray → Bool → Option (ByteArray × Int)
 | 0, _, _, _ => none
 | k + 1, x0, x1, x13 => if x13 = true then (some ((⟨#[]⟩ : ByteArray), 1)) else ((screeref02_Escape.f k x1).bind fun bt204 => (if bt204.2 = 0 then ((some (([(x0) % 256] : List Int) : List Int)).bind fun y206 => (if (strOfNums y206).size + bt204.1.size ≤ 9223372036854775807 then (some ((strOfNums y206) ++ bt204.1, 0)) else (none))) else (some ((⟨#[]⟩ : ByteArray), bt204.2))))
def screeref02_First.f (k : Nat) (a0 : Int) (a1 : ByteArray) : Option (ByteArray × Int) := if a0 < 1 then (screeref02_First.j0 k a0 a1 true) else (screeref02_First.j0 k a0 a1 (decide (a0 > 4)))
theorem screeref02_First.mono_l : ∀ k, (∀ y0 y1 y2, LeO (screeref02_First.j0 k y0 y1 y2) (screeref02_First.j0 (k + 1) y0 y1 y2))
 | 0 => fun _ _ _ r h => by simp [screeref02_First.j0] at h
 | k + 1 => by
  have ih0 := screeref02_First.mono_l k
  ·intro y0 y1 y2
   unfold screeref02_First.j0
   repeat' first
   | (with_reducible exact ih0 _ _ _)
   | (with_reducible exact LeO.refl _)
   | (with_reducible exact LeO.none _)
   | (with_reducible refine LeO.ite ?_ ?_)
   | (with_reducible refine LeO.bind ?_ (fun _ => ?_))
   | exact ih0 _ _ _
   | exact screeref02_Escape.mono _ _
   | exact LeO.none _
   | refine LeO.ite ?_ ?_
   | refine LeO.bind ?_ (fun _ => ?_)
theorem screeref02_First.mono : ∀ a0 a1 k, LeO (screeref02_First.f k a0 a1) (screeref02_First.f (k + 1) a0 a1) := by
 intro a0 a1 k
 have ih0 := screeref02_First.mono_l k
 unfold screeref02_First.f
 repeat' first
   | (with_reducible exact ih0 _ _ _)
   | (with_reducible exact LeO.refl _)
   | (with_reducible exact LeO.none _)
   | (with_reducible refine LeO.ite ?_ ?_)
   | (with_reducible refine LeO.bind ?_ (fun _ => ?_))
   | exact ih0 _ _ _
   | exact screeref02_Escape.mono _ _
   | exact LeO.none _
   | refine LeO.ite ?_ ?_
   | refine LeO.bind ?_ (fun _ => ?_)
set_option maxHeartbeats 8000000 in
set_option maxRecDepth 100000 in
theorem screeref02_First.calls (k : Nat) (a0 : Int) (a1 : ByteArray) (r1 : ByteArray) (r2 : Int) (w : World) (h : screeref02_First.f k a0 a1 = some (r1, r2)) :
  Calls Try.prog 33 #[.int .i64 a0, .string a1] w fun e w' => e = .returned (.tuple #[.string r1, .int .i64 r2]) ∧ Below w.heap.size w w' := by
 have HB := Aside0.mk (Below.refl w.heap.size w)
 have H : (if a0 < 1 then (screeref02_First.j0 k a0 a1 true) else (screeref02_First.j0 k a0 a1 (decide (a0 > 4)))) = some (r1, r2) := h
 clear h
 have HC3 := Aside0.mk H
 clear H
 go_enter Try.func33, Try.ntmps33
 go_upto_region 1 with (fail)
 go_cut [13] (fun v13 wc => ∃ (kq : Nat) (x13_2 : Bool), v13 = .bool x13_2 ∧ Aside0 (screeref02_First.j0 kq a0 a1 x13_2 = some (r1, r2)) ∧ Aside0 (kq ≤ k) ∧ Aside0 (Below w.heap.size w wc))
 case first =>
  have H := HC3.out
  clear HC3
  by_cases c4 : a0 < 1
  ·rw [if_pos c4] at H
   have c4b0 := decide_eq_true c4
   clear c4
   (first | rw [c4b0] | (simp only [i64_w, i32_w]; rw [c4b0]) | skip)
   have H' := Aside0.mk H
   clear H
   go_wp2
   go_meet
   case rel => exact ⟨_, (true), rs_, hH_, ⟨by first | omega | exact Nat.le_refl _⟩, ⟨hB_⟩⟩
  rw [if_neg c4] at H
  have c4b0 := decide_eq_false c4
  clear c4
  (first | rw [c4b0] | (simp only [i64_w, i32_w]; rw [c4b0]) | skip)
  have H' := Aside0.mk H
  clear H
  go_wp2
  go_meet
  case rel => exact ⟨_, (decide (a0 > 4)), rs_, hH_, ⟨by first | omega | exact Nat.le_refl _⟩, ⟨hB_⟩⟩
 case rest =>
  clear HC3
  obtain ⟨kq, x13_2, rfl, HA, HJ2, HB⟩ := hcut
  cases kq with
  | zero => exact absurd HA.out (by simp [screeref02_First.j0])
  | succ kj2 =>
   have H := HA.out
   clear HA
   simp only [screeref02_First.j0] at H
   by_cases c5 : x13_2 = true
   ·subst c5
    rw [if_pos rfl] at H
    simp only [Option.some.injEq, Prod.mk.injEq] at H
    obtain ⟨rfl, rfl⟩ := H
    go_wp2
    go_ret2
    exact ⟨rf_, hB_⟩
   replace c5 := Bool.eq_false_iff.mpr c5
   subst c5
   rw [if_neg ff_] at H
   replace H := Option.bind_eq_some_iff.mp H
   obtain ⟨⟨t204, t205⟩, A60, H⟩ := H
   try dsimp only at H
   have A6 := Aside0.mk A60
   clear A60
   by_cases c7 : t205 = 0
   rotate_left
   ·rw [if_neg c7] at H
    have c7b0 := beq_eq_false_iff_ne.mpr c7
    have c7b1 := bne_iff_ne.mpr c7
    simp only [Option.some.injEq, Prod.mk.injEq] at H
    obtain ⟨rfl, rfl⟩ := H
    go_wp2_with (first | ((with_reducible refine gate_callee (f := 45) rfl ?_); refine goesL_ (some 16) rfl rfl Try.func45 r6_ rfl #[.string a1] rfl hA_ ?_; (with_reducible refine (screeref02_Escape.calls kj2 a1 t204 t205 _ A6.out).mono ?_); rintro e w13 ⟨rfl, hb⟩; refine ⟨_, rfl, ?_⟩; replace HB := Aside0.mk (below_step hB_ hb); clear hb A6))
    go_ret2
    exact ⟨rf_, hB_⟩
   rw [if_pos c7] at H
   have c7b0 := beq_iff_eq.mpr c7
   have c7b1 := bne_eq_false_iff_eq.mpr c7
   clear c7
   obtain ⟨y206, hy206⟩ : ∃ y_ : List Int, y_ = (([(a0) % 256] : List Int)) := ⟨_, rfl⟩
   replace H : (if (strOfNums y206).size + t204.size ≤ 9223372036854775807 then (some ((strOfNums y206) ++ t204, 0)) else (none)) = some (r1, r2) := by first | (rw [hy206]; with_reducible exact H) | (have H2_ := (Option.bind_some _ _).symm.trans H; rw [hy206]; with_reducible exact H2_) | (have H2_ := (Option.bind_some _ _).symm.trans H; with_reducible exact H2_) | with_reducible exact H | (rw [hy206]; exact H) | exact H
   have Ny206 := Aside0.mk hy206
   clear hy206
   by_cases c8 : (strOfNums y206).size + t204.size ≤ 9223372036854775807
   rotate_left
   ·rw [if_neg c8] at H
    exact absurd H r34_
   rw [if_pos c8] at H
   have c8b0 := eq_true c8
   have c8b1 : decide ((strOfNums y206).size + t204.size ≤ 9223372036854775807) = true := decide_eq_true c8
   try have c8b2 : (9223372036854775807 < (strOfNums y206).size + t204.size) = False := eq_false (Nat.not_lt.2 c8)
   try (have c8b3 := c8b2; simp only [ByteArray.size_append] at c8b3)
   try (have c8b4 := c8b2; simp only [ByteArray.size_extract, ByteArray.size_append, Nat.sub_zero] at c8b4)
   simp only [Option.some.injEq, Prod.mk.injEq] at H
   obtain ⟨rfl, rfl⟩ := H
   go_wp2_with (first | ((with_reducible refine gate_callee (f := 45) rfl ?_); refine goesL_ (some 16) rfl rfl Try.func45 r6_ rfl #[.string a1] rfl hA_ ?_; (with_reducible refine (screeref02_Escape.calls kj2 a1 t204 t205 _ A6.out).mono ?_); rintro e w9 ⟨rfl, hb⟩; refine ⟨_, rfl, ?_⟩; replace HB := Aside0.mk (below_step hB_ hb); clear hb A6) | ((with_reducible refine gate_dst (N := 24) rfl ?_); refine Kd.R_lit (Kd.int .u8) _ 5 ?hg (N := 24) ?hd (xs := ([(a0) % 256] : List Int)) (inner := [.int .u8 ((a0) % 256)]) (ok := fun _ => True) (okp := fun _ => True) ?hr ?hp (fun _ hk => hk) trivial (Below.refl _ _) (Nat.le_refl _) r34_ ?_; (case hd => rfl); (case hg => rfl); (case hr => first | (go_simp; done) | (go_simp; rfl)); (case hp => exact (Reps.one (show Kd.M (Kd.int .u8) _ _ _ ((a0) % 256) [.int .u8 ((a0) % 256)] from rfl) (Reps.none _ _))); intro v207 w10 ho11 hb hg_ hnew_; clear hg_ hnew_; (first | rw [← Ny206.out] at ho11 | (simp only [Int.reduceToNat] at ho11; rw [← Ny206.out] at ho11)); have HO208 := Aside0.mk (Kd.R_lower ho11 (below_size hB_)); replace HB := Aside0.mk (below_step hB_ hb); clear hb ho11; have hcv12 := own_string (P := Try.prog) Try.underlying96 Try.underlying5 Try.underlying9 (Kd.own_of_R (HO208.out))))
   go_ret2
   exact ⟨rf_, hB_⟩

/-! ### screeref01_Long: function 46 -/
def screeref01_Long.l0 : Nat → Int → List Int → Int → Option (ByteArray)
 | 0, _, _, _ => none
 | k + 1, x0, x3, x4 => if x4 ≥ 0 then (if 0 ≤ x4 then (if x4 < (x3.length : Int) then (screeref01_Long.l0 k (IntKind.u64.wrap (Int.tdiv x0 256)) (x3.set (x4 : Int).toNat ((Int.tmod x0 256) % 256)) (wrap64 (x4 - 1))) else (none)) else (none)) else (some (strOfNums x3))
def screeref01_Long.f (k : Nat) (a0 : Int) : Option (ByteArray) := screeref01_Long.l0 k a0 (([0, 0, 0, 0, 0, 0, 0, 0] : List Int)) 7
theorem screeref01_Long.mono_l : ∀ k, (∀ y0 y1 y2, LeO (screeref01_Long.l0 k y0 y1 y2) (screeref01_Long.l0 (k + 1) y0 y1 y2))
 | 0 => fun _ _ _ r h => by simp [screeref01_Long.l0] at h
 | k + 1 => by
  have ih0 := screeref01_Long.mono_l k
  ·intro y0 y1 y2
   unfold screeref01_Long.l0
   repeat' first
   | (with_reducible exact ih0 _ _ _)
   | (with_reducible exact LeO.refl _)
   | (with_reducible exact LeO.none _)
   | (with_reducible refine LeO.ite ?_ ?_)
   | (with_reducible refine LeO.bind ?_ (fun _ => ?_))
   | exact ih0 _ _ _
   | exact LeO.none _
   | refine LeO.ite ?_ ?_
   | refine LeO.bind ?_ (fun _ => ?_)
theorem screeref01_Long.mono : ∀ a0 k, LeO (screeref01_Long.f k a0) (screeref01_Long.f (k + 1) a0) := by
 intro a0 k
 have ih0 := screeref01_Long.mono_l k
 unfold screeref01_Long.f
 repeat' first
   | (with_reducible exact ih0 _ _ _)
   | (with_reducible exact LeO.refl _)
   | (with_reducible exact LeO.none _)
   | (with_reducible refine LeO.ite ?_ ?_)
   | (with_reducible refine LeO.bind ?_ (fun _ => ?_))
   | exact ih0 _ _ _
   | exact LeO.none _
   | refine LeO.ite ?_ ?_
   | refine LeO.bind ?_ (fun _ => ?_)
set_option maxHeartbeats 8000000 in
set_option maxRecDepth 100000 in
theorem screeref01_Long.calls (k : Nat) (a0 : Int) (r : ByteArray) (w : World) (h : screeref01_Long.f k a0 = some r) :
  Calls Try.prog 46 #[.int .u64 a0] w fun e w' => e = .returned (.string r) ∧ Below w.heap.size w w' := by
 have HB := Aside0.mk (Below.refl w.heap.size w)
 have H : (screeref01_Long.l0 k a0 (([0, 0, 0, 0, 0, 0, 0, 0] : List Int)) 7) = some r := h
 clear h
 obtain ⟨y209, hy209⟩ : ∃ y_ : List Int, y_ = (([0, 0, 0, 0, 0, 0, 0, 0] : List Int)) := ⟨_, rfl⟩
 replace H : (screeref01_Long.l0 k a0 y209 7) = some r := by first | (rw [hy209]; with_reducible exact H) | (have H2_ := (Option.bind_some _ _).symm.trans H; rw [hy209]; with_reducible exact H2_) | (have H2_ := (Option.bind_some _ _).symm.trans H; with_reducible exact H2_) | with_reducible exact H | (rw [hy209]; exact H) | exact H
 have Ny209 := Aside0.mk hy209
 clear hy209
 have H' := Aside0.mk H
 clear H
 go_enter Try.func46, Try.ntmps46
 go_wp2_with (first | ((with_reducible refine gate_dst (N := 5) rfl ?_); refine Kd.R_lit (Kd.int .u8) _ 5 ?hg (N := 5) ?hd (xs := ([0, 0, 0, 0, 0, 0, 0, 0] : List Int)) (inner := [.int .u8 0, .int .u8 0, .int .u8 0, .int .u8 0, .int .u8 0, .int .u8 0, .int .u8 0, .int .u8 0]) (ok := fun _ => True) (okp := fun _ => True) ?hr ?hp (fun _ hk => hk) trivial (Below.refl _ _) (Nat.le_refl _) r34_ ?_; (case hd => rfl); (case hg => rfl); (case hr => first | (go_simp; done) | (go_simp; rfl)); (case hp => exact (Reps.one (show Kd.M (Kd.int .u8) _ _ _ 0 [.int .u8 0] from rfl) (Reps.one (show Kd.M (Kd.int .u8) _ _ _ 0 [.int .u8 0] from rfl) (Reps.one (show Kd.M (Kd.int .u8) _ _ _ 0 [.int .u8 0] from rfl) (Reps.one (show Kd.M (Kd.int .u8) _ _ _ 0 [.int .u8 0] from rfl) (Reps.one (show Kd.M (Kd.int .u8) _ _ _ 0 [.int .u8 0] from rfl) (Reps.one (show Kd.M (Kd.int .u8) _ _ _ 0 [.int .u8 0] from rfl) (Reps.one (show Kd.M (Kd.int .u8) _ _ _ 0 [.int .u8 0] from rfl) (Reps.one (show Kd.M (Kd.int .u8) _ _ _ 0 [.int .u8 0] from rfl) (Reps.none _ _)))))))))); intro v210 w2 ho3 hb hg_ hnew_; clear hg_ hnew_; (first | rw [← Ny209.out] at ho3 | (simp only [Int.reduceToNat] at ho3; rw [← Ny209.out] at ho3)); have HO211 := Aside0.mk (Kd.R_lower ho3 (below_size hB_)); replace HB := Aside0.mk (below_step hB_ hb); clear hb ho3))
 go_loopg [0, 4] k (fun kq v0 v4 w' => ∃ (x0_1 : Int) (x3_1 : List Int) (x4_1 : Int), v0 = .int .u64 x0_1 ∧ v4 = .int .i64 x4_1 ∧ Aside0 (screeref01_Long.l0 kq x0_1 x3_1 x4_1 = some r) ∧ Aside0 (kq ≤ k) ∧ Aside0 (Kd.R (Kd.int .u8) 5 w' w.heap.size (fun _ => True) v210 x3_1) ∧ Aside0 (Below w.heap.size w w'))
 case atStart => exact ⟨(a0), (y209), (7), rs_, rs_, H', ⟨Nat.le_refl _⟩, ⟨by (with_reducible repeat (first | apply Kd.R_alloc | apply Kd.R_drewN | apply Kd.R_drew)); exact HO211.out⟩, ⟨hB_⟩⟩
 case round =>
  clear H'
  obtain ⟨x0_1, x3_1, x4_1, rfl, rfl, HA, HK1, HO_3, HB⟩ := hrel
  cases gk with
  | zero => exact absurd HA.out (by simp [screeref01_Long.l0])
  | succ k1 =>
   have H := HA.out
   clear HA
   simp only [screeref01_Long.l0] at H
   by_cases c4 : x4_1 ≥ 0
   rotate_left
   ·rw [if_neg c4] at H
    have c4b0 : decide (0 ≤ x4_1) = false := decide_eq_false c4
    clear c4
    obtain rfl := Option.some.inj H
    have hcv10 := own_string (P := Try.prog) Try.underlying96 Try.underlying5 Try.underlying9 (Kd.own_of_R (HO_3.out))
    go_wp2
    go_ret
    exact ⟨rf_, hB_⟩
   rw [if_pos c4] at H
   have c4b0 : decide (0 ≤ x4_1) = true := decide_eq_true c4
   clear c4
   by_cases c5 : 0 ≤ x4_1
   rotate_left
   ·rw [if_neg c5] at H
    exact absurd H r34_
   rw [if_pos c5] at H
   have c5b0 := decide_eq_true c5
   clear c5
   by_cases c6 : x4_1 < (x3_1.length : Int)
   rotate_left
   ·rw [if_neg c6] at H
    exact absurd H r34_
   rw [if_pos c6] at H
   have c6b0 := decide_eq_true c6
   clear c6
   obtain ⟨y212, hy212⟩ : ∃ y_ : List Int, y_ = (x3_1.set (x4_1 : Int).toNat ((Int.tmod x0_1 256) % 256)) := ⟨_, rfl⟩
   replace H : (screeref01_Long.l0 k1 (IntKind.u64.wrap (Int.tdiv x0_1 256)) y212 (wrap64 (x4_1 - 1))) = some r := by first | (rw [hy212]; with_reducible exact H) | (have H2_ := (Option.bind_some _ _).symm.trans H; rw [hy212]; with_reducible exact H2_) | (have H2_ := (Option.bind_some _ _).symm.trans H; with_reducible exact H2_) | with_reducible exact H | (rw [hy212]; exact H) | exact H
   have Ny212 := Aside0.mk hy212
   clear hy212
   have H' := Aside0.mk H
   clear H
   have p7 : 0 ≤ (x4_1 : Int) := of_decide_eq_true as_
   have q7 : (x4_1 : Int) < ((x3_1.length : Int) : Int) := of_decide_eq_true as_
   obtain ⟨go7, co7, eo7, gb7, gl7, cl7, HG7⟩ := Kd.R_form HO_3.out r37_
   (first | cases eo7 | (injection eo7 with ea_ en_ ec_; (first | subst ea_ | (injection ea_ with ea_; subst ea_)); subst ec_; clear en_))
   have GB7 := Aside0.mk gb7
   have GG7 := Aside0.mk HG7
   clear gb7 gl7 HG7
   obtain ⟨hx7_0, hf7_0⟩ := Kd.R_celln 0 HO_3.out (x4_1 : Int) p7 q7
   replace p7 := eq_true p7
   replace q7 := eq_true q7
   have HP8 := Kd.R_putg HO_3.out (x4_1 : Int) ((Int.tmod x0_1 256) % 256)
   go_wp2_with (first | ((with_reducible refine gate_store (t := 5) (p := 15) rfl ?_); refine store_event (t := 5) (p := 15) (v := ?vo_w9) (w1 := (wr.setCell ⟨go7, (x4_1 : Int).toNat, none⟩ (.int .u8 ((Int.tmod x0_1 256) % 256)))) ?hg ?ho ?hn ?hr ?_; (case ho => rfl); (case hg => rfl); (case hn => rfl); (case hr => first | (go_simp; done) | (go_simp; rfl)); intro w9 hw; have hg : wr.grownBy w9 (some go7) := (by rw [hw]; exact HP8.2); have hp_ : Kd.R (Kd.int .u8) 5 w9 w.heap.size (fun _ => True) (.slice (some ⟨go7, 0, none⟩) x3_1.length co7) y212 := (by rw [hw, Ny212.out]; exact HP8.1); clear HP8; replace HO_3 := Aside0.mk (hp_); replace HB := Aside0.mk ((by rw [hw]; exact below_set (HB.out) GB7.out : Below w.heap.size w w9)); clear hg hw hp_))
   go_roundg k1
   case measure => have := HK1.out; omega
   case rel => exact ⟨(IntKind.u64.wrap (Int.tdiv x0_1 256)), (y212), (wrap64 (x4_1 - 1)), rs_, rs_, hH_, ⟨by have := HK1.out; omega⟩, ⟨r53_⟩, ⟨hB_⟩⟩

/-! ### screeref01_Turned: function 47 -/
def screeref01_Turned.f (a0 : Int) : Option (Int) := some (IntKind.u64.wrap (18446744073709551615 - a0))
set_option maxHeartbeats 8000000 in
set_option maxRecDepth 100000 in
theorem screeref01_Turned.calls (a0 : Int) (r : Int) (w : World) (h : screeref01_Turned.f a0 = some r) :
  Calls Try.prog 47 #[.int .u64 a0] w fun e w' => e = .returned (.int .u64 r) ∧ Drawn0 w w' := by
 have H : (some (IntKind.u64.wrap (18446744073709551615 - a0))) = some r := h
 clear h
 obtain rfl := Option.some.inj H
 go_enter Try.func47, Try.ntmps47
 go_wp2
 go_ret
 exact ⟨rs_, dR_⟩

end Go.Proofs.Ytcdadhgcjkgnoaa.P
