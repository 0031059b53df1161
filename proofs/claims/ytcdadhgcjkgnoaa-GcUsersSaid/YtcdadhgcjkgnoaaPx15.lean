-- Printed by a program of this session's own (wip/tools/pprint.sh, over the kit's print, with given contracts): not typed by hand.
import Derived.Test.YtcdadhgcjkgnoaaPx0
import Derived.Test.YtcdadhgcjkgnoaaPx6
import Derived.Test.YtcdadhgcjkgnoaaPx7
import Derived.Test.YtcdadhgcjkgnoaaPx9
import Derived.Test.YtcdadhgcjkgnoaaPx10
import Derived.Test.YtcdadhgcjkgnoaaPx11
import Derived.Test.YtcdadhgcjkgnoaaPx14
namespace Go.Proofs.Ytcdadhgcjkgnoaa.P
open Go.RowKit Go.Proofs.YtcdadhgcjkgnoaaW.PrintWords Go.Proofs.YtcdadhgcjkgnoaaW.PrintLast Go.Proofs.YtcdadhgcjkgnoaaW.PrintMore
set_option linter.unusedVariables false
set_option linter.unusedSimpArgs false
-- SQUEEZED

/-! ### screelaw17_GcLocks: function 8 -/
def screelaw17_GcLocks.put : List ByteArray → List (List UInt8) → Option (List (List UInt8))
 | [], m => some m
 | s :: l, m => if s.size ≤ 140737488351232 ∧ m.length ≤ 1000000 then screelaw17_GcLocks.put l (Th.bl s :: m) else none
def screelaw17_GcLocks.go (k : Nat) (m : List (List UInt8)) : List (S47) → Option Unit
 | [] => some ()
 | x :: l => (screeref17_Read.f k x.f0 x.f3).bind fun r => if x.f0.size ≤ 140737488351232 then (if (r.cf = 0 ∨ r.cf = 1) ∧ Th.bl x.f0 ∈ m then none else if r.cf ≠ 1 then screelaw17_GcLocks.go k m l else (screeref02_Make.f k 3 r.us r.ls).bind fun p => if p.1.size ≤ 140737488351232 then (if p.2 ≠ 0 then none else if Th.bl p.1 ∈ m then none else screelaw17_GcLocks.go k m l) else none) else none
theorem screelaw17_GcLocks.go_mono (k : Nat) (m : List (List UInt8)) : ∀ l, LeO (screelaw17_GcLocks.go k m l) (screelaw17_GcLocks.go (k + 1) m l)
 | [] => LeO.refl _
 | x :: l => LeO.bind (screeref17_Read.mono _ _ _) (fun _ => LeO.ite (LeO.ite (LeO.refl _) (LeO.ite (screelaw17_GcLocks.go_mono k m l) (LeO.bind (screeref02_Make.mono _ _ _ _) (fun _ => LeO.ite (LeO.ite (LeO.refl _) (LeO.ite (LeO.refl _) (screelaw17_GcLocks.go_mono k m l))) (LeO.refl _))))) (LeO.refl _))
def screelaw17_GcLocks.f (k : Nat) (l0 : List (S47)) (a1 : Int) : Option Bool :=
 (screelaw17_awake.f k).bind fun t => if t = true then ((screelaw17_large.f k l0).bind fun g => if g = true then some true else (gc_Garbage.f k l0 a1).bind fun G => if G.2 ≠ 0 then (if G.1 = [] then some true else none) else
  (screelaw17_GcLocks.put G.1 []).bind fun m => (screelaw17_GcLocks.go k m l0).bind fun _ => some true) else none
theorem screelaw17_GcLocks.mono : ∀ l0 a1 k, LeO (screelaw17_GcLocks.f k l0 a1) (screelaw17_GcLocks.f (k + 1) l0 a1) := by
 intro l0 a1 k
 unfold screelaw17_GcLocks.f
 exact LeO.bind (screelaw17_awake.mono _) (fun _ => LeO.ite (LeO.bind (screelaw17_large.mono _ _) (fun _ => LeO.ite (LeO.refl _) (LeO.bind (gc_Garbage.mono _ _ _) (fun _ => LeO.ite (LeO.refl _) (LeO.bind (LeO.refl _) (fun _ => LeO.bind (screelaw17_GcLocks.go_mono _ _ _) (fun _ => LeO.refl _))))))) (LeO.refl _))
set_option maxHeartbeats 6400000 in
set_option maxRecDepth 100000 in
theorem screelaw17_GcLocks.calls (k : Nat) (A0 : Option Addr) (c0 : Nat) (l0 : List (S47)) (a1 : Int) (r : Bool) (w : World) (hr0 : Kd.C k47 w A0 l0.length l0) (hc0 : l0.length ≤ c0) (h : screelaw17_GcLocks.f k l0 a1 = some r) :
  Calls Try.prog 8 #[.slice A0 l0.length c0, .int .u64 a1] w fun e w' => e = .returned (.bool r) ∧ Below w.heap.size w w' := by
 have HR0 := Aside0.mk hr0
 have HC0 := Aside0.mk hc0
 have HMX0 := Lib.hid (Kd.C_max hr0)
 clear hr0 hc0
 unfold screelaw17_GcLocks.f at h
 replace h := Option.bind_eq_some_iff.mp h
 obtain ⟨t, hA, h⟩ := h
 cases t with
 | false => exact absurd h (by simp)
 | true =>
 rw [if_pos rfl] at h
 have HA := Lib.hid hA
 clear hA
 replace h := Option.bind_eq_some_iff.mp h
 obtain ⟨g, hG, h⟩ := h
 have HG := Lib.hid hG
 clear hG
 cases g with
 | true =>
  rw [if_pos rfl] at h
  obtain rfl := Option.some.inj h
  clear h
  go_enter Try.func8, Try.ntmps8
  go_wp2_with (first
   | (go_at_call 10; (refine (screelaw17_awake.calls k true _ HA.out).mono ?_); rintro e w1 ⟨rfl, hb⟩; have HB1 := Aside0.mk hb; clear hb)
   | (go_at_call 11; (refine (screelaw17_large.calls k A0 c0 l0 true _ (Kd.C_below HR0.out HB1.out) HC0.out HG.out).mono ?_); rintro e w2 ⟨rfl, hb⟩; have HB2 := Aside0.mk (below_step HB1.out hb.below); clear HB1 hb))
  go_ret
  exact ⟨rfl, HB2.out⟩
 | false =>
 rw [if_neg (by simp)] at h
 replace h := Option.bind_eq_some_iff.mp h
 obtain ⟨⟨G, e⟩, hL, h⟩ := h
 have HL := Lib.hid hL
 clear hL
 by_cases he : e = 0
 case neg =>
  rw [if_pos he] at h
  by_cases hn : (G, e).1 = []
  case neg => rw [if_neg hn] at h; exact absurd h (by simp)
  rw [if_pos hn] at h
  obtain rfl := Option.some.inj h
  obtain rfl : G = [] := hn
  clear h
  have d1 : (e != 0) = true := bne_iff_ne.mpr he
  have d2 : (e == 0) = false := beq_eq_false_iff_ne.mpr he
  go_enter Try.func8, Try.ntmps8
  go_wp2_with (first
   | (go_at_call 10; (refine (screelaw17_awake.calls k true _ HA.out).mono ?_); rintro e w1 ⟨rfl, hb⟩; have HB1 := Aside0.mk hb; clear hb)
   | (go_at_call 11; (refine (screelaw17_large.calls k A0 c0 l0 false _ (Kd.C_below HR0.out HB1.out) HC0.out HG.out).mono ?_); rintro e w2 ⟨rfl, hb⟩; have HB2 := Aside0.mk (below_step HB1.out hb.below); clear HB1 hb)
   | (go_at_call 12; (refine (gc_Garbage.calls k A0 c0 l0 a1 [] e _ (Kd.C_below HR0.out HB2.out) HC0.out HL.out).mono ?_); rintro e w3 ⟨v0, rfl, hr, hb⟩; obtain ⟨AG, cG, eG⟩ := Kd.R_slice hr; subst eG; have HB3 := Aside0.mk (below_step HB2.out hb); clear HB2 hr hb))
  go_ret
  exact ⟨by simp, HB3.out⟩
 subst he
 rw [if_neg (by simp)] at h
 replace h := Option.bind_eq_some_iff.mp h
 obtain ⟨mf, hPut, h⟩ := h
 have HPut := Lib.hid hPut
 clear hPut
 replace h := Option.bind_eq_some_iff.mp h
 obtain ⟨un, hGo, h⟩ := h
 cases un
 have HGo := Lib.hid hGo
 clear hGo
 obtain rfl := Option.some.inj h
 clear h
 have hmm := @run_makeMap Try.prog
 go_enter Try.func8, Try.ntmps8
 go_wp2_with (first
  | (go_at_call 10; (refine (screelaw17_awake.calls k true _ HA.out).mono ?_); rintro e w1 ⟨rfl, hb⟩; have HB1 := Aside0.mk hb; clear hb)
  | (go_at_call 11; (refine (screelaw17_large.calls k A0 c0 l0 false _ (Kd.C_below HR0.out HB1.out) HC0.out HG.out).mono ?_); rintro e w2 ⟨rfl, hb⟩; have HB2 := Aside0.mk (below_step HB1.out hb.below); clear HB1 hb)
  | (go_at_call 12; (refine (gc_Garbage.calls k A0 c0 l0 a1 G 0 _ (Kd.C_below HR0.out HB2.out) HC0.out HL.out).mono ?_); rintro e w4 ⟨v0, rfl, hr, hb⟩; obtain ⟨AG, cG, eG⟩ := Kd.R_slice hr; subst eG; have HO4 := Aside0.mk (Kd.R_reads' hr); have HB4 := Aside0.mk (below_step HB2.out hb); clear HB2 hr hb))
 have HCG := Aside0.mk HO4.out.2.2
 clear HO4
 have HI0 := Aside0.mk (Mp.SMap.made Try.prog 9 4 Kt.encS w4)
 have HBL0 := Aside0.mk (below_alloc (Below.refl w4.heap.size w4) (.map #[] 0))
 have HSZ := Lib.hid HB4.out.size
 generalize hw5 : w4.alloc (.map #[] 0) = w5 at HI0 HBL0 ⊢
 clear hw5
 obtain ⟨b, hb⟩ : ∃ b, w4.heap.size = b := ⟨_, rfl⟩
 have HI1 : Aside0 (Kt.Keys w5 b []) := by rw [← hb]; exact HI0
 have HBB : Hid (w4.heap.size ≤ b) := Lib.hid (by omega)
 clear HI0
 rw [hb]
 clear hb
 have HMX := Lib.hid (Kd.C_max HCG.out)
 go_loopg [32] G.length (fun kq v32 w' => ∃ (i : Nat) (m : List (List UInt8)), v32 = .int .i64 (i : Int) ∧ Aside0 (kq + i = G.length) ∧ Aside0 (screelaw17_GcLocks.put (G.drop i) m = some mf) ∧ Aside0 (Kt.Keys w' b m) ∧ Aside0 (Below w4.heap.size w4 w'))
 case atStart => exact ⟨0, [], rfl, ⟨by omega⟩, ⟨HPut.out⟩, HI1, HBL0⟩
 case round =>
  clear HI1 HBL0 HPut
  obtain ⟨i, m, rfl, HI, HPut, HS, HB⟩ := hrel
  by_cases hlt : i < G.length
  ·have hkg : ∃ k1, gk = k1 + 1 := ⟨gk - 1, by have := HI.out; omega⟩
   obtain ⟨k1, rfl⟩ := hkg
   have hmx := HMX.out
   have dl : decide ((i : Int) < (G.length : Int)) = true := decide_eq_true (by omega)
   have hdr : G.drop i = G[i] :: G.drop (i + 1) := List.drop_eq_getElem_cons hlt
   have hg := HPut.out
   rw [hdr] at hg
   clear hdr HPut
   unfold screelaw17_GcLocks.put at hg
   obtain ⟨ad, ead, hcell⟩ := Kd.at_string HCG.out (i : Int) (by omega) (by omega)
   subst ead
   have hrd : rdOf ByteArray.empty G (i : Int) = G[i] := by simp [rdOf, hlt]
   rw [hrd] at hcell
   clear hrd
   replace hcell := (HB.out.cell (World.block_lt_of_cell? w4 _ hcell)).trans hcell
   have htn : ((i : Int)).toNat = i := by omega
   rw [htn] at hcell
   clear htn
   generalize G[i] = s at hg hcell
   by_cases hmay : s.size ≤ 140737488351232 ∧ m.length ≤ 1000000
   case neg => rw [if_neg hmay] at hg; exact absurd hg (by simp)
   rw [if_pos hmay] at hg
   have HGN := Lib.hid hg
   clear hg
   obtain ⟨w8, hrun, hown, hgr⟩ := Kt.Keys.put (s := s) HS.out hmay.2 hmay.1
   have HSn := Aside0.mk hown
   have HBn := Aside0.mk (HB.out.trans (Mp.grown_below hgr HB.out.size HBB.out))
   clear hown hgr hmay
   go_wp2
   go_roundg k1
   case measure => omega
   case rel => exact ⟨i + 1, Th.bl s :: m, by go_num, ⟨by have := HI.out; omega⟩, ⟨HGN.out⟩, HSn, HBn⟩
  ·have hi : i = G.length := by have := HI.out; omega
   have dl : decide ((i : Int) < (G.length : Int)) = false := decide_eq_false (by omega)
   have hmf := HPut.out
   rw [hi, List.drop_length] at hmf
   obtain rfl : m = mf := Option.some.inj hmf
   clear hi HPut HI hmf
   have HBW : Aside0 (Below w.heap.size w wr) := ⟨HB4.out.trans (HB.out.mono HSZ.out)⟩
   have HBS : Hid (w4.heap.size ≤ wr.heap.size) := Lib.hid HB.out.size
   clear HB
   go_wp2
   go_loopg [41] l0.length (fun kq v41 w' => ∃ (i : Nat), v41 = .int .i64 (i : Int) ∧ Aside0 (kq + i = l0.length) ∧ Aside0 (screelaw17_GcLocks.go k m (l0.drop i) = some ()) ∧ Aside0 (Kt.Keys w' b m) ∧ Aside0 (Below w.heap.size w w'))
   case atStart => exact ⟨0, rfl, ⟨by omega⟩, ⟨HGo.out⟩, HS, HBW⟩
   case round =>
    clear HS HBW HGo
    obtain ⟨i, rfl, HI, HGo, HS, HB⟩ := hrel
    by_cases hlt : i < l0.length
    ·have hkg : ∃ k1, gk = k1 + 1 := ⟨gk - 1, by have := HI.out; omega⟩
     obtain ⟨k1, rfl⟩ := hkg
     have hmx := HMX0.out
     have dl : decide ((i : Int) < (l0.length : Int)) = true := decide_eq_true (by omega)
     have hdr : l0.drop i = rd_T47 l0 (i : Int) :: l0.drop (i + 1) := by
      rw [List.drop_eq_getElem_cons hlt]; simp [rd_T47, hlt]
     have hg := HGo.out
     rw [hdr] at hg
     clear hdr HGo
     unfold screelaw17_GcLocks.go at hg
     obtain ⟨ad, ead, hx0, hx1, hx2, hx3⟩ := at_T47 HR0.out (i : Int) (by omega) (by omega)
     subst ead
     have htn : ((i : Int)).toNat = i := by omega
     rw [htn] at hx0 hx1 hx2 hx3
     clear htn
     have HX00 := Aside0.mk hx0
     replace hx0 := (HB.out.cell (World.block_lt_of_cell? w _ hx0)).trans hx0
     replace hx1 := (HB.out.cell (World.block_lt_of_cell? w _ hx1)).trans hx1
     replace hx2 := (HB.out.cell (World.block_lt_of_cell? w _ hx2)).trans hx2
     replace hx3 := (HB.out.cell (World.block_lt_of_cell? w _ hx3)).trans hx3
     generalize rd_T47 l0 (i : Int) = y at hg hx0 hx1 hx2 hx3 HX00
     obtain ⟨y0, y1, y2, y3⟩ := y
     simp only at hg hx0 hx1 hx2 hx3 HX00
     replace hg := Option.bind_eq_some_iff.mp hg
     obtain ⟨rr, hrd, hg⟩ := hg
     by_cases hmay : y0.size ≤ 140737488351232
     case neg => rw [if_neg hmay] at hg; exact absurd hg (by simp)
     rw [if_pos hmay] at hg
     have HRD := Lib.hid hrd
     have HGG := Lib.hid hg
     have HMY := Lib.hid hmay
     clear hrd hg hmay
     obtain ⟨r0, r1, r2, r3, r4, r5, r6, r7, r8⟩ := rr
     go_wp2_with (fail)
     refine (screeref17_Read.calls k y0 y1 y2 y3 ⟨r0, r1, r2, r3, r4, r5, r6, r7, r8⟩ _ HRD.out).mono ?_
     rintro e w6 ⟨rfl, hb⟩
     replace HS := Aside0.mk (Mp.SMap.below HS.out hb)
     replace HB := Aside0.mk (below_step HB.out hb)
     clear hb HRD hx0 hx1 hx2 hx3
     simp only [gc_read.R.cells]
     go_upto_region 18 with (fail)
     have HLT : Hid (b < w6.heap.size) := Lib.hid (Mp.SMap.lt HS.out)
     have BR := Aside0.mk (blk_new w6 (.cells #[.int .i64 r0, .string r1, .int .u64 r2, .string r3, .int .u64 r4, .int .i64 r5, .int .u64 r6, .int .u64 r7, .int .i64 r8] 44))
     replace HS := Aside0.mk (Mp.SMap.alloc HS.out (.cells #[.int .i64 r0, .string r1, .int .u64 r2, .string r3, .int .u64 r4, .int .i64 r5, .int .u64 r6, .int .u64 r7, .int .i64 r8] 44))
     replace HB := Aside0.mk (below_alloc HB.out (.cells #[.int .i64 r0, .string r1, .int .u64 r2, .string r3, .int .u64 r4, .int .i64 r5, .int .u64 r6, .int .u64 r7, .int .i64 r8] 44))
     generalize (w6.alloc (.cells #[.int .i64 r0, .string r1, .int .u64 r2, .string r3, .int .u64 r4, .int .i64 r5, .int .u64 r6, .int .u64 r7, .int .i64 r8] 44)) = w7 at HS HB BR ⊢
     generalize w6.heap.size = g11 at HLT BR ⊢
     have hx0 := (HB.out.cell (World.block_lt_of_cell? w _ HX00.out)).trans HX00.out
     have s1_ : w7.cell? ⟨g11, 1, none⟩ = some (.string r1) := (blk_cell BR.out 1).trans rfl
     have s4_ : w7.cell? ⟨g11, 4, none⟩ = some (.int .u64 r4) := (blk_cell BR.out 4).trans rfl
     have hlk := Kt.Keys.look (s := y0) HS.out HMY.out
     have hgg := HGG.out
     by_cases ci : Th.bl y0 ∈ m
     ·by_cases c01 : r0 = 0 ∨ r0 = 1
      ·rw [if_pos ⟨c01, ci⟩] at hgg; exact absurd hgg (by simp)
      have c0 : ¬ r0 = 0 := fun e => c01 (Or.inl e)
      have c1 : ¬ r0 = 1 := fun e => c01 (Or.inr e)
      have e0 : (r0 == 0) = false := beq_eq_false_iff_ne.mpr c0
      have e1 : (r0 == 1) = false := beq_eq_false_iff_ne.mpr c1
      have e2 : (r0 != 1) = true := bne_iff_ne.mpr c1
      have s0_ : w7.cell? ⟨g11, 0, none⟩ = some (.int .i64 r0) := (blk_cell BR.out 0).trans rfl
      rw [if_neg (fun e => c01 e.1), if_pos c1] at hgg
      have HGN := Lib.hid hgg
      clear hgg HGG hlk
      go_wp2
      go_roundg k1
      case measure => omega
      case rel => exact ⟨i + 1, by go_num, ⟨by have := HI.out; omega⟩, ⟨HGN.out⟩, HS, HB⟩
     rw [if_neg (fun e => ci e.2)] at hgg
     rw [decide_eq_false ci] at hlk
     by_cases c1 : r0 = 1
     case neg =>
      have e1 : (r0 == 1) = false := beq_eq_false_iff_ne.mpr c1
      have e2 : (r0 != 1) = true := bne_iff_ne.mpr c1
      rw [if_pos c1] at hgg
      have HGN := Lib.hid hgg
      clear hgg HGG
      by_cases c0 : r0 = 0
      ·subst c0
       have s0_ : w7.cell? ⟨g11, 0, none⟩ = some (.int .i64 0) := (blk_cell BR.out 0).trans rfl
       go_wp2
       go_roundg k1
       case measure => omega
       case rel => exact ⟨i + 1, by go_num, ⟨by have := HI.out; omega⟩, ⟨HGN.out⟩, HS, HB⟩
      ·have e0 : (r0 == 0) = false := beq_eq_false_iff_ne.mpr c0
       have s0_ : w7.cell? ⟨g11, 0, none⟩ = some (.int .i64 r0) := (blk_cell BR.out 0).trans rfl
       clear hlk
       go_wp2
       go_roundg k1
       case measure => omega
       case rel => exact ⟨i + 1, by go_num, ⟨by have := HI.out; omega⟩, ⟨HGN.out⟩, HS, HB⟩
     subst c1
     have s0_ : w7.cell? ⟨g11, 0, none⟩ = some (.int .i64 1) := (blk_cell BR.out 0).trans rfl
     rw [if_neg (by simp)] at hgg
     replace hgg := Option.bind_eq_some_iff.mp hgg
     obtain ⟨⟨p1, p2⟩, hmk, hgg⟩ := hgg
     by_cases hps : (p1, p2).1.size ≤ 140737488351232
     case neg => rw [if_neg hps] at hgg; exact absurd hgg (by simp)
     rw [if_pos hps] at hgg
     by_cases hp2 : (p1, p2).2 ≠ 0
     ·rw [if_pos hp2] at hgg; exact absurd hgg (by simp)
     rw [if_neg hp2] at hgg
     by_cases hpm : Th.bl (p1, p2).1 ∈ m
     ·rw [if_pos hpm] at hgg; exact absurd hgg (by simp)
     rw [if_neg hpm] at hgg
     have HGN := Lib.hid hgg
     have HMK := Lib.hid hmk
     have HPS : Hid (p1.size ≤ 140737488351232) := Lib.hid hps
     have HPM : Hid (¬ Th.bl p1 ∈ m) := Lib.hid hpm
     obtain rfl : p2 = 0 := Classical.byContradiction hp2
     clear hgg hmk hps hpm hp2 HGG
     go_wp2_with (go_at_call 22; (refine (screeref02_Make.calls k 3 r1 r4 p1 0 _ HMK.out).mono ?_); rintro e w9 ⟨rfl, hb⟩; have HSn := Aside0.mk (Mp.SMap.below HS.out hb); have HBn := Aside0.mk (below_step HB.out hb); have hlk2 := Kt.Keys.look (s := p1) HSn.out HPS.out; rw [decide_eq_false HPM.out] at hlk2; clear hb)
     go_roundg k1
     case measure => omega
     case rel => exact ⟨i + 1, by go_num, ⟨by have := HI.out; omega⟩, ⟨HGN.out⟩, HSn, HBn⟩
    ·have hi : i = l0.length := by have := HI.out; omega
     have dl : decide ((i : Int) < (l0.length : Int)) = false := decide_eq_false (by omega)
     clear hi HGo HI
     go_wp2
     go_ret
     exact ⟨rfl, HB.out⟩

/-! ### screelaw17_GcUsers: function 9 -/
def screelaw17_GcUsers.may (key : ByteArray) (own : List (S47)) (mine : List (List UInt8)) : Prop := key.size ≤ 140737488351232 ∧ own.length ≤ 1000000 ∧ mine.length ≤ 1000000
instance screelaw17_GcUsers.may_dec (key : ByteArray) (own : List (S47)) (mine : List (List UInt8)) : Decidable (screelaw17_GcUsers.may key own mine) := by unfold screelaw17_GcUsers.may; exact inferInstance
def screelaw17_GcUsers.go (k : Nat) (user : ByteArray) : List (S47) → List (S47) → List (List UInt8) → Option (List (S47) × List (List UInt8))
 | [], own, mine => some (own, mine)
 | x :: l, own, mine => (screeref17_Read.f k x.f0 x.f3).bind fun r => if screelaw17_GcUsers.may x.f0 own mine then (if r.cf ≠ 0 ∧ r.us.toList = user.toList then screelaw17_GcUsers.go k user l (own ++ [x]) (Th.bl x.f0 :: mine) else screelaw17_GcUsers.go k user l own mine) else none
theorem screelaw17_GcUsers.go_mono (k : Nat) (user : ByteArray) : ∀ l own mine, LeO (screelaw17_GcUsers.go k user l own mine) (screelaw17_GcUsers.go (k + 1) user l own mine)
 | [], _, _ => LeO.refl _
 | x :: l, own, mine => LeO.bind (screeref17_Read.mono _ _ _) (fun _ => LeO.ite (LeO.ite (screelaw17_GcUsers.go_mono k user l _ _) (screelaw17_GcUsers.go_mono k user l _ _)) (LeO.refl _))
def screelaw17_GcUsers.tell (mine : List (List UInt8)) (own : List ByteArray) : List ByteArray → Nat → Option Nat
 | [], n => some n
 | s :: l, n => if s.size ≤ 140737488351232 then (if Th.bl s ∈ mine then (if n < own.length then (if (rdOf ByteArray.empty own (n : Int)).toList = s.toList then screelaw17_GcUsers.tell mine own l (n + 1) else none) else none) else screelaw17_GcUsers.tell mine own l n) else none
def screelaw17_GcUsers.f (k : Nat) (l0 : List (S47)) (a1 : Int) (a2 : ByteArray) : Option Bool :=
 (screelaw17_awake.f k).bind fun t => if t = true then ((screelaw17_large.f k l0).bind fun g => if g = true then some true else if a2.size > 300 then some true else (gc_Garbage.f k l0 a1).bind fun G => if G.2 ≠ 0 then some true else
  (screelaw17_GcUsers.go k a2 l0 [] []).bind fun o => (gc_Garbage.f k o.1 a1).bind fun S => if S.2 = 0 then (screelaw17_GcUsers.tell o.2 S.1 G.1 0).bind fun n => if n = S.1.length then some true else none else none) else none
theorem screelaw17_GcUsers.mono : ∀ l0 a1 a2 k, LeO (screelaw17_GcUsers.f k l0 a1 a2) (screelaw17_GcUsers.f (k + 1) l0 a1 a2) := by
 intro l0 a1 a2 k
 unfold screelaw17_GcUsers.f
 exact LeO.bind (screelaw17_awake.mono _) (fun _ => LeO.ite (LeO.bind (screelaw17_large.mono _ _) (fun _ => LeO.ite (LeO.refl _) (LeO.ite (LeO.refl _) (LeO.bind (gc_Garbage.mono _ _ _) (fun _ => LeO.ite (LeO.refl _) (LeO.bind (screelaw17_GcUsers.go_mono _ _ _ _ _) (fun _ => LeO.bind (gc_Garbage.mono _ _ _) (fun _ => LeO.refl _)))))))) (LeO.refl _))
theorem screelaw17_GcUsers.info : (Try.prog.info? 47).map (fun i => (i.zero, i.size, i.bytes)) = some (some (.agg #[(.string ⟨#[]⟩), (.int .u64 0), (.bool false), (.string ⟨#[]⟩)]), 4, 48) := by kernel_rfl
set_option maxHeartbeats 6400000 in
set_option maxRecDepth 100000 in
theorem screelaw17_GcUsers.calls (k : Nat) (A0 : Option Addr) (c0 : Nat) (l0 : List (S47)) (a1 : Int) (a2 : ByteArray) (r : Bool) (w : World) (hr0 : Kd.C k47 w A0 l0.length l0) (hc0 : l0.length ≤ c0) (h : screelaw17_GcUsers.f k l0 a1 a2 = some r) :
  Calls Try.prog 9 #[.slice A0 l0.length c0, .int .u64 a1, .string a2] w fun e w' => e = .returned (.bool r) ∧ Below w.heap.size w w' := by
 have HR0 := Aside0.mk hr0
 have HC0 := Aside0.mk hc0
 have HMX0 := Lib.hid (Kd.C_max hr0)
 clear hr0 hc0
 unfold screelaw17_GcUsers.f at h
 replace h := Option.bind_eq_some_iff.mp h
 obtain ⟨t, hA, h⟩ := h
 cases t with
 | false => exact absurd h (by simp)
 | true =>
 rw [if_pos rfl] at h
 have HA := Lib.hid hA
 clear hA
 replace h := Option.bind_eq_some_iff.mp h
 obtain ⟨g, hG, h⟩ := h
 have HG := Lib.hid hG
 clear hG
 cases g with
 | true =>
  rw [if_pos rfl] at h
  obtain rfl := Option.some.inj h
  clear h
  go_enter Try.func9, Try.ntmps9
  go_wp2_with (first
   | (go_at_call 10; (refine (screelaw17_awake.calls k true _ HA.out).mono ?_); rintro e w1 ⟨rfl, hb⟩; have HB1 := Aside0.mk hb; clear hb)
   | (go_at_call 11; (refine (screelaw17_large.calls k A0 c0 l0 true _ (Kd.C_below HR0.out HB1.out) HC0.out HG.out).mono ?_); rintro e w2 ⟨rfl, hb⟩; have HB2 := Aside0.mk (below_step HB1.out hb.below); clear HB1 hb))
  go_ret
  exact ⟨rfl, HB2.out⟩
 | false =>
 rw [if_neg (by simp)] at h
 by_cases hu : a2.size > 300
 ·rw [if_pos hu] at h
  obtain rfl := Option.some.inj h
  clear h
  have du : decide (300 < (a2.size : Int)) = true := decide_eq_true (by omega)
  clear hu
  go_enter Try.func9, Try.ntmps9
  go_wp2_with (first
   | (go_at_call 10; (refine (screelaw17_awake.calls k true _ HA.out).mono ?_); rintro e w1 ⟨rfl, hb⟩; have HB1 := Aside0.mk hb; clear hb)
   | (go_at_call 11; (refine (screelaw17_large.calls k A0 c0 l0 false _ (Kd.C_below HR0.out HB1.out) HC0.out HG.out).mono ?_); rintro e w2 ⟨rfl, hb⟩; have HB2 := Aside0.mk (below_step HB1.out hb.below); clear HB1 hb))
  go_ret
  exact ⟨rfl, HB2.out⟩
 rw [if_neg hu] at h
 have du : decide (300 < (a2.size : Int)) = false := decide_eq_false (by omega)
 clear hu
 replace h := Option.bind_eq_some_iff.mp h
 obtain ⟨⟨G, e⟩, hL, h⟩ := h
 have HL := Lib.hid hL
 clear hL
 by_cases he : e = 0
 case neg =>
  rw [if_pos he] at h
  obtain rfl := Option.some.inj h
  clear h
  have d1 : (e != 0) = true := bne_iff_ne.mpr he
  have d2 : (e == 0) = false := beq_eq_false_iff_ne.mpr he
  go_enter Try.func9, Try.ntmps9
  go_wp2_with (first
   | (go_at_call 10; (refine (screelaw17_awake.calls k true _ HA.out).mono ?_); rintro e w1 ⟨rfl, hb⟩; have HB1 := Aside0.mk hb; clear hb)
   | (go_at_call 11; (refine (screelaw17_large.calls k A0 c0 l0 false _ (Kd.C_below HR0.out HB1.out) HC0.out HG.out).mono ?_); rintro e w2 ⟨rfl, hb⟩; have HB2 := Aside0.mk (below_step HB1.out hb.below); clear HB1 hb)
   | (go_at_call 12; (refine (gc_Garbage.calls k A0 c0 l0 a1 G e _ (Kd.C_below HR0.out HB2.out) HC0.out HL.out).mono ?_); rintro e w3 ⟨v0, rfl, hr, hb⟩; obtain ⟨AG, cG, eG⟩ := Kd.R_slice hr; subst eG; have HB3 := Aside0.mk (below_step HB2.out hb); clear HB2 hr hb))
  go_ret
  exact ⟨rfl, HB3.out⟩
 subst he
 rw [if_neg (by simp)] at h
 replace h := Option.bind_eq_some_iff.mp h
 obtain ⟨⟨ownf, minef⟩, hGo, h⟩ := h
 have HGo := Lib.hid hGo
 clear hGo
 replace h := Option.bind_eq_some_iff.mp h
 obtain ⟨⟨S, es⟩, hS, h⟩ := h
 by_cases hes : (S, es).2 = 0
 case neg => rw [if_neg hes] at h; exact absurd h (by simp)
 rw [if_pos hes] at h
 obtain rfl : es = 0 := hes
 have HSO := Lib.hid hS
 clear hS
 replace h := Option.bind_eq_some_iff.mp h
 obtain ⟨nf, hT, h⟩ := h
 by_cases hnf : nf = (S, (0 : Int)).1.length
 case neg => rw [if_neg hnf] at h; exact absurd h (by simp)
 rw [if_pos hnf] at h
 obtain rfl := Option.some.inj h
 have HT := Lib.hid hT
 have HNF : Hid (nf = S.length) := Lib.hid hnf
 clear h hT hnf
 have hmm := @run_makeMap Try.prog
 go_enter Try.func9, Try.ntmps9
 go_wp2_with (first
  | (go_at_call 10; (refine (screelaw17_awake.calls k true _ HA.out).mono ?_); rintro e w1 ⟨rfl, hb⟩; have HB1 := Aside0.mk hb; clear hb)
  | (go_at_call 11; (refine (screelaw17_large.calls k A0 c0 l0 false _ (Kd.C_below HR0.out HB1.out) HC0.out HG.out).mono ?_); rintro e w2 ⟨rfl, hb⟩; have HB2 := Aside0.mk (below_step HB1.out hb.below); clear HB1 hb)
  | (go_at_call 12; (refine (gc_Garbage.calls k A0 c0 l0 a1 G 0 _ (Kd.C_below HR0.out HB2.out) HC0.out HL.out).mono ?_); rintro e w4 ⟨v0, rfl, hr, hb⟩; obtain ⟨AG, cG, eG⟩ := Kd.R_slice hr; subst eG; have HO4 := Aside0.mk (Kd.R_reads' hr); have HB4 := Aside0.mk (below_step HB2.out hb); clear HB2 hr hb)
  | ((with_reducible refine gate_dst (N := 35) rfl ?_); refine Kd.R_lit k47 _ 47 ?hg (N := 35) ?hd (xs := ([] : List (S47))) (inner := []) (ok := fun _ => True) (okp := fun _ => True) ?hr ?hp (fun _ hk => hk) trivial (Below.refl _ _) (Nat.le_refl _) (by simp) ?_; (case hd => rfl); (case hg => rfl); (case hr => first | (go_simp; done) | (go_simp; rfl)); (case hp => exact (Reps.none _ _)); intro v5 w5 ho hb hg_ hnew_; clear hg_ hnew_; have HO5 := Aside0.mk ho; have HB5 := Aside0.mk hb; clear ho hb))
 have HCG := Aside0.mk HO4.out.2.2
 clear HO4
 have HI0 := Aside0.mk (Mp.SMap.made Try.prog 9 4 Kt.encS w5)
 have HO6 := Aside0.mk (Kd.R_alloc (Kd.R_mono (ok' := fun k_ => k_ ≠ w5.heap.size) (Kd.R_bound HO5.out) (fun k_ hk_ => by have := hk_.2.2.1; omega)) (.map #[] 0))
 have HBL0 := Aside0.mk (below_alloc HB5.out (.map #[] 0))
 have HSZ := Lib.hid HB4.out.size
 have HSZ5 := Lib.hid HB5.out.size
 clear HO5 HB5
 generalize hw6 : w5.alloc (.map #[] 0) = w6 at HI0 HO6 HBL0 ⊢
 clear hw6
 obtain ⟨b, hb⟩ : ∃ b, w5.heap.size = b := ⟨_, rfl⟩
 have HI1 : Aside0 (Kt.Keys w6 b []) := by rw [← hb]; exact HI0
 rw [hb] at HO6
 have HBB : Hid (w4.heap.size ≤ b) := Lib.hid (by have := HSZ5.out; omega)
 clear HI0
 rw [hb]
 clear hb HSZ5
 have HMX := Lib.hid (Kd.C_max HCG.out)
 have HR4 := Aside0.mk (Kd.C_below HR0.out HB4.out)
 go_loopg [9, 39] l0.length (fun kq v9 v39 w' => ∃ (i : Nat) (own : List (S47)) (mine : List (List UInt8)), v39 = .int .i64 (i : Int) ∧ Aside0 (kq + i = l0.length) ∧ Aside0 (screelaw17_GcUsers.go k a2 (l0.drop i) own mine = some (ownf, minef)) ∧ Aside0 (Kt.Keys w' b mine) ∧ Aside0 (Kd.R k47 47 w' w4.heap.size (fun k_ => k_ ≠ b) v9 own) ∧ Aside0 (Below w4.heap.size w4 w'))
 case atStart => exact ⟨0, [], [], rfl, ⟨by omega⟩, ⟨HGo.out⟩, HI1, HO6, HBL0⟩
 case round =>
  clear HI1 HBL0 HO6 HGo
  obtain ⟨i, own, mine, rfl, HI, HGo, HS, HO, HB⟩ := hrel
  by_cases hlt : i < l0.length
  ·have hkg : ∃ k1, gk = k1 + 1 := ⟨gk - 1, by have := HI.out; omega⟩
   obtain ⟨k1, rfl⟩ := hkg
   have hmx := HMX0.out
   have dl : decide ((i : Int) < (l0.length : Int)) = true := decide_eq_true (by omega)
   have hdr : l0.drop i = rd_T47 l0 (i : Int) :: l0.drop (i + 1) := by
    rw [List.drop_eq_getElem_cons hlt]; simp [rd_T47, hlt]
   have hg := HGo.out
   rw [hdr] at hg
   clear hdr HGo
   unfold screelaw17_GcUsers.go at hg
   obtain ⟨ad, ead, hx0, hx1, hx2, hx3⟩ := at_T47 HR4.out (i : Int) (by omega) (by omega)
   subst ead
   have htn : ((i : Int)).toNat = i := by omega
   rw [htn] at hx0 hx1 hx2 hx3
   clear htn
   have HX0 := Aside0.mk hx0
   have HX1 := Aside0.mk hx1
   have HX2 := Aside0.mk hx2
   have HX3 := Aside0.mk hx3
   replace hx0 := (HB.out.cell (World.block_lt_of_cell? w4 _ hx0)).trans hx0
   replace hx1 := (HB.out.cell (World.block_lt_of_cell? w4 _ hx1)).trans hx1
   replace hx2 := (HB.out.cell (World.block_lt_of_cell? w4 _ hx2)).trans hx2
   replace hx3 := (HB.out.cell (World.block_lt_of_cell? w4 _ hx3)).trans hx3
   generalize rd_T47 l0 (i : Int) = y at hg hx0 hx1 hx2 hx3 HX0 HX1 HX2 HX3
   obtain ⟨y0, y1, y2, y3⟩ := y
   simp only at hg hx0 hx1 hx2 hx3 HX0 HX1 HX2 HX3
   replace hg := Option.bind_eq_some_iff.mp hg
   obtain ⟨rr, hrd, hg⟩ := hg
   by_cases hmay : screelaw17_GcUsers.may y0 own mine
   case neg => rw [if_neg hmay] at hg; exact absurd hg (by simp)
   rw [if_pos hmay] at hg
   have HRD := Lib.hid hrd
   have HGG := Lib.hid hg
   have HMY := Lib.hid hmay
   clear hrd hg hmay
   obtain ⟨r0, r1, r2, r3, r4, r5, r6, r7, r8⟩ := rr
   go_wp2_with (fail)
   refine (screeref17_Read.calls k y0 y1 y2 y3 ⟨r0, r1, r2, r3, r4, r5, r6, r7, r8⟩ _ HRD.out).mono ?_
   rintro e w7 ⟨rfl, hb⟩
   replace HS := Aside0.mk (Mp.SMap.below HS.out hb)
   replace HO := Aside0.mk (Kd.R_below HO.out hb)
   replace HB := Aside0.mk (below_step HB.out hb)
   clear hb HRD hx0 hx1 hx2 hx3
   simp only [gc_read.R.cells]
   go_upto_region 14 with (fail)
   have BR := Aside0.mk (blk_new w7 (.cells #[.int .i64 r0, .string r1, .int .u64 r2, .string r3, .int .u64 r4, .int .i64 r5, .int .u64 r6, .int .u64 r7, .int .i64 r8] 44))
   replace HS := Aside0.mk (Mp.SMap.alloc HS.out (.cells #[.int .i64 r0, .string r1, .int .u64 r2, .string r3, .int .u64 r4, .int .i64 r5, .int .u64 r6, .int .u64 r7, .int .i64 r8] 44))
   replace HO := Aside0.mk (Kd.R_alloc HO.out (.cells #[.int .i64 r0, .string r1, .int .u64 r2, .string r3, .int .u64 r4, .int .i64 r5, .int .u64 r6, .int .u64 r7, .int .i64 r8] 44))
   replace HB := Aside0.mk (below_alloc HB.out (.cells #[.int .i64 r0, .string r1, .int .u64 r2, .string r3, .int .u64 r4, .int .i64 r5, .int .u64 r6, .int .u64 r7, .int .i64 r8] 44))
   generalize (w7.alloc (.cells #[.int .i64 r0, .string r1, .int .u64 r2, .string r3, .int .u64 r4, .int .i64 r5, .int .u64 r6, .int .u64 r7, .int .i64 r8] 44)) = w8 at HS HO HB BR ⊢
   generalize w7.heap.size = g12 at BR ⊢
   have s0_ : w8.cell? ⟨g12, 0, none⟩ = some (.int .i64 r0) := (blk_cell BR.out 0).trans rfl
   have s1_ : w8.cell? ⟨g12, 1, none⟩ = some (.string r1) := (blk_cell BR.out 1).trans rfl
   have hgg := HGG.out
   by_cases c0 : r0 = 0
   ·subst c0
    rw [if_neg (by simp)] at hgg
    have HGN := Lib.hid hgg
    clear hgg HGG
    go_wp2
    go_roundg k1
    case measure => omega
    case rel => exact ⟨i + 1, own, mine, by go_num, ⟨by have := HI.out; omega⟩, ⟨HGN.out⟩, HS, HO, HB⟩
   have e0 : (r0 != 0) = true := bne_iff_ne.mpr c0
   have e0b : (r0 == 0) = false := beq_eq_false_iff_ne.mpr c0
   by_cases cu : r1.toList = a2.toList
   case neg =>
    rw [if_neg (fun e => cu e.2)] at hgg
    have HGN := Lib.hid hgg
    have eu : (r1.toList == a2.toList) = false := beq_eq_false_iff_ne.mpr cu
    have eu2 : (r1.toList != a2.toList) = true := bne_iff_ne.mpr cu
    clear hgg HGG cu
    go_wp2
    go_roundg k1
    case measure => omega
    case rel => exact ⟨i + 1, own, mine, by go_num, ⟨by have := HI.out; omega⟩, ⟨HGN.out⟩, HS, HO, HB⟩
   rw [if_pos ⟨c0, cu⟩] at hgg
   have HGN := Lib.hid hgg
   have eu : (r1.toList == a2.toList) = true := beq_iff_eq.mpr cu
   have eu2 : (r1.toList != a2.toList) = false := bne_eq_false_iff_eq.mpr cu
   clear hgg HGG cu c0
   have hx0 := (HB.out.cell (World.block_lt_of_cell? w4 _ HX0.out)).trans HX0.out
   have hx1 := (HB.out.cell (World.block_lt_of_cell? w4 _ HX1.out)).trans HX1.out
   have hx2 := (HB.out.cell (World.block_lt_of_cell? w4 _ HX2.out)).trans HX2.out
   have hx3 := (HB.out.cell (World.block_lt_of_cell? w4 _ HX3.out)).trans HX3.out
   have HLT : Hid (b < w8.heap.size) := Lib.hid (Mp.SMap.lt HS.out)
   have HAL : Hid (own.length ≤ 1000000) := Lib.hid HMY.out.2.1
   have HKS : Hid (y0.size ≤ 140737488351232 ∧ mine.length ≤ 1000000) := Lib.hid ⟨HMY.out.1, HMY.out.2.2⟩
   clear HMY
   go_wp2_with (first | ((with_reducible refine gate_builtin (b := .append) (xs := #[.tmp 56, .tmp 61]) rfl ?_); at_builtin; refine Kd.R_append k47 (w0 := w4) w4.heap.size rfl (.tmp 56) (.tmp 61) 22 47 (.agg #[(.string ⟨#[]⟩), (.int .u64 0), (.bool false), (.string ⟨#[]⟩)]) 48 rfl Try.underlying22 screelaw17_GcUsers.info rfl (by decide) (by omega) u9 own (⟨y0, y1, y2, y3⟩ : S47) [.string y0, .int .u64 y1, .bool y2, .string y3] (fun k_ => k_ ≠ b) (fun _ => False) rfl (by first | (go_simp; done) | (go_simp; rfl)) ?aP (fun _ hk => hk.elim) ?aF ?aO ?aB ?aS ?aL ?_; (case aP => exact k47_mkM _ _ _ (⟨y0, y1, y2, y3⟩ : S47)); (case aB => exact HB.out); (case aF => exact (fun k_ hk_ e_ => by have := HLT.out; omega)); (case aO => exact HO.out); (case aS => exact HB.out.size); (case aL => have := HAL.out; omega); intro v1 z1 ho hb hg hat; have HOg := Aside0.mk ho; have HSg := Aside0.mk (Mp.SMap.kept HS.out hg (fun e_ => HO.out.1 b e_.symm rfl)); have HBg := Aside0.mk hb; have hx0z := (HBg.out.cell (World.block_lt_of_cell? w4 _ HX0.out)).trans HX0.out; obtain ⟨w9, hrun, hown, hgr⟩ := Kt.Keys.put (s := y0) HSg.out HKS.out.2 HKS.out.1; have HSn := Aside0.mk hown; have HOn := Aside0.mk (Kd.R_grown HOg.out hgr (fun k_ hk_ e_ => hk_ (Option.some.inj e_))); have HBn := Aside0.mk (HBg.out.trans (Mp.grown_below hgr HBg.out.size HBB.out)); clear ho hb hg hat HO HB HS hx0 hx1 hx2 hx3 hown hgr))
   go_roundg k1
   case measure => omega
   case rel => exact ⟨i + 1, own ++ [(⟨y0, y1, y2, y3⟩ : S47)], Th.bl y0 :: mine, by go_num, ⟨by have := HI.out; omega⟩, ⟨HGN.out⟩, HSn, HOn, HBn⟩
  ·have hi : i = l0.length := by have := HI.out; omega
   have dl : decide ((i : Int) < (l0.length : Int)) = false := decide_eq_false (by omega)
   have hgf := HGo.out
   rw [hi, List.drop_length] at hgf
   obtain ⟨rfl, rfl⟩ : own = ownf ∧ mine = minef := by
    have h2 := Option.some.inj hgf
    exact ⟨congrArg Prod.fst h2, congrArg Prod.snd h2⟩
   clear hi HGo HI hgf
   obtain ⟨AO, cO, eO⟩ := Kd.R_slice HO.out
   subst eO
   have HOR := Aside0.mk (Kd.R_reads' HO.out)
   clear HO
   have HBW : Aside0 (Below w.heap.size w wr) := ⟨HB4.out.trans (HB.out.mono HSZ.out)⟩
   go_wp2_with (go_at_call 12; (refine (gc_Garbage.calls k AO cO own a1 S 0 _ HOR.out.2.2 HOR.out.2.1 HSO.out).mono ?_); rintro e w9 ⟨v0, rfl, hr, hb⟩; obtain ⟨AS, cS, eS⟩ := Kd.R_slice hr; subst eS; have HS9 := Aside0.mk (Kd.R_reads' hr); have HK9 := Aside0.mk (Mp.SMap.below HS.out hb); have HCG9 := Aside0.mk (Kd.C_below (Kd.C_below HCG.out HB.out) hb); have HB9 := Aside0.mk (below_step HBW.out hb); clear hr hb HB HBW HS)
   have HCS := Aside0.mk HS9.out.2.2
   have HMS := Lib.hid (Kd.C_max HCS.out)
   have HZ9 := Lib.hid HB9.out.size
   clear HS9
   go_loopg [15, 78] G.length (fun kq v15 v78 w' => ∃ (i n : Nat), v78 = .int .i64 (i : Int) ∧ v15 = .int .i64 (n : Int) ∧ Aside0 (kq + i = G.length) ∧ Aside0 (screelaw17_GcUsers.tell mine S (G.drop i) n = some nf) ∧ Aside0 (Below w9.heap.size w9 w'))
   case atStart => exact ⟨0, 0, rfl, rfl, ⟨by omega⟩, ⟨HT.out⟩, ⟨Below.refl _ _⟩⟩
   case round =>
    clear HT
    obtain ⟨i, n, rfl, rfl, HI, HT, HB⟩ := hrel
    by_cases hlt : i < G.length
    ·have hkg : ∃ k1, gk = k1 + 1 := ⟨gk - 1, by have := HI.out; omega⟩
     obtain ⟨k1, rfl⟩ := hkg
     have hmx := HMX.out
     have dl : decide ((i : Int) < (G.length : Int)) = true := decide_eq_true (by omega)
     have hdr : G.drop i = G[i] :: G.drop (i + 1) := List.drop_eq_getElem_cons hlt
     have hg := HT.out
     rw [hdr] at hg
     clear hdr HT
     unfold screelaw17_GcUsers.tell at hg
     obtain ⟨ad, ead, hcell⟩ := Kd.at_string HCG9.out (i : Int) (by omega) (by omega)
     subst ead
     have hrd : rdOf ByteArray.empty G (i : Int) = G[i] := by simp [rdOf, hlt]
     rw [hrd] at hcell
     clear hrd
     replace hcell := (HB.out.cell (World.block_lt_of_cell? w9 _ hcell)).trans hcell
     have htn : ((i : Int)).toNat = i := by omega
     rw [htn] at hcell
     clear htn
     generalize G[i] = s at hg hcell
     by_cases hmay : s.size ≤ 140737488351232
     case neg => rw [if_neg hmay] at hg; exact absurd hg (by simp)
     rw [if_pos hmay] at hg
     have hlk := Kt.Keys.look (s := s) (Mp.SMap.below HK9.out HB.out) hmay
     clear hmay
     by_cases hin : Th.bl s ∈ mine
     case neg =>
      rw [if_neg hin] at hg
      rw [decide_eq_false hin] at hlk
      have HGN := Lib.hid hg
      clear hg hin
      go_wp2
      go_roundg k1
      case measure => omega
      case rel => exact ⟨i + 1, n, by go_num, rfl, ⟨by have := HI.out; omega⟩, ⟨HGN.out⟩, HB⟩
     rw [if_pos hin] at hg
     rw [decide_eq_true hin] at hlk
     clear hin
     by_cases hn : n < S.length
     case neg => rw [if_neg hn] at hg; exact absurd hg (by simp)
     rw [if_pos hn] at hg
     obtain ⟨ad2, ead2, hcell2⟩ := Kd.at_string HCS.out (n : Int) (by omega) (by omega)
     subst ead2
     replace hcell2 := (HB.out.cell (World.block_lt_of_cell? w9 _ hcell2)).trans hcell2
     have htn2 : ((n : Int)).toNat = n := by omega
     rw [htn2] at hcell2
     clear htn2
     generalize rdOf ByteArray.empty S (n : Int) = s2 at hg hcell2
     by_cases hs : s2.toList = s.toList
     case neg => rw [if_neg hs] at hg; exact absurd hg (by simp)
     rw [if_pos hs] at hg
     have e1 : (s2.toList == s.toList) = true := beq_iff_eq.mpr hs
     have e2 : (s2.toList != s.toList) = false := bne_eq_false_iff_eq.mpr hs
     have hms := HMS.out
     have d2 : decide ((S.length : Int) ≤ (n : Int)) = false := decide_eq_false (by omega)
     have HGN := Lib.hid hg
     clear hg hs
     go_wp2
     go_roundg k1
     case measure => omega
     case rel => exact ⟨i + 1, n + 1, by go_num, by go_num, ⟨by have := HI.out; omega⟩, ⟨HGN.out⟩, HB⟩
    ·have hi : i = G.length := by have := HI.out; omega
     have dl : decide ((i : Int) < (G.length : Int)) = false := decide_eq_false (by omega)
     have hnf := HT.out
     rw [hi, List.drop_length] at hnf
     obtain rfl : n = nf := Option.some.inj hnf
     have hns : n = S.length := HNF.out
     subst hns
     clear hi HI HT hnf
     go_wp2
     go_ret
     exact ⟨by simp, HB9.out.trans (HB.out.mono HZ9.out)⟩

end Go.Proofs.Ytcdadhgcjkgnoaa.P
