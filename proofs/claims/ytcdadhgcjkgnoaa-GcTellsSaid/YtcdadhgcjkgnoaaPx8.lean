-- Printed by a program of this session's own (wip/tools/pprint.sh, over the kit's print, with given contracts): not typed by hand.
import Derived.Test.YtcdadhgcjkgnoaaPx0
import Derived.Test.YtcdadhgcjkgnoaaPx2
import Derived.Test.YtcdadhgcjkgnoaaPx7
namespace Go.Proofs.Ytcdadhgcjkgnoaa.P
open Go.RowKit Go.Proofs.YtcdadhgcjkgnoaaW.PrintWords Go.Proofs.YtcdadhgcjkgnoaaW.PrintLast Go.Proofs.YtcdadhgcjkgnoaaW.PrintMore
set_option linter.unusedVariables false
set_option linter.unusedSimpArgs false
-- SQUEEZED3

/-! ### gc_needed: function 36 -/
open Th in
/-- What a record changes: the data that are needed, the keys that may go, the users' keys of which the write that shows was met. -/
def gc_needed.nx (safe : Int) (key : ByteArray) (r : gc_read.R) (ok : Bool) (D : List (List UInt8 × Int)) (G S : List (List UInt8)) : List (List UInt8 × Int) × List (List UInt8) × List (List UInt8) :=
 if ok = false then (D, G, S) else if r.cf = 1 then ((bl r.us, r.ls) :: D, G, S) else if r.cf ≠ 2 then (D, G, S) else
 if safe < r.tm then (if r.wk = 1 then ((bl r.us, r.ws) :: D, G, S) else (D, G, S)) else
 if r.wk = 3 then (D, bl key :: G, S) else if bl r.us ∈ S then (D, bl key :: G, S) else
 if r.wk = 1 then ((bl r.us, r.ws) :: D, G, bl r.us :: S) else (D, bl key :: G, bl r.us :: S)
def gc_needed.may (key : ByteArray) (r : gc_read.R) (D : List (List UInt8 × Int)) (G S : List (List UInt8)) : Prop :=
 key.size ≤ 140737488351232 ∧ r.us.size ≤ 140737488351232 ∧ (0 ≤ r.ls ∧ r.ls < 18446744073709551616) ∧ (0 ≤ r.ws ∧ r.ws < 18446744073709551616) ∧ D.length ≤ 1000000 ∧ G.length ≤ 1000000 ∧ S.length ≤ 1000000
instance gc_needed.may_dec (key : ByteArray) (r : gc_read.R) (D : List (List UInt8 × Int)) (G S : List (List UInt8)) : Decidable (gc_needed.may key r D G S) := by unfold gc_needed.may; exact inferInstance
def gc_needed.go (k : Nat) (safe : Int) : List (S47) → List (List UInt8 × Int) → List (List UInt8) → List (List UInt8) → Option (List (List UInt8 × Int) × List (List UInt8))
 | [], D, G, _ => some (D, G)
 | x :: l, D, G, S => (gc_read.f k x.f0 x.f3).bind fun o => if gc_needed.may x.f0 o.1 D G S then gc_needed.go k safe l (gc_needed.nx safe x.f0 o.1 o.2 D G S).1 (gc_needed.nx safe x.f0 o.1 o.2 D G S).2.1 (gc_needed.nx safe x.f0 o.1 o.2 D G S).2.2 else none
theorem gc_needed.go_mono (k : Nat) (safe : Int) : ∀ l D G S, LeO (gc_needed.go k safe l D G S) (gc_needed.go (k + 1) safe l D G S)
 | [], _, _, _ => LeO.refl _
 | x :: l, D, G, S => LeO.bind (gc_read.mono _ _ _) (fun _ => LeO.ite (gc_needed.go_mono k safe l _ _ _) (LeO.refl _))
def gc_needed.f (k : Nat) (l0 : List (S47)) (safe : Int) : Option (List (List UInt8 × Int) × List (List UInt8)) := gc_needed.go k safe l0 [] [] []
theorem gc_needed.mono : ∀ l0 a1 k, LeO (gc_needed.f k l0 a1) (gc_needed.f (k + 1) l0 a1) := fun l0 a1 k => gc_needed.go_mono k a1 l0 [] [] []
set_option maxHeartbeats 6400000 in
set_option maxRecDepth 100000 in
theorem gc_needed.calls (k : Nat) (A0 : Option Addr) (c0 : Nat) (l0 : List (S47)) (a1 : Int) (Df : List (List UInt8 × Int)) (Gf : List (List UInt8)) (w : World) (hr0 : Kd.C k47 w A0 l0.length l0) (hc0 : l0.length ≤ c0) (h : gc_needed.f k l0 a1 = some (Df, Gf)) :
  Calls Try.prog 36 #[.slice A0 l0.length c0, .int .u64 a1] w fun e w' => ∃ b1 b2, e = .returned (.tuple #[.map (some b1), .map (some b2)]) ∧ Kt.Data w' b1 Df ∧ Kt.Keys w' b2 Gf ∧ w.heap.size ≤ b1 ∧ w.heap.size ≤ b2 ∧ b1 ≠ b2 ∧ Below w.heap.size w w' := by
 have HR0 := Aside0.mk hr0
 have HMX := Lib.hid (Kd.C_max hr0)
 clear hr0 hc0
 have HG : Hid (gc_needed.go k a1 l0 [] [] [] = some (Df, Gf)) := Lib.hid h
 clear h
 have hmm := @run_makeMap Try.prog
 go_enter Try.func36, Try.ntmps36
 go_wp2_with (fail)
 have HD0 : Aside0 (Kt.Data (((w.alloc (.map #[] 0)).alloc (.map #[] 0)).alloc (.map #[] 0)) w.heap.size []) := ⟨Mp.SMap.alloc (Mp.SMap.alloc (Mp.SMap.made Try.prog _ _ Kt.encAt w) _) _⟩
 have HK0 : Aside0 (Kt.Keys (((w.alloc (.map #[] 0)).alloc (.map #[] 0)).alloc (.map #[] 0)) (w.heap.size + 1) []) := ⟨by
  have := Mp.SMap.made Try.prog 9 4 Kt.encS (w.alloc (.map #[] 0))
  rw [World.size_alloc] at this
  exact this.alloc _⟩
 have HS0 : Aside0 (Kt.Keys (((w.alloc (.map #[] 0)).alloc (.map #[] 0)).alloc (.map #[] 0)) (w.heap.size + 1 + 1) []) := ⟨by
  have := Mp.SMap.made Try.prog 9 4 Kt.encS ((w.alloc (.map #[] 0)).alloc (.map #[] 0))
  rw [World.size_alloc, World.size_alloc] at this
  exact this⟩
 have HB0 : Aside0 (Below w.heap.size w (((w.alloc (.map #[] 0)).alloc (.map #[] 0)).alloc (.map #[] 0))) := ⟨below_alloc (below_alloc (below_alloc (Below.refl _ _) _) _) _⟩
 have HB3 : Hid (w.heap.size ≤ w.heap.size ∧ w.heap.size ≤ w.heap.size + 1 ∧ w.heap.size ≤ w.heap.size + 1 + 1 ∧ w.heap.size ≠ w.heap.size + 1 ∧ w.heap.size ≠ w.heap.size + 1 + 1 ∧ w.heap.size + 1 ≠ w.heap.size + 1 + 1) := Lib.hid ⟨r37_, r37_, r37_, r37_, r37_, r37_⟩
 generalize (((w.alloc (.map #[] 0)).alloc (.map #[] 0)).alloc (.map #[] 0)) = w1 at HD0 HK0 HS0 HB0 ⊢
 obtain ⟨b1, hb1⟩ : ∃ b, w.heap.size = b := ⟨_, rfl⟩
 obtain ⟨b2, hb2⟩ : ∃ b, w.heap.size + 1 = b := ⟨_, rfl⟩
 obtain ⟨b3, hb3⟩ : ∃ b, w.heap.size + 1 + 1 = b := ⟨_, rfl⟩
 have HBN : Hid (w.heap.size ≤ b1 ∧ w.heap.size ≤ b2 ∧ w.heap.size ≤ b3 ∧ b1 ≠ b2 ∧ b1 ≠ b3 ∧ b2 ≠ b3) := Lib.hid (by have := HB3.out; omega)
 have HD : Aside0 (Kt.Data w1 b1 []) := by rw [← hb1]; exact HD0
 have HK : Aside0 (Kt.Keys w1 b2 []) := by rw [← hb2]; exact HK0
 have HS : Aside0 (Kt.Keys w1 b3 []) := by rw [← hb3]; exact HS0
 clear HD0 HK0 HS0 HB3
 rw [hb3, hb2, hb1]
 clear hb1 hb2 hb3
 go_loopg [19] l0.length (fun kq v19 w' => ∃ (i : Nat) (D : List (List UInt8 × Int)) (G S : List (List UInt8)), v19 = .int .i64 (i : Int) ∧ Aside0 (kq + i = l0.length) ∧ Aside0 (gc_needed.go k a1 (l0.drop i) D G S = some (Df, Gf)) ∧ Aside0 (Kt.Data w' b1 D) ∧ Aside0 (Kt.Keys w' b2 G) ∧ Aside0 (Kt.Keys w' b3 S) ∧ Aside0 (Below w.heap.size w w'))
 case atStart => exact ⟨0, [], [], [], rfl, ⟨r37_⟩, ⟨HG.out⟩, HD, HK, HS, HB0⟩
 case round =>
  clear HD HK HS HB0 HG
  obtain ⟨i, D, G, S, rfl, HI, HG, HD, HK, HS, HB⟩ := hrel
  by_cases hlt : i < l0.length
  rotate_left
  ·have hi : i = l0.length := by have := HI.out; omega
   have dl : decide ((i : Int) < (l0.length : Int)) = false := decide_eq_false r37_
   have hL : D = Df ∧ G = Gf := by
    have := HG.out
    rw [List.drop_eq_nil_of_le r37_] at this
    simpa [gc_needed.go] using this
   obtain ⟨rfl, rfl⟩ := hL
   clear HG HI
   go_wp2
   go_ret2
   exact ⟨b1, b2, rfl, HD.out, HK.out, HBN.out.1, HBN.out.2.1, HBN.out.2.2.2.1, HB.out⟩
  have hkg : ∃ k1, gk = k1 + 1 := ⟨gk - 1, by have := HI.out; omega⟩
  obtain ⟨k1, rfl⟩ := hkg
  have hmx := HMX.out
  have dl : decide ((i : Int) < (l0.length : Int)) = true := decide_eq_true r37_
  have hdr : l0.drop i = rd_T47 l0 (i : Int) :: l0.drop (i + 1) := by
   rw [List.drop_eq_getElem_cons hlt]; simp [rd_T47, hlt]
  have hg := HG.out
  rw [hdr] at hg
  clear hdr HG
  unfold gc_needed.go at hg
  obtain ⟨ad, ead, hx0, hx1, hx2, hx3⟩ := at_T47 HR0.out (i : Int) r37_ r37_
  subst ead
  have htn : ((i : Int)).toNat = i := by omega
  rw [htn] at hx0 hx1 hx2 hx3
  clear htn
  replace hx0 := (HB.out.cell (World.block_lt_of_cell? w _ hx0)).trans hx0
  replace hx1 := (HB.out.cell (World.block_lt_of_cell? w _ hx1)).trans hx1
  replace hx2 := (HB.out.cell (World.block_lt_of_cell? w _ hx2)).trans hx2
  replace hx3 := (HB.out.cell (World.block_lt_of_cell? w _ hx3)).trans hx3
  generalize rd_T47 l0 (i : Int) = y at hg hx0 hx1 hx2 hx3
  obtain ⟨y0, y1, y2, y3⟩ := y
  simp only at hg hx0 hx1 hx2 hx3
  replace hg := Option.bind_eq_some_iff.mp hg
  obtain ⟨⟨rr, ok⟩, hrd, hg⟩ := hg
  by_cases hmay : gc_needed.may y0 rr D G S
  case neg => rw [if_neg hmay] at hg; exact absurd hg r34_
  rw [if_pos hmay] at hg
  have HRD := Lib.hid hrd
  have HGG := Lib.hid hg
  have HM := Lib.hid hmay
  clear hrd hg hmay
  obtain ⟨r0, r1, r2, r3, r4, r5, r6, r7, r8⟩ := rr
  simp only [gc_needed.may] at HM
  go_wp2_with (fail)
  have HLT : Hid (b1 < wr.heap.size ∧ b2 < wr.heap.size ∧ b3 < wr.heap.size) := Lib.hid ⟨Mp.SMap.lt HD.out, Mp.SMap.lt HK.out, Mp.SMap.lt HS.out⟩
  have BX := Aside0.mk (blk_new wr (.cells #[.string y0, .int .u64 y1, .bool y2, .string y3] 47))
  replace HD := Aside0.mk (Mp.SMap.alloc HD.out (.cells #[.string y0, .int .u64 y1, .bool y2, .string y3] 47))
  replace HK := Aside0.mk (Mp.SMap.alloc HK.out (.cells #[.string y0, .int .u64 y1, .bool y2, .string y3] 47))
  replace HS := Aside0.mk (Mp.SMap.alloc HS.out (.cells #[.string y0, .int .u64 y1, .bool y2, .string y3] 47))
  replace HB := Aside0.mk (below_alloc HB.out (.cells #[.string y0, .int .u64 y1, .bool y2, .string y3] 47))
  clear hx0 hx1 hx2 hx3
  generalize (wr.alloc (.cells #[.string y0, .int .u64 y1, .bool y2, .string y3] 47)) = w4 at HD HK HS HB BX ⊢
  generalize wr.heap.size = g10 at HLT BX ⊢
  refine (gc_read.calls k y0 y1 y2 y3 ⟨r0, r1, r2, r3, r4, r5, r6, r7, r8⟩ ok _ HRD.out).mono ?_
  rintro e w5 ⟨rfl, hb⟩
  replace HD := Aside0.mk (Mp.SMap.below HD.out hb)
  replace HK := Aside0.mk (Mp.SMap.below HK.out hb)
  replace HS := Aside0.mk (Mp.SMap.below HS.out hb)
  replace BX := Aside0.mk (blk_below BX.out hb)
  replace HB := Aside0.mk (below_step HB.out hb)
  clear hb HRD
  simp only [gc_read.R.cells]
  go_upto_region 7 with (fail)
  have HLU : Hid (b1 < w5.heap.size ∧ b2 < w5.heap.size ∧ b3 < w5.heap.size) := Lib.hid ⟨Mp.SMap.lt HD.out, Mp.SMap.lt HK.out, Mp.SMap.lt HS.out⟩
  have BR := Aside0.mk (blk_new w5 (.cells #[.int .i64 r0, .string r1, .int .u64 r2, .string r3, .int .u64 r4, .int .i64 r5, .int .u64 r6, .int .u64 r7, .int .i64 r8] 63))
  replace HD := Aside0.mk (Mp.SMap.alloc HD.out (.cells #[.int .i64 r0, .string r1, .int .u64 r2, .string r3, .int .u64 r4, .int .i64 r5, .int .u64 r6, .int .u64 r7, .int .i64 r8] 63))
  replace HK := Aside0.mk (Mp.SMap.alloc HK.out (.cells #[.int .i64 r0, .string r1, .int .u64 r2, .string r3, .int .u64 r4, .int .i64 r5, .int .u64 r6, .int .u64 r7, .int .i64 r8] 63))
  replace HS := Aside0.mk (Mp.SMap.alloc HS.out (.cells #[.int .i64 r0, .string r1, .int .u64 r2, .string r3, .int .u64 r4, .int .i64 r5, .int .u64 r6, .int .u64 r7, .int .i64 r8] 63))
  replace BX := Aside0.mk (blk_alloc BX.out (.cells #[.int .i64 r0, .string r1, .int .u64 r2, .string r3, .int .u64 r4, .int .i64 r5, .int .u64 r6, .int .u64 r7, .int .i64 r8] 63))
  replace HB := Aside0.mk (below_alloc HB.out (.cells #[.int .i64 r0, .string r1, .int .u64 r2, .string r3, .int .u64 r4, .int .i64 r5, .int .u64 r6, .int .u64 r7, .int .i64 r8] 63))
  generalize (w5.alloc (.cells #[.int .i64 r0, .string r1, .int .u64 r2, .string r3, .int .u64 r4, .int .i64 r5, .int .u64 r6, .int .u64 r7, .int .i64 r8] 63)) = w6 at HD HK HS HB BX BR ⊢
  generalize w5.heap.size = g11 at HLU BR ⊢
  have HNE : Hid ((g10 ≠ b1 ∧ g10 ≠ b2 ∧ g10 ≠ b3) ∧ (g11 ≠ b1 ∧ g11 ≠ b2 ∧ g11 ≠ b3)) := Lib.hid (by have := HLT.out; have := HLU.out; omega)
  clear HLT HLU
  have s0a_ : w6.cell? ⟨g11, 0, none⟩ = some (.int .i64 r0) := (blk_cell BR.out 0).trans rfl
  have s1a_ : w6.cell? ⟨g11, 1, none⟩ = some (.string r1) := (blk_cell BR.out 1).trans rfl
  have s2a_ : w6.cell? ⟨g11, 2, none⟩ = some (.int .u64 r2) := (blk_cell BR.out 2).trans rfl
  have s4a_ : w6.cell? ⟨g11, 4, none⟩ = some (.int .u64 r4) := (blk_cell BR.out 4).trans rfl
  have s7a_ : w6.cell? ⟨g11, 7, none⟩ = some (.int .u64 r7) := (blk_cell BR.out 7).trans rfl
  have s8a_ : w6.cell? ⟨g11, 8, none⟩ = some (.int .i64 r8) := (blk_cell BR.out 8).trans rfl
  have y0a_ : w6.cell? ⟨g10, 0, none⟩ = some (.string y0) := (blk_cell BX.out 0).trans rfl
  cases ok with
  | false =>
   clear HM
   go_wp2
   go_roundg k1
   case measure => omega
   case rel => exact ⟨i + 1, D, G, S, by go_num, ⟨by have := HI.out; omega⟩, ⟨by have := HGG.out; simp only [gc_needed.nx, Int.reduceEq, reduceIte, ne_eq, not_false_eq_true, not_true_eq_false, if_true, if_false, reduceCtorEq, ite_true, ite_false] at this; exact this⟩, HD, HK, HS, HB⟩
  | true =>
  by_cases c1 : r0 = 1
  ·subst c1
   obtain ⟨w7, hrunb, hownb, hgb⟩ := Kt.Data.put (u := r1) (t := r4) HD.out HM.out.2.2.2.2.1 HM.out.2.1 HM.out.2.2.1.1 HM.out.2.2.1.2
   replace HD := Aside0.mk hownb
   replace HK := Aside0.mk (Mp.SMap.kept HK.out hgb r48_)
   replace HS := Aside0.mk (Mp.SMap.kept HS.out hgb r48_)
   replace BX := Aside0.mk (blk_grown BX.out hgb (fun e => HNE.out.1.1 (Option.some.inj e)))
   replace BR := Aside0.mk (blk_grown BR.out hgb (fun e => HNE.out.2.1 (Option.some.inj e)))
   replace HB := Aside0.mk (HB.out.trans (Mp.grown_below hgb HB.out.size HBN.out.1))
   clear hownb hgb
   have s0b_ : w7.cell? ⟨g11, 0, none⟩ = some (.int .i64 1) := (blk_cell BR.out 0).trans rfl
   have s1b_ : w7.cell? ⟨g11, 1, none⟩ = some (.string r1) := (blk_cell BR.out 1).trans rfl
   have s2b_ : w7.cell? ⟨g11, 2, none⟩ = some (.int .u64 r2) := (blk_cell BR.out 2).trans rfl
   have s4b_ : w7.cell? ⟨g11, 4, none⟩ = some (.int .u64 r4) := (blk_cell BR.out 4).trans rfl
   have s7b_ : w7.cell? ⟨g11, 7, none⟩ = some (.int .u64 r7) := (blk_cell BR.out 7).trans rfl
   have s8b_ : w7.cell? ⟨g11, 8, none⟩ = some (.int .i64 r8) := (blk_cell BR.out 8).trans rfl
   have y0b_ : w7.cell? ⟨g10, 0, none⟩ = some (.string y0) := (blk_cell BX.out 0).trans rfl
   clear HM
   go_wp2
   go_roundg k1
   case measure => omega
   case rel => exact ⟨i + 1, (Th.bl r1, r4) :: D, G, S, by go_num, ⟨by have := HI.out; omega⟩, ⟨by have := HGG.out; simp only [gc_needed.nx, Int.reduceEq, reduceIte, ne_eq, not_false_eq_true, not_true_eq_false, if_true, if_false, reduceCtorEq, ite_true, ite_false] at this; exact this⟩, HD, HK, HS, HB⟩
  have e1 : (r0 == 1) = false := beq_eq_false_iff_ne.mpr c1
  by_cases c2 : r0 = 2
  case neg =>
   have e2 : (r0 != 2) = true := bne_iff_ne.mpr c2
   clear HM
   go_wp2
   go_roundg k1
   case measure => omega
   case rel => exact ⟨i + 1, D, G, S, by go_num, ⟨by have := HI.out; omega⟩, ⟨by have := HGG.out; simp only [gc_needed.nx, c1, c2, Int.reduceEq, reduceIte, ne_eq, not_false_eq_true, not_true_eq_false, if_true, if_false, reduceCtorEq, ite_true, ite_false] at this; exact this⟩, HD, HK, HS, HB⟩
  subst c2
  clear c1 e1
  by_cases c3 : a1 < r2
  ·have e3 : decide (a1 < r2) = true := decide_eq_true c3
   by_cases c4 : r8 = 1
   rotate_left
   ·have e4 : (r8 == 1) = false := beq_eq_false_iff_ne.mpr c4
    clear HM
    go_wp2
    go_roundg k1
    case measure => omega
    case rel => exact ⟨i + 1, D, G, S, by go_num, ⟨by have := HI.out; omega⟩, ⟨by have := HGG.out; simp only [gc_needed.nx, c3, c4, Int.reduceEq, reduceIte, ne_eq, not_false_eq_true, not_true_eq_false, if_true, if_false, reduceCtorEq, ite_true, ite_false] at this; exact this⟩, HD, HK, HS, HB⟩
   subst c4
   obtain ⟨w7, hrunb, hownb, hgb⟩ := Kt.Data.put (u := r1) (t := r7) HD.out HM.out.2.2.2.2.1 HM.out.2.1 HM.out.2.2.2.1.1 HM.out.2.2.2.1.2
   replace HD := Aside0.mk hownb
   replace HK := Aside0.mk (Mp.SMap.kept HK.out hgb r48_)
   replace HS := Aside0.mk (Mp.SMap.kept HS.out hgb r48_)
   replace BX := Aside0.mk (blk_grown BX.out hgb (fun e => HNE.out.1.1 (Option.some.inj e)))
   replace BR := Aside0.mk (blk_grown BR.out hgb (fun e => HNE.out.2.1 (Option.some.inj e)))
   replace HB := Aside0.mk (HB.out.trans (Mp.grown_below hgb HB.out.size HBN.out.1))
   clear hownb hgb
   have s0b_ : w7.cell? ⟨g11, 0, none⟩ = some (.int .i64 2) := (blk_cell BR.out 0).trans rfl
   have s1b_ : w7.cell? ⟨g11, 1, none⟩ = some (.string r1) := (blk_cell BR.out 1).trans rfl
   have s2b_ : w7.cell? ⟨g11, 2, none⟩ = some (.int .u64 r2) := (blk_cell BR.out 2).trans rfl
   have s4b_ : w7.cell? ⟨g11, 4, none⟩ = some (.int .u64 r4) := (blk_cell BR.out 4).trans rfl
   have s7b_ : w7.cell? ⟨g11, 7, none⟩ = some (.int .u64 r7) := (blk_cell BR.out 7).trans rfl
   have s8b_ : w7.cell? ⟨g11, 8, none⟩ = some (.int .i64 1) := (blk_cell BR.out 8).trans rfl
   have y0b_ : w7.cell? ⟨g10, 0, none⟩ = some (.string y0) := (blk_cell BX.out 0).trans rfl
   clear HM
   go_wp2
   go_roundg k1
   case measure => omega
   case rel => exact ⟨i + 1, (Th.bl r1, r7) :: D, G, S, by go_num, ⟨by have := HI.out; omega⟩, ⟨by have := HGG.out; simp only [gc_needed.nx, c3, Int.reduceEq, reduceIte, ne_eq, not_false_eq_true, not_true_eq_false, if_true, if_false, reduceCtorEq, ite_true, ite_false] at this; exact this⟩, HD, HK, HS, HB⟩
  have e3 : decide (a1 < r2) = false := decide_eq_false c3
  by_cases c5 : r8 = 3
  ·subst c5
   obtain ⟨w7, hrunb, hownb, hgb⟩ := Kt.Keys.put (s := y0) HK.out HM.out.2.2.2.2.2.1 HM.out.1
   replace HD := Aside0.mk (Mp.SMap.kept HD.out hgb r48_)
   replace HK := Aside0.mk hownb
   replace HS := Aside0.mk (Mp.SMap.kept HS.out hgb r48_)
   replace BX := Aside0.mk (blk_grown BX.out hgb (fun e => HNE.out.1.2.1 (Option.some.inj e)))
   replace BR := Aside0.mk (blk_grown BR.out hgb (fun e => HNE.out.2.2.1 (Option.some.inj e)))
   replace HB := Aside0.mk (HB.out.trans (Mp.grown_below hgb HB.out.size HBN.out.2.1))
   clear hownb hgb
   have s0b_ : w7.cell? ⟨g11, 0, none⟩ = some (.int .i64 2) := (blk_cell BR.out 0).trans rfl
   have s1b_ : w7.cell? ⟨g11, 1, none⟩ = some (.string r1) := (blk_cell BR.out 1).trans rfl
   have s2b_ : w7.cell? ⟨g11, 2, none⟩ = some (.int .u64 r2) := (blk_cell BR.out 2).trans rfl
   have s4b_ : w7.cell? ⟨g11, 4, none⟩ = some (.int .u64 r4) := (blk_cell BR.out 4).trans rfl
   have s7b_ : w7.cell? ⟨g11, 7, none⟩ = some (.int .u64 r7) := (blk_cell BR.out 7).trans rfl
   have s8b_ : w7.cell? ⟨g11, 8, none⟩ = some (.int .i64 3) := (blk_cell BR.out 8).trans rfl
   have y0b_ : w7.cell? ⟨g10, 0, none⟩ = some (.string y0) := (blk_cell BX.out 0).trans rfl
   clear HM
   go_wp2
   go_roundg k1
   case measure => omega
   case rel => exact ⟨i + 1, D, Th.bl y0 :: G, S, by go_num, ⟨by have := HI.out; omega⟩, ⟨by have := HGG.out; simp only [gc_needed.nx, if_neg (show ¬ (a1 < r2) by omega), Int.reduceEq, reduceIte, ne_eq, not_false_eq_true, not_true_eq_false, if_true, if_false, reduceCtorEq, ite_true, ite_false] at this; exact this⟩, HD, HK, HS, HB⟩
  have e5 : (r8 != 3) = true := bne_iff_ne.mpr c5
  have hlk := Kt.Keys.look (s := r1) HS.out HM.out.2.1
  by_cases c6 : Th.bl r1 ∈ S
  ·rw [decide_eq_true c6] at hlk
   obtain ⟨w7, hrunb, hownb, hgb⟩ := Kt.Keys.put (s := y0) HK.out HM.out.2.2.2.2.2.1 HM.out.1
   replace HD := Aside0.mk (Mp.SMap.kept HD.out hgb r48_)
   replace HK := Aside0.mk hownb
   replace HS := Aside0.mk (Mp.SMap.kept HS.out hgb r48_)
   replace BX := Aside0.mk (blk_grown BX.out hgb (fun e => HNE.out.1.2.1 (Option.some.inj e)))
   replace BR := Aside0.mk (blk_grown BR.out hgb (fun e => HNE.out.2.2.1 (Option.some.inj e)))
   replace HB := Aside0.mk (HB.out.trans (Mp.grown_below hgb HB.out.size HBN.out.2.1))
   clear hownb hgb
   have s0b_ : w7.cell? ⟨g11, 0, none⟩ = some (.int .i64 2) := (blk_cell BR.out 0).trans rfl
   have s1b_ : w7.cell? ⟨g11, 1, none⟩ = some (.string r1) := (blk_cell BR.out 1).trans rfl
   have s2b_ : w7.cell? ⟨g11, 2, none⟩ = some (.int .u64 r2) := (blk_cell BR.out 2).trans rfl
   have s4b_ : w7.cell? ⟨g11, 4, none⟩ = some (.int .u64 r4) := (blk_cell BR.out 4).trans rfl
   have s7b_ : w7.cell? ⟨g11, 7, none⟩ = some (.int .u64 r7) := (blk_cell BR.out 7).trans rfl
   have s8b_ : w7.cell? ⟨g11, 8, none⟩ = some (.int .i64 r8) := (blk_cell BR.out 8).trans rfl
   have y0b_ : w7.cell? ⟨g10, 0, none⟩ = some (.string y0) := (blk_cell BX.out 0).trans rfl
   clear HM
   go_wp2
   go_roundg k1
   case measure => omega
   case rel => exact ⟨i + 1, D, Th.bl y0 :: G, S, by go_num, ⟨by have := HI.out; omega⟩, ⟨by have := HGG.out; simp only [gc_needed.nx, if_neg (show ¬ (a1 < r2) by omega), c5, c6, Int.reduceEq, reduceIte, ne_eq, not_false_eq_true, not_true_eq_false, if_true, if_false, reduceCtorEq, ite_true, ite_false] at this; exact this⟩, HD, HK, HS, HB⟩
  rw [decide_eq_false c6] at hlk
  obtain ⟨w7, hrunb, hownb, hgb⟩ := Kt.Keys.put (s := r1) HS.out HM.out.2.2.2.2.2.2 HM.out.2.1
  replace HD := Aside0.mk (Mp.SMap.kept HD.out hgb r48_)
  replace HK := Aside0.mk (Mp.SMap.kept HK.out hgb r48_)
  replace HS := Aside0.mk hownb
  replace BX := Aside0.mk (blk_grown BX.out hgb (fun e => HNE.out.1.2.2 (Option.some.inj e)))
  replace BR := Aside0.mk (blk_grown BR.out hgb (fun e => HNE.out.2.2.2 (Option.some.inj e)))
  replace HB := Aside0.mk (HB.out.trans (Mp.grown_below hgb HB.out.size HBN.out.2.2.1))
  clear hownb hgb
  have s0b_ : w7.cell? ⟨g11, 0, none⟩ = some (.int .i64 2) := (blk_cell BR.out 0).trans rfl
  have s1b_ : w7.cell? ⟨g11, 1, none⟩ = some (.string r1) := (blk_cell BR.out 1).trans rfl
  have s2b_ : w7.cell? ⟨g11, 2, none⟩ = some (.int .u64 r2) := (blk_cell BR.out 2).trans rfl
  have s4b_ : w7.cell? ⟨g11, 4, none⟩ = some (.int .u64 r4) := (blk_cell BR.out 4).trans rfl
  have s7b_ : w7.cell? ⟨g11, 7, none⟩ = some (.int .u64 r7) := (blk_cell BR.out 7).trans rfl
  have s8b_ : w7.cell? ⟨g11, 8, none⟩ = some (.int .i64 r8) := (blk_cell BR.out 8).trans rfl
  have y0b_ : w7.cell? ⟨g10, 0, none⟩ = some (.string y0) := (blk_cell BX.out 0).trans rfl
  by_cases c4 : r8 = 1
  ·subst c4
   obtain ⟨w8, hrunc, hownc, hgc⟩ := Kt.Data.put (u := r1) (t := r7) HD.out HM.out.2.2.2.2.1 HM.out.2.1 HM.out.2.2.2.1.1 HM.out.2.2.2.1.2
   replace HD := Aside0.mk hownc
   replace HK := Aside0.mk (Mp.SMap.kept HK.out hgc r48_)
   replace HS := Aside0.mk (Mp.SMap.kept HS.out hgc r48_)
   replace BX := Aside0.mk (blk_grown BX.out hgc (fun e => HNE.out.1.1 (Option.some.inj e)))
   replace BR := Aside0.mk (blk_grown BR.out hgc (fun e => HNE.out.2.1 (Option.some.inj e)))
   replace HB := Aside0.mk (HB.out.trans (Mp.grown_below hgc HB.out.size HBN.out.1))
   clear hownc hgc
   have s0c_ : w8.cell? ⟨g11, 0, none⟩ = some (.int .i64 2) := (blk_cell BR.out 0).trans rfl
   have s1c_ : w8.cell? ⟨g11, 1, none⟩ = some (.string r1) := (blk_cell BR.out 1).trans rfl
   have s2c_ : w8.cell? ⟨g11, 2, none⟩ = some (.int .u64 r2) := (blk_cell BR.out 2).trans rfl
   have s4c_ : w8.cell? ⟨g11, 4, none⟩ = some (.int .u64 r4) := (blk_cell BR.out 4).trans rfl
   have s7c_ : w8.cell? ⟨g11, 7, none⟩ = some (.int .u64 r7) := (blk_cell BR.out 7).trans rfl
   have s8c_ : w8.cell? ⟨g11, 8, none⟩ = some (.int .i64 1) := (blk_cell BR.out 8).trans rfl
   have y0c_ : w8.cell? ⟨g10, 0, none⟩ = some (.string y0) := (blk_cell BX.out 0).trans rfl
   clear HM
   go_wp2
   go_roundg k1
   case measure => omega
   case rel => exact ⟨i + 1, (Th.bl r1, r7) :: D, G, Th.bl r1 :: S, by go_num, ⟨by have := HI.out; omega⟩, ⟨by have := HGG.out; simp only [gc_needed.nx, if_neg (show ¬ (a1 < r2) by omega), c6, Int.reduceEq, reduceIte, ne_eq, not_false_eq_true, not_true_eq_false, if_true, if_false, reduceCtorEq, ite_true, ite_false] at this; exact this⟩, HD, HK, HS, HB⟩
  have e4 : (r8 == 1) = false := beq_eq_false_iff_ne.mpr c4
  obtain ⟨w8, hrunc, hownc, hgc⟩ := Kt.Keys.put (s := y0) HK.out HM.out.2.2.2.2.2.1 HM.out.1
  replace HD := Aside0.mk (Mp.SMap.kept HD.out hgc r48_)
  replace HK := Aside0.mk hownc
  replace HS := Aside0.mk (Mp.SMap.kept HS.out hgc r48_)
  replace BX := Aside0.mk (blk_grown BX.out hgc (fun e => HNE.out.1.2.1 (Option.some.inj e)))
  replace BR := Aside0.mk (blk_grown BR.out hgc (fun e => HNE.out.2.2.1 (Option.some.inj e)))
  replace HB := Aside0.mk (HB.out.trans (Mp.grown_below hgc HB.out.size HBN.out.2.1))
  clear hownc hgc
  have s0c_ : w8.cell? ⟨g11, 0, none⟩ = some (.int .i64 2) := (blk_cell BR.out 0).trans rfl
  have s1c_ : w8.cell? ⟨g11, 1, none⟩ = some (.string r1) := (blk_cell BR.out 1).trans rfl
  have s2c_ : w8.cell? ⟨g11, 2, none⟩ = some (.int .u64 r2) := (blk_cell BR.out 2).trans rfl
  have s4c_ : w8.cell? ⟨g11, 4, none⟩ = some (.int .u64 r4) := (blk_cell BR.out 4).trans rfl
  have s7c_ : w8.cell? ⟨g11, 7, none⟩ = some (.int .u64 r7) := (blk_cell BR.out 7).trans rfl
  have s8c_ : w8.cell? ⟨g11, 8, none⟩ = some (.int .i64 r8) := (blk_cell BR.out 8).trans rfl
  have y0c_ : w8.cell? ⟨g10, 0, none⟩ = some (.string y0) := (blk_cell BX.out 0).trans rfl
  clear HM
  go_wp2
  go_roundg k1
  case measure => omega
  case rel => exact ⟨i + 1, D, Th.bl y0 :: G, Th.bl r1 :: S, by go_num, ⟨by have := HI.out; omega⟩, ⟨by have := HGG.out; simp only [gc_needed.nx, if_neg (show ¬ (a1 < r2) by omega), c4, c5, c6, Int.reduceEq, reduceIte, ne_eq, not_false_eq_true, not_true_eq_false, if_true, if_false, reduceCtorEq, ite_true, ite_false] at this; exact this⟩, HD, HK, HS, HB⟩

/-! ### gc_part: function 25 -/
open Th in
/-- May a record go? -/
def gc_part.goes (D : List (List UInt8 × Int)) (G : List (List UInt8)) (key : ByteArray) (r : gc_read.R) (ok : Bool) : Bool :=
 if ok = true ∧ r.cf = 3 then !(decide ((bl r.us, r.tm) ∈ D)) else decide (bl key ∈ G)
def gc_part.may (key : ByteArray) (r : gc_read.R) (acc : List (S47)) : Prop :=
 key.size ≤ 140737488351232 ∧ r.us.size ≤ 140737488351232 ∧ (0 ≤ r.tm ∧ r.tm < 18446744073709551616) ∧ acc.length ≤ 1000000
instance gc_part.may_dec (key : ByteArray) (r : gc_read.R) (acc : List (S47)) : Decidable (gc_part.may key r acc) := by unfold gc_part.may; exact inferInstance
def gc_part.go (k : Nat) (D : List (List UInt8 × Int)) (G : List (List UInt8)) (which : Bool) : List (S47) → List (S47) → Option (List (S47))
 | [], acc => some acc
 | x :: l, acc => (gc_read.f k x.f0 x.f3).bind fun o => if gc_part.may x.f0 o.1 acc then gc_part.go k D G which l (if gc_part.goes D G x.f0 o.1 o.2 = which then acc ++ [x] else acc) else none
theorem gc_part.go_mono (k : Nat) (D : List (List UInt8 × Int)) (G : List (List UInt8)) (which : Bool) : ∀ l acc, LeO (gc_part.go k D G which l acc) (gc_part.go (k + 1) D G which l acc)
 | [], _ => LeO.refl _
 | x :: l, acc => LeO.bind (gc_read.mono _ _ _) (fun _ => LeO.ite (gc_part.go_mono k D G which l _) (LeO.refl _))
def gc_part.f (k : Nat) (l0 : List (S47)) (safe : Int) (which : Bool) : Option (List (S47) × Int) :=
 (gc_rises.f k l0).bind fun t => if t = false then some ([], 2) else (gc_needed.f k l0 safe).bind fun m => (gc_part.go k m.1 m.2 which l0 []).bind fun out => some (out, 0)
theorem gc_part.mono : ∀ l0 a1 a2 k, LeO (gc_part.f k l0 a1 a2) (gc_part.f (k + 1) l0 a1 a2) := by
 intro l0 a1 a2 k
 unfold gc_part.f
 exact LeO.bind (gc_rises.mono _ _) (fun _ => LeO.ite (LeO.refl _) (LeO.bind (gc_needed.mono _ _ _) (fun _ => LeO.bind (gc_part.go_mono _ _ _ _ _ _) (fun _ => LeO.refl _))))
theorem gc_part.info : (Try.prog.info? 47).map (fun i => (i.zero, i.size, i.bytes)) = some (some (.agg #[(.string ⟨#[]⟩), (.int .u64 0), (.bool false), (.string ⟨#[]⟩)]), 4, 48) := by kernel_rfl
set_option maxHeartbeats 6400000 in
set_option maxRecDepth 100000 in
theorem gc_part.calls (k : Nat) (A0 : Option Addr) (c0 : Nat) (l0 : List (S47)) (a1 : Int) (a2 : Bool) (r1 : List (S47)) (r2 : Int) (w : World) (hr0 : Kd.C k47 w A0 l0.length l0) (hc0 : l0.length ≤ c0) (h : gc_part.f k l0 a1 a2 = some (r1, r2)) :
  Calls Try.prog 25 #[.slice A0 l0.length c0, .int .u64 a1, .bool a2] w fun e w' => ∃ v0_ : Value, e = .returned (.tuple #[v0_, .int .i64 r2]) ∧ Kd.R k47 47 w' w.heap.size (fun _ => True) v0_ r1 ∧ Below w.heap.size w w' := by
 have HR0 := Aside0.mk hr0
 have HC0 := Aside0.mk hc0
 have HMX := Lib.hid (Kd.C_max hr0)
 clear hr0 hc0
 unfold gc_part.f at h
 replace h := Option.bind_eq_some_iff.mp h
 obtain ⟨t, hT, h⟩ := h
 have HT := Lib.hid hT
 clear hT
 cases t with
 | false =>
  rw [if_pos rfl] at h
  simp only [Option.some.injEq, Prod.mk.injEq] at h
  obtain ⟨rfl, rfl⟩ := h
  go_enter Try.func25, Try.ntmps25
  go_wp2_with (go_at_call 28; (refine (gc_rises.calls k A0 c0 l0 false _ HR0.out HC0.out HT.out).mono ?_); rintro e w1 ⟨rfl, hb⟩; have HB := Aside0.mk hb.below; clear hb)
  go_ret2
  exact ⟨_, rfl, Kd.R_nil _ _ _ _ _, HB.out⟩
 | true =>
 rw [if_neg r34_] at h
 replace h := Option.bind_eq_some_iff.mp h
 obtain ⟨⟨Df, Gf⟩, hN, h⟩ := h
 replace h := Option.bind_eq_some_iff.mp h
 obtain ⟨out, hG, h⟩ := h
 simp only [Option.some.injEq, Prod.mk.injEq] at h
 obtain ⟨rfl, rfl⟩ := h
 have HN := Lib.hid hN
 have HG := Lib.hid hG
 clear hN hG
 go_enter Try.func25, Try.ntmps25
 go_wp2_with (first
  | (go_at_call 28; (refine (gc_rises.calls k A0 c0 l0 true _ HR0.out HC0.out HT.out).mono ?_); rintro e w1 ⟨rfl, hb⟩; have HB1 := Aside0.mk hb.below; clear hb)
  | (go_at_call 36; (refine (gc_needed.calls k A0 c0 l0 a1 Df Gf _ (Kd.C_below HR0.out HB1.out) HC0.out HN.out).mono ?_); rintro e w2 ⟨b1, b2, rfl, hd, hk, hl1, hl2, hne, hb⟩; have HD := Aside0.mk hd; have HK := Aside0.mk hk; have HBN := Lib.hid hne; have HB2 := Aside0.mk (below_step HB1.out hb); clear hd hk hb hl1 hl2 hne HB1))
 have HO : Aside0 (Kd.R k47 47 w2 w.heap.size (fun k_ => k_ ≠ b1 ∧ k_ ≠ b2) (.slice none 0 0) ([] : List (S47))) := ⟨Kd.R_nil _ _ _ _ _⟩
 go_loopg [10, 27] l0.length (fun kq v10 v27 w' => ∃ (i : Nat) (acc : List (S47)), v27 = .int .i64 (i : Int) ∧ Aside0 (kq + i = l0.length) ∧ Aside0 (gc_part.go k Df Gf a2 (l0.drop i) acc = some out) ∧ Aside0 (Kt.Data w' b1 Df) ∧ Aside0 (Kt.Keys w' b2 Gf) ∧ Aside0 (Kd.R k47 47 w' w.heap.size (fun k_ => k_ ≠ b1 ∧ k_ ≠ b2) v10 acc) ∧ Aside0 (Below w.heap.size w w'))
 case atStart => exact ⟨0, [], rfl, ⟨r37_⟩, ⟨HG.out⟩, HD, HK, HO, HB2⟩
 case round =>
  clear HD HK HO HB2 HG HN HT
  obtain ⟨i, acc, rfl, HI, HG, HD, HK, HO, HB⟩ := hrel
  by_cases hlt : i < l0.length
  rotate_left
  ·have hi : i = l0.length := by have := HI.out; omega
   have dl : decide ((i : Int) < (l0.length : Int)) = false := decide_eq_false r37_
   have hL : acc = out := by
    have := HG.out
    rw [List.drop_eq_nil_of_le r37_] at this
    simpa [gc_part.go] using this
   subst hL
   clear HG HI
   go_wp2
   go_ret2
   exact ⟨_, rfl, Kd.R_mono HO.out (fun _ _ => trivial), HB.out⟩
  have hkg : ∃ k1, gk = k1 + 1 := ⟨gk - 1, by have := HI.out; omega⟩
  obtain ⟨k1, rfl⟩ := hkg
  have hmx := HMX.out
  have dl : decide ((i : Int) < (l0.length : Int)) = true := decide_eq_true r37_
  have hdr : l0.drop i = rd_T47 l0 (i : Int) :: l0.drop (i + 1) := by
   rw [List.drop_eq_getElem_cons hlt]; simp [rd_T47, hlt]
  have hg := HG.out
  rw [hdr] at hg
  clear hdr HG
  unfold gc_part.go at hg
  obtain ⟨ad, ead, hx0, hx1, hx2, hx3⟩ := at_T47 HR0.out (i : Int) r37_ r37_
  subst ead
  have htn : ((i : Int)).toNat = i := by omega
  rw [htn] at hx0 hx1 hx2 hx3
  clear htn
  replace hx0 := (HB.out.cell (World.block_lt_of_cell? w _ hx0)).trans hx0
  replace hx1 := (HB.out.cell (World.block_lt_of_cell? w _ hx1)).trans hx1
  replace hx2 := (HB.out.cell (World.block_lt_of_cell? w _ hx2)).trans hx2
  replace hx3 := (HB.out.cell (World.block_lt_of_cell? w _ hx3)).trans hx3
  generalize rd_T47 l0 (i : Int) = y at hg hx0 hx1 hx2 hx3
  obtain ⟨y0, y1, y2, y3⟩ := y
  simp only at hg hx0 hx1 hx2 hx3
  replace hg := Option.bind_eq_some_iff.mp hg
  obtain ⟨⟨rr, ok⟩, hrd, hg⟩ := hg
  by_cases hmay : gc_part.may y0 rr acc
  case neg => rw [if_neg hmay] at hg; exact absurd hg r34_
  rw [if_pos hmay] at hg
  have HRD := Lib.hid hrd
  have HGG := Lib.hid hg
  have HM := Lib.hid hmay
  clear hrd hg hmay
  obtain ⟨r0, r1, r2, r3, r4, r5, r6, r7, r8⟩ := rr
  go_upto_region 8 with (fail)
  have BX := Aside0.mk (blk_new wr (.cells #[.string y0, .int .u64 y1, .bool y2, .string y3] 47))
  replace HD := Aside0.mk (Mp.SMap.alloc HD.out (.cells #[.string y0, .int .u64 y1, .bool y2, .string y3] 47))
  replace HK := Aside0.mk (Mp.SMap.alloc HK.out (.cells #[.string y0, .int .u64 y1, .bool y2, .string y3] 47))
  replace HO := Aside0.mk (Kd.R_alloc HO.out (.cells #[.string y0, .int .u64 y1, .bool y2, .string y3] 47))
  replace HB := Aside0.mk (below_alloc HB.out (.cells #[.string y0, .int .u64 y1, .bool y2, .string y3] 47))
  clear hx0 hx1 hx2 hx3
  generalize (wr.alloc (.cells #[.string y0, .int .u64 y1, .bool y2, .string y3] 47)) = w4 at HD HK HO HB BX ⊢
  generalize wr.heap.size = g10 at BX ⊢
  have y0_ : w4.cell? ⟨g10, 0, none⟩ = some (.string y0) := (blk_cell BX.out 0).trans rfl
  have y1_ : w4.cell? ⟨g10, 1, none⟩ = some (.int .u64 y1) := (blk_cell BX.out 1).trans rfl
  have y2_ : w4.cell? ⟨g10, 2, none⟩ = some (.bool y2) := (blk_cell BX.out 2).trans rfl
  have y3_ : w4.cell? ⟨g10, 3, none⟩ = some (.string y3) := (blk_cell BX.out 3).trans rfl
  have hlk := Kt.Keys.look (s := y0) HK.out HM.out.1
  obtain ⟨inG, hin⟩ : ∃ b, decide (Th.bl y0 ∈ Gf) = b := ⟨_, rfl⟩
  rw [hin] at hlk
  have HIN := Lib.hid hin
  clear hin
  go_wp2_with (fail)
  refine (gc_read.calls k y0 y1 y2 y3 ⟨r0, r1, r2, r3, r4, r5, r6, r7, r8⟩ ok _ HRD.out).mono ?_
  rintro e w5 ⟨rfl, hb⟩
  replace HD := Aside0.mk (Mp.SMap.below HD.out hb)
  replace HK := Aside0.mk (Mp.SMap.below HK.out hb)
  replace BX := Aside0.mk (blk_below BX.out hb)
  replace HO := Aside0.mk (Kd.R_below HO.out hb)
  replace HB := Aside0.mk (below_step HB.out hb)
  clear hb HRD y0_ y1_ y2_ y3_ hlk
  simp only [gc_read.R.cells]
  go_upto_region 10 with (fail)
  have BR := Aside0.mk (blk_new w5 (.cells #[.int .i64 r0, .string r1, .int .u64 r2, .string r3, .int .u64 r4, .int .i64 r5, .int .u64 r6, .int .u64 r7, .int .i64 r8] 63))
  replace HD := Aside0.mk (Mp.SMap.alloc HD.out (.cells #[.int .i64 r0, .string r1, .int .u64 r2, .string r3, .int .u64 r4, .int .i64 r5, .int .u64 r6, .int .u64 r7, .int .i64 r8] 63))
  replace HK := Aside0.mk (Mp.SMap.alloc HK.out (.cells #[.int .i64 r0, .string r1, .int .u64 r2, .string r3, .int .u64 r4, .int .i64 r5, .int .u64 r6, .int .u64 r7, .int .i64 r8] 63))
  replace BX := Aside0.mk (blk_alloc BX.out (.cells #[.int .i64 r0, .string r1, .int .u64 r2, .string r3, .int .u64 r4, .int .i64 r5, .int .u64 r6, .int .u64 r7, .int .i64 r8] 63))
  replace HO := Aside0.mk (Kd.R_alloc HO.out (.cells #[.int .i64 r0, .string r1, .int .u64 r2, .string r3, .int .u64 r4, .int .i64 r5, .int .u64 r6, .int .u64 r7, .int .i64 r8] 63))
  replace HB := Aside0.mk (below_alloc HB.out (.cells #[.int .i64 r0, .string r1, .int .u64 r2, .string r3, .int .u64 r4, .int .i64 r5, .int .u64 r6, .int .u64 r7, .int .i64 r8] 63))
  generalize (w5.alloc (.cells #[.int .i64 r0, .string r1, .int .u64 r2, .string r3, .int .u64 r4, .int .i64 r5, .int .u64 r6, .int .u64 r7, .int .i64 r8] 63)) = w6 at HD HK HO HB BX BR ⊢
  generalize w5.heap.size = g11 at BR ⊢
  have y0_ : w6.cell? ⟨g10, 0, none⟩ = some (.string y0) := (blk_cell BX.out 0).trans rfl
  have y1_ : w6.cell? ⟨g10, 1, none⟩ = some (.int .u64 y1) := (blk_cell BX.out 1).trans rfl
  have y2_ : w6.cell? ⟨g10, 2, none⟩ = some (.bool y2) := (blk_cell BX.out 2).trans rfl
  have y3_ : w6.cell? ⟨g10, 3, none⟩ = some (.string y3) := (blk_cell BX.out 3).trans rfl
  have s0_ : w6.cell? ⟨g11, 0, none⟩ = some (.int .i64 r0) := (blk_cell BR.out 0).trans rfl
  have s1_ : w6.cell? ⟨g11, 1, none⟩ = some (.string r1) := (blk_cell BR.out 1).trans rfl
  have s2_ : w6.cell? ⟨g11, 2, none⟩ = some (.int .u64 r2) := (blk_cell BR.out 2).trans rfl
  have HLT : Hid (b1 < w6.heap.size ∧ b2 < w6.heap.size) := Lib.hid ⟨Mp.SMap.lt HD.out, Mp.SMap.lt HK.out⟩
  have HAL : Hid (acc.length ≤ 1000000) := Lib.hid HM.out.2.2.2
  cases ok with
  | false =>
   have hgo : gc_part.goes Df Gf y0 ⟨r0, r1, r2, r3, r4, r5, r6, r7, r8⟩ false = inG := by
    unfold gc_part.goes; rw [if_neg r34_]; exact HIN.out
   cases hq : (inG == a2) with
   | true =>
    have hgg := HGG.out
    rw [if_pos (by rw [hgo]; exact eq_of_beq hq)] at hgg
    have HGN := Lib.hid hgg
    clear hgg HGG hgo HM
    go_wp2_with (first | ((with_reducible refine gate_builtin (b := .append) (xs := #[.tmp 60, .tmp 62]) rfl ?_); at_builtin; refine Kd.R_append k47 (w0 := w) w.heap.size rfl (.tmp 60) (.tmp 62) 22 47 (.agg #[(.string ⟨#[]⟩), (.int .u64 0), (.bool false), (.string ⟨#[]⟩)]) 48 rfl Try.underlying22 gc_part.info rfl r44_ r37_ u10 acc (⟨y0, y1, y2, y3⟩ : S47) [.string y0, .int .u64 y1, .bool y2, .string y3] (fun k_ => k_ ≠ b1 ∧ k_ ≠ b2) (fun _ => False) rfl (by first | (go_simp; done) | (go_simp; rfl)) ?aP (fun _ hk => hk.elim) ?aF ?aO ?aB ?aS ?aL ?_; (case aP => exact k47_mkM _ _ _ (⟨y0, y1, y2, y3⟩ : S47)); (case aB => exact HB.out); (case aF => exact (fun k_ hk_ => ⟨fun e_ => by have := HLT.out; omega, fun e_ => by have := HLT.out; omega⟩)); (case aO => exact HO.out); (case aS => exact HB.out.size); (case aL => have := HAL.out; omega); intro v1 z1 ho hb hg hat; have HOg := Aside0.mk ho; have HBg := Aside0.mk hb; have HDg := Aside0.mk (Mp.SMap.kept HD.out hg (fun e_ => (HO.out.1 b1 e_.symm).1 rfl)); have HKg := Aside0.mk (Mp.SMap.kept HK.out hg (fun e_ => (HO.out.1 b2 e_.symm).2 rfl)); clear ho hb hg hat HO HB HD HK))
    go_roundg k1
    case measure => omega
    case rel => exact ⟨i + 1, acc ++ [(⟨y0, y1, y2, y3⟩ : S47)], by go_num, ⟨by have := HI.out; omega⟩, ⟨HGN.out⟩, HDg, HKg, HOg, HBg⟩
   | false =>
    have hgg := HGG.out
    rw [if_neg (by rw [hgo]; exact ne_of_beq_false hq)] at hgg
    have HGN := Lib.hid hgg
    clear hgg HGG hgo HM
    go_wp2
    go_roundg k1
    case measure => omega
    case rel => exact ⟨i + 1, acc, by go_num, ⟨by have := HI.out; omega⟩, ⟨HGN.out⟩, HD, HK, HO, HB⟩
  | true =>
  by_cases c3 : r0 = 3
  ·subst c3
   have hlk := Kt.Data.look (u := r1) (t := r2) HD.out HM.out.2.1 HM.out.2.2.1.1 HM.out.2.2.1.2
   obtain ⟨inD, hin⟩ : ∃ b, decide ((Th.bl r1, r2) ∈ Df) = b := ⟨_, rfl⟩
   rw [hin] at hlk
   have HID := Lib.hid hin
   clear hin
   have hgo : gc_part.goes Df Gf y0 ⟨3, r1, r2, r3, r4, r5, r6, r7, r8⟩ true = (!inD) := by
    unfold gc_part.goes; rw [if_pos ⟨rfl, rfl⟩, HID.out]
   cases hq : ((!inD) == a2) with
   | true =>
    have hgg := HGG.out
    rw [if_pos (by rw [hgo]; exact eq_of_beq hq)] at hgg
    have HGN := Lib.hid hgg
    clear hgg HGG hgo HM
    go_wp2_with (first | ((with_reducible refine gate_builtin (b := .append) (xs := #[.tmp 60, .tmp 62]) rfl ?_); at_builtin; refine Kd.R_append k47 (w0 := w) w.heap.size rfl (.tmp 60) (.tmp 62) 22 47 (.agg #[(.string ⟨#[]⟩), (.int .u64 0), (.bool false), (.string ⟨#[]⟩)]) 48 rfl Try.underlying22 gc_part.info rfl r44_ r37_ u10 acc (⟨y0, y1, y2, y3⟩ : S47) [.string y0, .int .u64 y1, .bool y2, .string y3] (fun k_ => k_ ≠ b1 ∧ k_ ≠ b2) (fun _ => False) rfl (by first | (go_simp; done) | (go_simp; rfl)) ?aP (fun _ hk => hk.elim) ?aF ?aO ?aB ?aS ?aL ?_; (case aP => exact k47_mkM _ _ _ (⟨y0, y1, y2, y3⟩ : S47)); (case aB => exact HB.out); (case aF => exact (fun k_ hk_ => ⟨fun e_ => by have := HLT.out; omega, fun e_ => by have := HLT.out; omega⟩)); (case aO => exact HO.out); (case aS => exact HB.out.size); (case aL => have := HAL.out; omega); intro v1 z1 ho hb hg hat; have HOg := Aside0.mk ho; have HBg := Aside0.mk hb; have HDg := Aside0.mk (Mp.SMap.kept HD.out hg (fun e_ => (HO.out.1 b1 e_.symm).1 rfl)); have HKg := Aside0.mk (Mp.SMap.kept HK.out hg (fun e_ => (HO.out.1 b2 e_.symm).2 rfl)); clear ho hb hg hat HO HB HD HK))
    go_roundg k1
    case measure => omega
    case rel => exact ⟨i + 1, acc ++ [(⟨y0, y1, y2, y3⟩ : S47)], by go_num, ⟨by have := HI.out; omega⟩, ⟨HGN.out⟩, HDg, HKg, HOg, HBg⟩
   | false =>
    have hgg := HGG.out
    rw [if_neg (by rw [hgo]; exact ne_of_beq_false hq)] at hgg
    have HGN := Lib.hid hgg
    clear hgg HGG hgo HM
    go_wp2
    go_roundg k1
    case measure => omega
    case rel => exact ⟨i + 1, acc, by go_num, ⟨by have := HI.out; omega⟩, ⟨HGN.out⟩, HD, HK, HO, HB⟩
  have e3 : (r0 == 3) = false := beq_eq_false_iff_ne.mpr c3
  have hgo : gc_part.goes Df Gf y0 ⟨r0, r1, r2, r3, r4, r5, r6, r7, r8⟩ true = inG := by
   unfold gc_part.goes; rw [if_neg (fun z => c3 z.2)]; exact HIN.out
  cases hq : (inG == a2) with
  | true =>
   have hgg := HGG.out
   rw [if_pos (by rw [hgo]; exact eq_of_beq hq)] at hgg
   have HGN := Lib.hid hgg
   clear hgg HGG hgo HM
   go_wp2_with (first | ((with_reducible refine gate_builtin (b := .append) (xs := #[.tmp 60, .tmp 62]) rfl ?_); at_builtin; refine Kd.R_append k47 (w0 := w) w.heap.size rfl (.tmp 60) (.tmp 62) 22 47 (.agg #[(.string ⟨#[]⟩), (.int .u64 0), (.bool false), (.string ⟨#[]⟩)]) 48 rfl Try.underlying22 gc_part.info rfl r44_ r37_ u10 acc (⟨y0, y1, y2, y3⟩ : S47) [.string y0, .int .u64 y1, .bool y2, .string y3] (fun k_ => k_ ≠ b1 ∧ k_ ≠ b2) (fun _ => False) rfl (by first | (go_simp; done) | (go_simp; rfl)) ?aP (fun _ hk => hk.elim) ?aF ?aO ?aB ?aS ?aL ?_; (case aP => exact k47_mkM _ _ _ (⟨y0, y1, y2, y3⟩ : S47)); (case aB => exact HB.out); (case aF => exact (fun k_ hk_ => ⟨fun e_ => by have := HLT.out; omega, fun e_ => by have := HLT.out; omega⟩)); (case aO => exact HO.out); (case aS => exact HB.out.size); (case aL => have := HAL.out; omega); intro v1 z1 ho hb hg hat; have HOg := Aside0.mk ho; have HBg := Aside0.mk hb; have HDg := Aside0.mk (Mp.SMap.kept HD.out hg (fun e_ => (HO.out.1 b1 e_.symm).1 rfl)); have HKg := Aside0.mk (Mp.SMap.kept HK.out hg (fun e_ => (HO.out.1 b2 e_.symm).2 rfl)); clear ho hb hg hat HO HB HD HK))
   go_roundg k1
   case measure => omega
   case rel => exact ⟨i + 1, acc ++ [(⟨y0, y1, y2, y3⟩ : S47)], by go_num, ⟨by have := HI.out; omega⟩, ⟨HGN.out⟩, HDg, HKg, HOg, HBg⟩
  | false =>
   have hgg := HGG.out
   rw [if_neg (by rw [hgo]; exact ne_of_beq_false hq)] at hgg
   have HGN := Lib.hid hgg
   clear hgg HGG hgo HM
   go_wp2
   go_roundg k1
   case measure => omega
   case rel => exact ⟨i + 1, acc, by go_num, ⟨by have := HI.out; omega⟩, ⟨HGN.out⟩, HD, HK, HO, HB⟩

/-! ### gc_Garbage: function 12 -/
def gc_Garbage.l0 : Nat → List ByteArray → List (S47) → Int → Int → Option (List ByteArray × Int)
 | 0, _, _, _, _ => none
 | k + 1, x8, x20, x21, x22 => if x22 < x21 then (if 0 ≤ x22 then (if x22 < (x20.length : Int) then (if x8.length < 8796093022208 then (gc_Garbage.l0 k (x8 ++ [(rd_T47 x20 x22).f0]) x20 x21 (wrap64 (x22 + 1))) else (none)) else (none)) else (none)) else (some (x8, 0))
def gc_Garbage.f (k : Nat) (l0 : List (S47)) (a1 : Int) : Option (List ByteArray × Int) := (gc_part.f k l0 a1 true).bind fun bt175 => (if bt175.2 = 0 then (gc_Garbage.l0 k ([] : List ByteArray) bt175.1 (bt175.1.length : Int) 0) else (some (([] : List ByteArray), bt175.2)))
theorem gc_Garbage.mono_l : ∀ k, (∀ y0 y1 y2 y3, LeO (gc_Garbage.l0 k y0 y1 y2 y3) (gc_Garbage.l0 (k + 1) y0 y1 y2 y3))
 | 0 => fun _ _ _ _ r h => by simp [gc_Garbage.l0] at h
 | k + 1 => by
  have ih0 := gc_Garbage.mono_l k
  ·intro y0 y1 y2 y3
   unfold gc_Garbage.l0
   repeat' first
   | (with_reducible exact ih0 _ _ _ _)
   | (with_reducible exact LeO.refl _)
   | (with_reducible exact LeO.none _)
   | (with_reducible refine LeO.ite ?_ ?_)
   | (with_reducible refine LeO.bind ?_ (fun _ => ?_))
   | exact ih0 _ _ _ _
   | exact gc_part.mono _ _ _ _
   | exact LeO.none _
   | refine LeO.ite ?_ ?_
   | refine LeO.bind ?_ (fun _ => ?_)
theorem gc_Garbage.mono : ∀ a0 a1 k, LeO (gc_Garbage.f k a0 a1) (gc_Garbage.f (k + 1) a0 a1) := by
 intro a0 a1 k
 have ih0 := gc_Garbage.mono_l k
 unfold gc_Garbage.f
 repeat' first
   | (with_reducible exact ih0 _ _ _ _)
   | (with_reducible exact LeO.refl _)
   | (with_reducible exact LeO.none _)
   | (with_reducible refine LeO.ite ?_ ?_)
   | (with_reducible refine LeO.bind ?_ (fun _ => ?_))
   | exact ih0 _ _ _ _
   | exact gc_part.mono _ _ _ _
   | exact LeO.none _
   | refine LeO.ite ?_ ?_
   | refine LeO.bind ?_ (fun _ => ?_)
set_option maxHeartbeats 8000000 in
set_option maxRecDepth 100000 in
theorem gc_Garbage.calls (k : Nat) (A0 : Option Addr) (c0 : Nat) (l0 : List (S47)) (a1 : Int) (r1 : List ByteArray) (r2 : Int) (w : World) (hr0 : Kd.C k47 w A0 l0.length l0) (hc0 : l0.length ≤ c0) (h : gc_Garbage.f k l0 a1 = some (r1, r2)) :
  Calls Try.prog 12 #[.slice A0 l0.length c0, .int .u64 a1] w fun e w' => ∃ v0_ : Value, e = .returned (.tuple #[v0_, .int .i64 r2]) ∧ Kd.R Kd.string 9 w' w.heap.size (fun _ => True) v0_ r1 ∧ Below w.heap.size w w' := by
 have hu47 := Try.underlying47
 have HR0 := Aside0.mk hr0
 have HC0 := Aside0.mk hc0
 clear hr0 hc0
 have HB := Aside0.mk (Below.refl w.heap.size w)
 have H : ((gc_part.f k l0 a1 true).bind fun bt175 => (if bt175.2 = 0 then (gc_Garbage.l0 k ([] : List ByteArray) bt175.1 (bt175.1.length : Int) 0) else (some (([] : List ByteArray), bt175.2)))) = some (r1, r2) := h
 clear h
 replace H := Option.bind_eq_some_iff.mp H
 obtain ⟨⟨t175, t176⟩, A30, H⟩ := H
 try dsimp only at H
 have A3 := Aside0.mk A30
 clear A30
 by_cases c4 : t176 = 0
 rotate_left
 ·rw [if_neg c4] at H
  have c4b0 := beq_eq_false_iff_ne.mpr c4
  have c4b1 := bne_iff_ne.mpr c4
  simp only [Option.some.injEq, Prod.mk.injEq] at H
  obtain ⟨rfl, rfl⟩ := H
  go_enter Try.func12, Try.ntmps12
  go_wp2_with (first | ((with_reducible refine gate_callee (f := 25) rfl ?_); refine goesL_ (some 14) rfl rfl Try.func25 r6_ rfl #[.slice A0 l0.length c0, .int .u64 a1, .bool true] rfl hA_ ?_; (with_reducible refine (gc_part.calls k _ _ l0 a1 true t175 t176 _ ?side1 ?side2 A3.out).mono ?_); (case side1 => repeat (first | exact HR0.out | (with_reducible refine Kd.C_alloc ?_ _) | (with_reducible refine Kd.C_drewN ?_ _) | (with_reducible refine Kd.C_drew ?_))); (case side2 => exact HC0.out); rintro e w14 ⟨v177, rfl, ho0, hb⟩; refine ⟨_, rfl, ?_⟩; have HO178 := Aside0.mk (Kd.R_lower ho0 (below_size hB_)); replace HB := Aside0.mk (below_step hB_ hb); clear hb ho0 A3))
  go_ret2
  exact ⟨_, rf_, by first | exact Kd.R_nil _ _ _ _ _ | exact Kd.N_nil _ _ _ _ _ | exact Kd.V_nil _ _ _ _ _ | exact Kd.Q_nil _ _ _ _ _ | exact Kd.S_nil _ _ _ _ _, hB_⟩
 rw [if_pos c4] at H
 have c4b0 := beq_iff_eq.mpr c4
 have c4b1 := bne_eq_false_iff_eq.mpr c4
 clear c4
 have H' := Aside0.mk H
 clear H
 go_enter Try.func12, Try.ntmps12
 go_wp2_with (first | ((with_reducible refine gate_callee (f := 25) rfl ?_); refine goesL_ (some 14) rfl rfl Try.func25 r6_ rfl #[.slice A0 l0.length c0, .int .u64 a1, .bool true] rfl hA_ ?_; (with_reducible refine (gc_part.calls k _ _ l0 a1 true t175 t176 _ ?side1 ?side2 A3.out).mono ?_); (case side1 => repeat (first | exact HR0.out | (with_reducible refine Kd.C_alloc ?_ _) | (with_reducible refine Kd.C_drewN ?_ _) | (with_reducible refine Kd.C_drew ?_))); (case side2 => exact HC0.out); rintro e w5 ⟨v177, rfl, ho0, hb⟩; refine ⟨_, rfl, ?_⟩; have HO178 := Aside0.mk (Kd.R_lower ho0 (below_size hB_)); replace HB := Aside0.mk (below_step hB_ hb); clear hb ho0 A3; obtain ⟨Ao6, co6, eo6⟩ := Kd.R_slice HO178.out; subst eo6))
 go_loopg [8, 22] k (fun kq v8 v22 w' => ∃ (x8_1 : List ByteArray) (x22_1 : Int), v22 = .int .i64 x22_1 ∧ Aside0 (gc_Garbage.l0 kq x8_1 t175 (t175.length : Int) x22_1 = some (r1, r2)) ∧ Aside0 (kq ≤ k) ∧ Aside0 (Kd.R Kd.string 9 w' w.heap.size (fun _ => True) v8 x8_1) ∧ Aside0 (Kd.R k47 47 w' w.heap.size (fun _ => True) (.slice Ao6 t175.length co6) t175) ∧ Aside0 (Below w.heap.size w w'))
 case atStart => exact ⟨(([] : List ByteArray)), (0), rs_, H', ⟨Nat.le_refl _⟩, ⟨by first | exact Kd.R_nil _ _ _ _ _ | exact Kd.N_nil _ _ _ _ _ | exact Kd.V_nil _ _ _ _ _ | exact Kd.Q_nil _ _ _ _ _ | exact Kd.S_nil _ _ _ _ _⟩, ⟨by (with_reducible repeat (first | apply Kd.R_alloc | apply Kd.R_drewN | apply Kd.R_drew)); exact HO178.out⟩, ⟨hB_⟩⟩
 case round =>
  clear H'
  try clear c4
  try clear c4b0
  try clear c4b1
  obtain ⟨x8_1, x22_1, rfl, HA, HK1, HO_8, HO_20, HB⟩ := hrel
  cases gk with
  | zero => exact absurd HA.out (by simp [gc_Garbage.l0])
  | succ k1 =>
   have H := HA.out
   clear HA
   simp only [gc_Garbage.l0] at H
   by_cases c7 : x22_1 < (t175.length : Int)
   rotate_left
   ·rw [if_neg c7] at H
    have c7b0 := decide_eq_false c7
    clear c7
    simp only [Option.some.injEq, Prod.mk.injEq] at H
    obtain ⟨rfl, rfl⟩ := H
    go_wp2
    go_ret2
    exact ⟨_, rf_, r39_, hB_⟩
   rw [if_pos c7] at H
   have c7b0 := decide_eq_true c7
   clear c7
   by_cases c8 : 0 ≤ x22_1
   rotate_left
   ·rw [if_neg c8] at H
    exact absurd H r34_
   rw [if_pos c8] at H
   have c8b0 := decide_eq_true c8
   clear c8
   by_cases c9 : x22_1 < (t175.length : Int)
   rotate_left
   ·rw [if_neg c9] at H
    exact absurd H r34_
   rw [if_pos c9] at H
   have c9b0 := decide_eq_true c9
   clear c9
   by_cases c10 : x8_1.length < 8796093022208
   rotate_left
   ·rw [if_neg c10] at H
    exact absurd H r34_
   rw [if_pos c10] at H
   have LMc10 := Aside0.mk c10
   clear c10
   obtain ⟨y181, hy181⟩ : ∃ y_ : List ByteArray, y_ = (x8_1 ++ [(rd_T47 t175 x22_1).f0]) := ⟨_, rfl⟩
   replace H : (gc_Garbage.l0 k1 y181 t175 (t175.length : Int) (wrap64 (x22_1 + 1))) = some (r1, r2) := by first | (rw [hy181]; with_reducible exact H) | (have H2_ := (Option.bind_some _ _).symm.trans H; rw [hy181]; with_reducible exact H2_) | (have H2_ := (Option.bind_some _ _).symm.trans H; with_reducible exact H2_) | with_reducible exact H | (rw [hy181]; exact H) | exact H
   have Ny181 := Aside0.mk hy181
   clear hy181
   have H' := Aside0.mk H
   clear H
   have p179 : 0 ≤ (x22_1 : Int) := of_decide_eq_true as_
   have q179 : x22_1 < (t175.length : Int) := of_decide_eq_true as_
   obtain ⟨ad179, e179, hx179_0, hx179_1, hx179_2, hx179_3⟩ := at_T47 (Kd.R_reads' HO_20.out).2.2 x22_1 p179 q179
   cases e179
   replace p179 := eq_true p179
   replace q179 := eq_true q179
   go_wp2_with (first | ((with_reducible refine gate_dst (N := 10) rfl ?_); refine box_event ?hg (N := 10) ?hd (cs := #[.string (⟨#[]⟩ : ByteArray), .int .u64 0, .bool false, .string (⟨#[]⟩ : ByteArray)]) (t := 47) ?hr ?_; (case hd => rfl); (case hg => rfl); (case hr => first | (go_simp; done) | (go_simp; rfl)); intro gb180 hg w11 hbox hb; replace HO_8 := Aside0.mk (Kd.R_below r39_ hb); replace HO_20 := Aside0.mk (Kd.R_below (Kd.R_elderB (by (with_reducible repeat (first | apply Kd.R_alloc | apply Kd.R_drewN | apply Kd.R_drew)); exact HO_20.out) gb180 (Nat.le_of_eq hg.symm)) hb); have BK180 := Aside0.mk (hbox); have GW180 := Aside0.mk ((by rw [hg]; exact (below_size hB_) : w.heap.size ≤ gb180)); have GE180 := Aside0.mk ((by rw [hg]; exact (below_size hB_) : w.heap.size ≤ gb180)); replace HB := Aside0.mk (below_step hB_ hb); clear hb hbox hg; have hcz12_0 : w11.cell? ⟨gb180, 0, none⟩ = some (.string (⟨#[]⟩ : ByteArray)) := (blk_cell BK180.out 0).trans rfl; have hcz12_1 : w11.cell? ⟨gb180, 1, none⟩ = some (.int .u64 0) := (blk_cell BK180.out 1).trans rfl; have hcz12_2 : w11.cell? ⟨gb180, 2, none⟩ = some (.bool false) := (blk_cell BK180.out 2).trans rfl; have hcz12_3 : w11.cell? ⟨gb180, 3, none⟩ = some (.string (⟨#[]⟩ : ByteArray)) := (blk_cell BK180.out 3).trans rfl; have hfz12_0 := blk_frozen BK180.out 0; have hfz12_1 := blk_frozen BK180.out 1; have hfz12_2 := blk_frozen BK180.out 2; have hfz12_3 := blk_frozen BK180.out 3) | ((with_reducible refine gate_builtin (b := .append) (xs := #[.tmp 26, .tmp 29]) rfl ?_); at_builtin; refine Kd.R_append Kd.string (w0 := w) w.heap.size rfl (.tmp 26) (.tmp 29) 26 9 (.string ⟨#[]⟩) 16 rfl Try.underlying26 info9 rfl r44_ r37_ u8 x8_1 ((rd_T47 t175 x22_1).f0) [.string ((rd_T47 t175 x22_1).f0)] (fun _ => True) (fun _ => False) rfl (by first | (go_simp; done) | (go_simp; rfl)) ?aP (fun _ hk => hk.elim) ?aF ?aO ?aB ?aS ?aL ?_; (case aP => exact rfl); (case aB => exact r64_); (case aF => exact (fun _ _ => trivial)); (case aO => exact (by (with_reducible repeat (first | apply Kd.R_alloc | apply Kd.R_drewN | apply Kd.R_drew)); exact Kd.R_mono (Kd.R_far (p := ⟨gb180, 3, none⟩) (Kd.R_far (p := ⟨gb180, 2, none⟩) (Kd.R_far (p := ⟨gb180, 1, none⟩) (Kd.R_far (p := ⟨gb180, 0, none⟩) (Kd.R_types HO_8.out BK180.out r44_) (fun _ hk => hk.2) (.string ((rd_T47 t175 x22_1).f0))) (fun _ hk => hk.2) (.int .u64 ((rd_T47 t175 x22_1).f1))) (fun _ hk => hk.2) (.bool ((rd_T47 t175 x22_1).f2))) (fun _ hk => hk.2) (.string ((rd_T47 t175 x22_1).f3))) (fun _ hk => trivial))); (case aS => exact (below_size r64_)); (case aL => have := LMc10.out; omega); intro v182 w13 ho hb hg hat; rw [← Ny181.out] at ho; replace HO_20 := Aside0.mk (Kd.R_over' (by (with_reducible repeat (first | apply Kd.R_alloc | apply Kd.R_drewN | apply Kd.R_drew)); exact (Kd.R_mono (Kd.R_far (p := ⟨gb180, 3, none⟩) (Kd.R_far (p := ⟨gb180, 2, none⟩) (Kd.R_far (p := ⟨gb180, 1, none⟩) (Kd.R_far (p := ⟨gb180, 0, none⟩) (Kd.R_mono HO_20.out (fun k_ hk => (⟨hk, hk.2⟩ : _ ∧ k_ ≠ gb180))) (fun _ hk => hk.2) (.string ((rd_T47 t175 x22_1).f0))) (fun _ hk => hk.2) (.int .u64 ((rd_T47 t175 x22_1).f1))) (fun _ hk => hk.2) (.bool ((rd_T47 t175 x22_1).f2))) (fun _ hk => hk.2) (.string ((rd_T47 t175 x22_1).f3))) (fun _ h_ => h_.1))) (Kd.R_typed (by (with_reducible repeat (first | apply Kd.R_alloc | apply Kd.R_drewN | apply Kd.R_drew)); exact (Kd.R_mono (Kd.R_far (p := ⟨gb180, 3, none⟩) (Kd.R_far (p := ⟨gb180, 2, none⟩) (Kd.R_far (p := ⟨gb180, 1, none⟩) (Kd.R_far (p := ⟨gb180, 0, none⟩) (Kd.R_types HO_8.out BK180.out r44_) (fun _ hk => hk.2) (.string ((rd_T47 t175 x22_1).f0))) (fun _ hk => hk.2) (.int .u64 ((rd_T47 t175 x22_1).f1))) (fun _ hk => hk.2) (.bool ((rd_T47 t175 x22_1).f2))) (fun _ hk => hk.2) (.string ((rd_T47 t175 x22_1).f3))) (fun _ h_ => h_.1)))) r44_ hg); replace BK180 := Aside0.mk (blk_grown (g := gb180) (o := .cells #[.string ((rd_T47 t175 x22_1).f0), .int .u64 ((rd_T47 t175 x22_1).f1), .bool ((rd_T47 t175 x22_1).f2), .string ((rd_T47 t175 x22_1).f3)] 47 (0, 0)) (by (with_reducible repeat (first | refine blk_drewN ?_ _ | refine blk_drew ?_ | refine blk_alloc ?_ _)); refine blk_put (cs := #[.string ((rd_T47 t175 x22_1).f0), .int .u64 ((rd_T47 t175 x22_1).f1), .bool ((rd_T47 t175 x22_1).f2), .string (⟨#[]⟩ : ByteArray)]) ?_ 3 _ rfl; (with_reducible repeat (first | refine blk_drewN ?_ _ | refine blk_drew ?_ | refine blk_alloc ?_ _)); refine blk_put (cs := #[.string ((rd_T47 t175 x22_1).f0), .int .u64 ((rd_T47 t175 x22_1).f1), .bool false, .string (⟨#[]⟩ : ByteArray)]) ?_ 2 _ rfl; (with_reducible repeat (first | refine blk_drewN ?_ _ | refine blk_drew ?_ | refine blk_alloc ?_ _)); refine blk_put (cs := #[.string ((rd_T47 t175 x22_1).f0), .int .u64 0, .bool false, .string (⟨#[]⟩ : ByteArray)]) ?_ 1 _ rfl; (with_reducible repeat (first | refine blk_drewN ?_ _ | refine blk_drew ?_ | refine blk_alloc ?_ _)); refine blk_put (cs := #[.string (⟨#[]⟩ : ByteArray), .int .u64 0, .bool false, .string (⟨#[]⟩ : ByteArray)]) ?_ 0 _ rfl; (with_reducible repeat (first | refine blk_drewN ?_ _ | refine blk_drew ?_ | refine blk_alloc ?_ _)); exact BK180.out) hg (Kd.R_ne HO_8.out BK180.out r44_)); replace HB := Aside0.mk (hb); have HO183 := Aside0.mk (ho); clear HO_8; clear ho hb hg hat))
   go_roundg k1
   case measure => have := HK1.out; omega
   case rel => exact ⟨(y181), (wrap64 (x22_1 + 1)), rs_, hH_, ⟨by have := HK1.out; omega⟩, ⟨by (with_reducible repeat (first | apply Kd.R_alloc | apply Kd.R_drewN | apply Kd.R_drew)); exact HO183.out⟩, ⟨by (with_reducible repeat (first | apply Kd.R_alloc | apply Kd.R_drewN | apply Kd.R_drew)); exact Kd.R_mono HO_20.out (fun _ hk => trivial)⟩, ⟨r64_⟩⟩

/-! ### gc_Left: function 14 -/
def gc_Left.f (k : Nat) (l0 : List (S47)) (a1 : Int) : Option ((List (S47)) × Int) := (gc_part.f k l0 a1 false).bind fun bt184 => (some (bt184.1, bt184.2))
theorem gc_Left.mono : ∀ a0 a1 k, LeO (gc_Left.f k a0 a1) (gc_Left.f (k + 1) a0 a1) := by
 intro a0 a1 k
 unfold gc_Left.f
 repeat' first
   | (with_reducible exact LeO.refl _)
   | (with_reducible exact LeO.none _)
   | (with_reducible refine LeO.ite ?_ ?_)
   | (with_reducible refine LeO.bind ?_ (fun _ => ?_))
   | exact gc_part.mono _ _ _ _
   | exact LeO.none _
   | refine LeO.ite ?_ ?_
   | refine LeO.bind ?_ (fun _ => ?_)
set_option maxHeartbeats 8000000 in
set_option maxRecDepth 100000 in
theorem gc_Left.calls (k : Nat) (A0 : Option Addr) (c0 : Nat) (l0 : List (S47)) (a1 : Int) (r1 : List (S47)) (r2 : Int) (w : World) (hr0 : Kd.C k47 w A0 l0.length l0) (hc0 : l0.length ≤ c0) (h : gc_Left.f k l0 a1 = some (r1, r2)) :
  Calls Try.prog 14 #[.slice A0 l0.length c0, .int .u64 a1] w fun e w' => ∃ v0_ : Value, e = .returned (.tuple #[v0_, .int .i64 r2]) ∧ Kd.R k47 47 w' w.heap.size (fun _ => True) v0_ r1 ∧ Below w.heap.size w w' := by
 have HR0 := Aside0.mk hr0
 have HC0 := Aside0.mk hc0
 clear hr0 hc0
 have HB := Aside0.mk (Below.refl w.heap.size w)
 have H : ((gc_part.f k l0 a1 false).bind fun bt184 => (some (bt184.1, bt184.2))) = some (r1, r2) := h
 clear h
 replace H := Option.bind_eq_some_iff.mp H
 obtain ⟨⟨t184, t185⟩, A30, H⟩ := H
 try dsimp only at H
 have A3 := Aside0.mk A30
 clear A30
 simp only [Option.some.injEq, Prod.mk.injEq] at H
 obtain ⟨rfl, rfl⟩ := H
 go_enter Try.func14, Try.ntmps14
 go_wp2_with (first | ((with_reducible refine gate_callee (f := 25) rfl ?_); refine goesL_ (some 8) rfl rfl Try.func25 r6_ rfl #[.slice A0 l0.length c0, .int .u64 a1, .bool false] rfl hA_ ?_; (with_reducible refine (gc_part.calls k _ _ l0 a1 false t184 t185 _ ?side1 ?side2 A3.out).mono ?_); (case side1 => repeat (first | exact HR0.out | (with_reducible refine Kd.C_alloc ?_ _) | (with_reducible refine Kd.C_drewN ?_ _) | (with_reducible refine Kd.C_drew ?_))); (case side2 => exact HC0.out); rintro e w4 ⟨v186, rfl, ho0, hb⟩; refine ⟨_, rfl, ?_⟩; have HO187 := Aside0.mk (Kd.R_lower ho0 (below_size hB_)); replace HB := Aside0.mk (below_step hB_ hb); clear hb ho0 A3))
 go_ret2
 exact ⟨_, rf_, by (with_reducible repeat (first | apply Kd.R_alloc | apply Kd.R_drewN | apply Kd.R_drew)); exact HO187.out, hB_⟩

end Go.Proofs.Ytcdadhgcjkgnoaa.P
