-- Printed by a program of this session's own (wip/tools/pprint.sh, over the kit's print, with given contracts): not typed by hand.
import Derived.Test.YtgdkikkjaofbfaaPx0
import Derived.Test.YtgdkikkjaofbfaaPx15
import Derived.Test.YtgdkikkjaofbfaaPx17
import Derived.Test.YtgdkikkjaofbfaaPx18
import Derived.Test.YtgdkikkjaofbfaaPx19
import Derived.Test.YtgdkikkjaofbfaaPx20
import Derived.Test.YtgdkikkjaofbfaaPx21
namespace Go.Proofs.Ytgdkikkjaofbfaa.P
open Go.RowKit Go.Proofs.YtgdkikkjaofbfaaW.PrintWords Go.Proofs.YtgdkikkjaofbfaaW.PrintLast Go.Proofs.YtgdkikkjaofbfaaW.PrintMore
attribute [local go_sem] max2_int min2_int max_two min_two max_three min_three max_four min_four   -- for this text's walks alone
set_option linter.unusedVariables false
set_option linter.unusedSimpArgs false
-- SQUEEZED4
-- SQUEEZED3

/-! ### qd1: function 16 -/
-- needs 43 44 13 39 38
abbrev qd1.mg : List UInt8 := [115, 99, 114, 101, 101, 48, 48, 49]
def qd1.f (k : Nat) (s : ByteArray) : Option (Option (List (S37) × ByteArray) × Int) :=
 if (s.size : Int) - 32 < 0 then some (none, 2) else if s.size ≤ 140737488351232 then (if (s.extract (s.size - 8) s.size).toList = qd1.mg then
  (qA.f k (s.extract (s.size - 16) (s.size - 8))).bind fun u => if u.1 < 1 ∨ 500 < u.1 then some (none, 2) else
   (qm.f k (s.extract 0 (s.size - 32)) u.1).bind fun l => (qr.f k l).bind fun b => if b.2 ≠ 0 ∨ b.1.toList ≠ s.toList then some (none, 2) else
    (qz.f k l).bind fun ks => (ql.f k ks).bind fun m => some (some (l, m.1), 0)
  else some (none, 2)) else none
/-- What the reference's Open hands back: nil, or a table. -/
def qd1.Res (r : Option (List (S37) × ByteArray)) (er : Int) (w : World) (e : Ending) (w' : World) : Prop := match r with
 | none => e = .returned (.tuple #[.pointer none, .int .i64 er]) ∧ Below w.heap.size w w'
 | some t => ∃ (g : Nat) (A : Option Addr) (c : Nat), e = .returned (.tuple #[.pointer (some ⟨g, 0, none⟩), .int .i64 er]) ∧ w.heap.size ≤ g ∧ w'.heap[g]? = some (.cells #[.slice A t.1.length c, .string t.2] 45 (0, 0)) ∧ Kd.R k37 37 w' w.heap.size (fun _ => True) (.slice A t.1.length c) t.1 ∧ Below w.heap.size w w'
set_option maxHeartbeats 6400000 in
set_option maxRecDepth 100000 in
theorem qd1.calls (k : Nat) (a0 : ByteArray) (r : Option (List (S37) × ByteArray)) (er : Int) (w : World) (h : qd1.f k a0 = some (r, er)) :
  Calls Try.prog 16 #[.string a0] w fun e w' => qd1.Res r er w e w' := by
 have hu9_ := Try.underlying9
 have hu8_ := Try.underlying45
 unfold qd1.f at h
 by_cases h0 : (a0.size : Int) - 32 < 0
 ·rw [if_pos h0] at h
  simp only [Option.some.injEq, Prod.mk.injEq] at h
  obtain ⟨rfl, rfl⟩ := h
  have hw0_ : wrap64 ((a0.size : Int) - 32) = (a0.size : Int) - 32 := by unfold wrap64; omega
  have d0 : decide ((a0.size : Int) - 32 < 0) = true := decide_eq_true h0
  clear h0
  go_enter Try.func16, Try.ntmps16
  go_wp2
  exact bodyPost_ret (v := .tuple #[.pointer none, .int .i64 2]) r44_ rfl ⟨rfl, Below.refl _ _⟩
 rw [if_neg h0] at h
 by_cases hz : a0.size ≤ 140737488351232
 case neg => rw [if_neg hz] at h; exact absurd h r17_
 rw [if_pos hz] at h
 have hw0_ : wrap64 ((a0.size : Int) - 32) = (a0.size : Int) - 32 := by unfold wrap64; omega
 have d0 : decide ((a0.size : Int) - 32 < 0) = false := decide_eq_false h0
 have hw1_ : wrap64 ((a0.size : Int) - 32 + 24) = ((a0.size - 8 : Nat) : Int) := by unfold wrap64; omega
 have hw2_ : wrap64 ((a0.size : Int) - 32 + 16) = ((a0.size - 16 : Nat) : Int) := by unfold wrap64; omega
 have slw : ∀ (lo hi : Int), 0 ≤ lo → lo ≤ hi → hi ≤ (a0.size : Int) → ∀ W, (Instr.slice 9 (.string a0) (some (.int .i64 lo)) (some (.int .i64 hi)) none).run Try.prog W = .ok (.string (a0.extract lo.toNat hi.toNat)) W := fun lo hi h0 h1 h2 W => run_slice_string W 9 a0 .i64 .i64 lo hi hu9_ h0 h1 h2
 have sl1 : ∀ W, (Instr.slice 9 (.string a0) (some (.int .i64 ((a0.size - 8 : Nat) : Int))) none none).run Try.prog W = .ok (.string (a0.extract (a0.size - 8) a0.size)) W := fun W => by
  rw [run_slice_string_l W 9 a0 hu9_ .i64 _ r18_ r18_, Int.toNat_natCast]
 have sl2 := slw ((a0.size - 16 : Nat) : Int) ((a0.size - 8 : Nat) : Int) r18_ r18_ r18_
 rw [Int.toNat_natCast, Int.toNat_natCast] at sl2
 have sl3 : ∀ W, (Instr.slice 9 (.string a0) none (some (.int .i64 ((a0.size : Int) - 32))) none).run Try.prog W = .ok (.string (a0.extract 0 (a0.size - 32))) W := fun W => by
  rw [run_slice_string_h W 9 a0 hu9_ .i64 _ r18_ r18_]
  congr 3; omega
 clear slw h0 hz
 obtain ⟨t1, ht1⟩ : ∃ t, a0.extract (a0.size - 8) a0.size = t := ⟨_, rfl⟩
 obtain ⟨t2, ht2⟩ : ∃ t, a0.extract (a0.size - 16) (a0.size - 8) = t := ⟨_, rfl⟩
 obtain ⟨t3, ht3⟩ : ∃ t, a0.extract 0 (a0.size - 32) = t := ⟨_, rfl⟩
 rw [ht1] at sl1 h
 rw [ht2] at sl2 h
 rw [ht3] at sl3
 simp only [ht3] at h
 clear ht1 ht2 ht3
 by_cases hm : t1.toList = qd1.mg
 case neg =>
  rw [if_neg hm] at h
  simp only [Option.some.injEq, Prod.mk.injEq] at h
  obtain ⟨rfl, rfl⟩ := h
  have u1 : (t1.toList == [115, 99, 114, 101, 101, 48, 48, 49]) = false := beq_eq_false_iff_ne.mpr hm
  have u2 : (t1.toList != [115, 99, 114, 101, 101, 48, 48, 49]) = true := bne_iff_ne.mpr hm
  clear hm
  go_enter Try.func16, Try.ntmps16
  go_wp2
  exact bodyPost_ret (v := .tuple #[.pointer none, .int .i64 2]) r44_ rfl ⟨rfl, Below.refl _ _⟩
 rw [if_pos hm] at h
 have u1 : (t1.toList == [115, 99, 114, 101, 101, 48, 48, 49]) = true := beq_iff_eq.mpr hm
 have u2 : (t1.toList != [115, 99, 114, 101, 101, 48, 48, 49]) = false := by rw [bne, u1]; rfl
 clear hm
 replace h := bs_ h
 obtain ⟨⟨n, nb⟩, hu, h⟩ := h
 simp only at h
 have HU := Lib.hid hu
 have HG := Lib.hid h
 clear hu h
 go_enter Try.func16, Try.ntmps16
 go_wp2_with (fail)
 refine (qA.calls k t2 n nb _ HU.out).mono ?_
 rintro e x1 ⟨rfl, hd⟩
 have HX1 := Aside0.mk hd.below
 clear hd HU
 have h := HG.out
 clear HG
 by_cases hn : n < 1 ∨ 500 < n
 ·rw [if_pos hn] at h
  simp only [Option.some.injEq, Prod.mk.injEq] at h
  obtain ⟨rfl, rfl⟩ := h
  by_cases hn1 : n < 1
  ·have d1 : decide (n < 1) = true := decide_eq_true hn1
   clear hn hn1
   go_wp2
   exact bodyPost_ret (v := .tuple #[.pointer none, .int .i64 2]) r44_ rfl ⟨rfl, HX1.out⟩
  have d1 : decide (n < 1) = false := decide_eq_false hn1
  have d2 : decide (n > 500) = true := decide_eq_true r18_
  clear hn hn1
  go_wp2
  exact bodyPost_ret (v := .tuple #[.pointer none, .int .i64 2]) r44_ rfl ⟨rfl, HX1.out⟩
 rw [if_neg hn] at h
 have d1 : decide (n < 1) = false := decide_eq_false r18_
 have d2 : decide (n > 500) = false := decide_eq_false r18_
 have hwn_ : wrap64 n = n := by unfold wrap64; omega
 clear hn
 replace h := bs_ h
 obtain ⟨l, hr, h⟩ := h
 replace h := bs_ h
 obtain ⟨⟨bs, be⟩, hb, h⟩ := h
 simp only at h
 have HRW := Lib.hid hr
 have HBD := Lib.hid hb
 have HG := Lib.hid h
 clear hr hb h
 go_wp2_with (fail)
 refine (qm.calls k t3 n l _ HRW.out).mono ?_
 rintro e x2 ⟨v0_, rfl, hr, hb⟩
 obtain ⟨A, c, eA⟩ := Kd.R_slice hr
 subst eA
 have HC2 := Aside0.mk (Kd.R_reads' hr)
 have HR2 := Aside0.mk (Kd.R_lower hr HX1.out.size)
 have HX2 := Aside0.mk (below_step HX1.out hb)
 clear hr hb HX1 HRW
 go_wp2_with (fail)
 refine (qr.calls k A c l bs be _ HC2.out.2.2 HC2.out.2.1 HBD.out).mono ?_
 rintro e x3 ⟨rfl, hb⟩
 have HC3 := Aside0.mk (Kd.C_below HC2.out.2.2 hb)
 have HLC := Lib.hid HC2.out.2.1
 have HR3 := Aside0.mk (Kd.R_below HR2.out hb)
 have HX3 := Aside0.mk (below_step HX2.out hb)
 clear hb HX2 HC2 HR2 HBD
 have h := HG.out
 clear HG
 by_cases hc : be ≠ 0 ∨ bs.toList ≠ a0.toList
 ·rw [if_pos hc] at h
  simp only [Option.some.injEq, Prod.mk.injEq] at h
  obtain ⟨rfl, rfl⟩ := h
  by_cases hc1 : be = 0
  rotate_left
  ·have e1 : (be == 0) = false := beq_eq_false_iff_ne.mpr hc1
   have e2 : (be != 0) = true := bne_iff_ne.mpr hc1
   clear hc hc1
   go_wp2
   exact bodyPost_ret (v := .tuple #[.pointer none, .int .i64 2]) r44_ rfl ⟨rfl, HX3.out⟩
  have e1 : (be == 0) = true := beq_iff_eq.mpr hc1
  have e2 : (be != 0) = false := by rw [bne, e1]; rfl
  have hc2 : bs.toList ≠ a0.toList := hc.resolve_left (fun h => h hc1)
  have e3 : (bs.toList == a0.toList) = false := beq_eq_false_iff_ne.mpr hc2
  have e4 : (bs.toList != a0.toList) = true := bne_iff_ne.mpr hc2
  clear hc hc1 hc2
  go_wp2
  exact bodyPost_ret (v := .tuple #[.pointer none, .int .i64 2]) r44_ rfl ⟨rfl, HX3.out⟩
 rw [if_neg hc] at h
 have hc1 : be = 0 := Classical.byContradiction fun e => hc (Or.inl e)
 have hc2 : bs.toList = a0.toList := Classical.byContradiction fun e => hc (Or.inr e)
 have e1 : (be == 0) = true := beq_iff_eq.mpr hc1
 have e2 : (be != 0) = false := by rw [bne, e1]; rfl
 have e3 : (bs.toList == a0.toList) = true := beq_iff_eq.mpr hc2
 have e4 : (bs.toList != a0.toList) = false := by rw [bne, e3]; rfl
 clear hc hc1 hc2
 replace h := bs_ h
 obtain ⟨ks, hk, h⟩ := h
 replace h := bs_ h
 obtain ⟨⟨F, fe⟩, hf, h⟩ := h
 simp only [Option.some.injEq, Prod.mk.injEq] at h
 obtain ⟨rfl, rfl⟩ := h
 have HKY := Lib.hid hk
 have HMK := Lib.hid hf
 clear hk hf
 go_wp2_with (fail)
 refine (qz.calls k A c l ks _ HC3.out HLC.out HKY.out).mono ?_
 rintro e x4 ⟨v0_, rfl, hr, hb⟩
 obtain ⟨A4, c4, eA⟩ := Kd.R_slice hr
 subst eA
 have HC4 := Aside0.mk (Kd.R_reads' hr)
 have HR4 := Aside0.mk (Kd.R_below HR3.out hb)
 have HX4 := Aside0.mk (below_step HX3.out hb)
 clear hr hb HX3 HC3 HR3 HKY
 go_wp2_with (fail)
 refine (ql.calls k A4 c4 ks F fe _ HC4.out.2.2 HC4.out.2.1 HMK.out).mono ?_
 rintro e x5 ⟨rfl, hb⟩
 have HR5 := Aside0.mk (Kd.R_below HR4.out hb)
 have HX5 := Aside0.mk (below_step HX4.out hb)
 have HS5 := Lib.hid HX5.out.size
 clear hb HX4 HR4 HC4 HMK
 go_wp2
 exact bodyPost_ret (v := .tuple #[.pointer (some ⟨x5.heap.size, 0, none⟩), .int .i64 0]) r44_ rfl ⟨x5.heap.size, A, c, rfl, HS5.out, blk_new _ _, Kd.R_below HR5.out (below_alloc (Below.refl _ _) _), below_alloc HX5.out _⟩

/-! ### qx: function 48 -/
def qx.q (key : ByteArray) (seq : Int) (x : S37) : Bool := decide (x.f0.toList = key.toList) && decide (x.f1 ≤ seq)
def qx.res (o : Option (S37)) : ByteArray × Int × Bool × ByteArray × Bool := match o with
 | some x => (x.f0, x.f1, x.f2, x.f3, true)
 | none => ((⟨#[]⟩ : ByteArray), 0, false, (⟨#[]⟩ : ByteArray), false)
def qx.f (l : List (S37)) (key : ByteArray) (seq : Int) : ByteArray × Int × Bool × ByteArray × Bool := qx.res (l.find? (qx.q key seq))
set_option maxHeartbeats 6400000 in
set_option maxRecDepth 100000 in
theorem qx.calls (p : Nat) (A : Option Addr) (c : Nat) (l : List (S37)) (a1 : ByteArray) (a2 : Int) (z0 z1 : ByteArray) (zn : Int) (zb zc : Bool) (w : World) (hp : w.heap[p]? = some (.cells #[.slice A l.length c, .slice none 0 0] 90 (0, 0))) (hC : Kd.C k37 w A l.length l) (hm : l.length < 1000000) (h : qx.f l a1 a2 = (z0, zn, zb, z1, zc)) :
  Calls Try.prog 48 #[.pointer (some ⟨p, 0, none⟩), .string a1, .int .u64 a2] w fun e w' => e = .returned (.tuple #[.agg #[.string z0, .int .u64 zn, .bool zb, .string z1], .bool zc]) ∧ Below w.heap.size w w' := by
 have hu_ := Try.underlying37
 have BP := Aside0.mk hp
 have HC := Aside0.mk hC
 have HMX := Lib.hid hm
 unfold qx.f at h
 obtain ⟨o, ho⟩ : ∃ o, l.find? (qx.q a1 a2) = o := ⟨_, rfl⟩
 rw [ho] at h
 have HF := Lib.hid ho
 have HR := Lib.hid h
 clear hp hC hm ho h
 go_enter Try.func48, Try.ntmps48
 go_wp2_with (first | ((with_reducible refine gate_dst (N := 6) rfl ?_); refine box_event ?hg (N := 6) ?hd (cs := #[.string (⟨#[]⟩ : ByteArray), .int .u64 0, .bool false, .string (⟨#[]⟩ : ByteArray)]) (t := 37) ?hr ?_; (case hd => rfl); (case hg => rfl); (case hr => first | (go_simp; done) | (go_simp; rfl)); intro gb hg w6 hbox hb; have BK := Aside0.mk hbox; have HB := Aside0.mk hb; have HGB : Hid (w.heap.size ≤ gb) := Lib.hid (by rw [hg]; exact Nat.le_refl _); clear hb hbox hg))
 go_loopg [8] l.length (fun kq v8 w' => ∃ (i : Nat), v8 = .int .i64 (i : Int) ∧ Aside0 (kq + i = l.length) ∧ Hid ((l.drop i).find? (qx.q a1 a2) = o) ∧ Aside0 (Below w.heap.size w w') ∧ Aside0 (w'.heap[gb]? = some (.cells #[.string (⟨#[]⟩ : ByteArray), .int .u64 0, .bool false, .string (⟨#[]⟩ : ByteArray)] 37 (0, 0))))
 case atStart => exact ⟨0, rfl, ⟨r18_⟩, Lib.hid (by rw [List.drop_zero]; exact HF.out), HB, BK⟩
 case round =>
  clear HB BK HF
  obtain ⟨i, rfl, HI, HCK, HB, BK⟩ := hrel
  have BPr : Aside0 (wr.heap[p]? = some (.cells #[.slice A l.length c, .slice none 0 0] 90 (0, 0))) := ⟨blk_below BP.out HB.out⟩
  have d0_ : wr.cell? ⟨p, 0, none⟩ = some (.slice A l.length c) := (blk_cell BPr.out 0).trans rfl
  have k0_ : wr.cell? ⟨gb, 0, none⟩ = some (.string (⟨#[]⟩ : ByteArray)) := (blk_cell BK.out 0).trans rfl
  have k1_ : wr.cell? ⟨gb, 1, none⟩ = some (.int .u64 0) := (blk_cell BK.out 1).trans rfl
  have k2_ : wr.cell? ⟨gb, 2, none⟩ = some (.bool false) := (blk_cell BK.out 2).trans rfl
  have k3_ : wr.cell? ⟨gb, 3, none⟩ = some (.string (⟨#[]⟩ : ByteArray)) := (blk_cell BK.out 3).trans rfl
  have p0_ := blk_frozen BK.out 0
  have p1_ := blk_frozen BK.out 1
  have p2_ := blk_frozen BK.out 2
  have p3_ := blk_frozen BK.out 3
  clear BPr
  by_cases hlt : i < l.length
  ·have hkg : ∃ k1, gk = k1 + 1 := ⟨gk - 1, by have := HI.out; omega⟩
   obtain ⟨k1, rfl⟩ := hkg
   have hmx := HMX.out
   have dl : decide ((i : Int) < (l.length : Int)) = true := decide_eq_true r18_
   have hdr : l.drop i = rd_T37 l (i : Int) :: l.drop (i + 1) := by
    rw [List.drop_eq_getElem_cons hlt]; simp [rd_T37, hlt]
   have hck := HCK.out
   rw [hdr, List.find?_cons] at hck
   clear hdr HCK
   obtain ⟨ad, ead, hx0, hx1, hx2, hx3⟩ := at_T37 HC.out (i : Int) r18_ r18_
   have hA := ead
   subst ead
   have htn : ((i : Int)).toNat = i := by omega
   rw [htn] at hx0 hx1 hx2 hx3
   clear htn hA
   replace hx0 := (HB.out.cell (World.block_lt_of_cell? w _ hx0)).trans hx0
   replace hx1 := (HB.out.cell (World.block_lt_of_cell? w _ hx1)).trans hx1
   replace hx2 := (HB.out.cell (World.block_lt_of_cell? w _ hx2)).trans hx2
   replace hx3 := (HB.out.cell (World.block_lt_of_cell? w _ hx3)).trans hx3
   generalize rd_T37 l (i : Int) = y at hck hx0 hx1 hx2 hx3
   obtain ⟨y0, y1, y2, y3⟩ := y
   simp only at hck hx0 hx1 hx2 hx3
   unfold qx.q at hck
   simp only at hck
   by_cases hk1 : y0.toList = a1.toList
   rotate_left
   ·have u1 : (y0.toList == a1.toList) = false := beq_eq_false_iff_ne.mpr hk1
    rw [decide_eq_false hk1] at hck
    simp only [Bool.false_and] at hck
    have HCK := Lib.hid hck
    clear hck hk1
    go_wp2_with (fail)
    go_roundg k1
    case measure => omega
    case rel => exact ⟨i + 1, by go_num, ⟨by have := HI.out; omega⟩, HCK, HB, BK⟩
   have u1 : (y0.toList == a1.toList) = true := beq_iff_eq.mpr hk1
   by_cases hk2 : y1 ≤ a2
   rotate_left
   ·have d2 : decide (y1 ≤ a2) = false := decide_eq_false hk2
    rw [decide_eq_true hk1, d2] at hck
    simp only [Bool.and_false] at hck
    have HCK := Lib.hid hck
    clear hck hk1 hk2
    go_wp2_with (fail)
    go_roundg k1
    case measure => omega
    case rel => exact ⟨i + 1, by go_num, ⟨by have := HI.out; omega⟩, HCK, HB, BK⟩
   have d2 : decide (y1 ≤ a2) = true := decide_eq_true hk2
   rw [decide_eq_true hk1, d2] at hck
   simp only [Bool.and_self] at hck
   subst hck
   have hr := HR.out
   unfold qx.res at hr
   simp only [Prod.mk.injEq] at hr
   obtain ⟨rfl, rfl, rfl, rfl, rfl⟩ := hr
   clear hk1 hk2
   go_wp2
   refine bodyPost_ret (results_ct rfl _ _ gb 37 #[.string y0, .int .u64 y1, .bool y2, .string y3] (0, 0) _ rfl (blk_put (cs' := #[.string y0, .int .u64 y1, .bool y2, .string y3]) (blk_put (cs' := #[.string y0, .int .u64 y1, .bool y2, .string (⟨#[]⟩ : ByteArray)]) (blk_put (cs' := #[.string y0, .int .u64 y1, .bool false, .string (⟨#[]⟩ : ByteArray)]) (blk_put (cs' := #[.string y0, .int .u64 0, .bool false, .string (⟨#[]⟩ : ByteArray)]) BK.out 0 (.string y0) rfl) 1 (.int .u64 y1) rfl) 2 (.bool y2) rfl) 3 (.string y3) rfl) hu_ rfl r2_) rfl ?_
   exact ⟨rfl, (Below.setCell (p := ⟨gb, 3, none⟩) (Below.setCell (p := ⟨gb, 2, none⟩) (Below.setCell (p := ⟨gb, 1, none⟩) (Below.setCell (p := ⟨gb, 0, none⟩) HB.out HGB.out (.string y0)) HGB.out (.int .u64 y1)) HGB.out (.bool y2)) HGB.out (.string y3))⟩
  have dl : decide ((i : Int) < (l.length : Int)) = false := decide_eq_false r18_
  have hck := HCK.out
  rw [List.drop_eq_nil_of_le r18_] at hck
  simp only [List.find?_nil] at hck
  subst hck
  have hr := HR.out
  unfold qx.res at hr
  simp only [Prod.mk.injEq] at hr
  obtain ⟨rfl, rfl, rfl, rfl, rfl⟩ := hr
  go_wp2
  refine bodyPost_ret (results_ct rfl _ _ gb 37 #[.string (⟨#[]⟩ : ByteArray), .int .u64 0, .bool false, .string (⟨#[]⟩ : ByteArray)] (0, 0) _ rfl (blk_put (cs' := #[.string (⟨#[]⟩ : ByteArray), .int .u64 0, .bool false, .string (⟨#[]⟩ : ByteArray)]) (blk_put (cs' := #[.string (⟨#[]⟩ : ByteArray), .int .u64 0, .bool false, .string (⟨#[]⟩ : ByteArray)]) (blk_put (cs' := #[.string (⟨#[]⟩ : ByteArray), .int .u64 0, .bool false, .string (⟨#[]⟩ : ByteArray)]) (blk_put (cs' := #[.string (⟨#[]⟩ : ByteArray), .int .u64 0, .bool false, .string (⟨#[]⟩ : ByteArray)]) BK.out 0 (.string (⟨#[]⟩ : ByteArray)) rfl) 1 (.int .u64 0) rfl) 2 (.bool false) rfl) 3 (.string (⟨#[]⟩ : ByteArray)) rfl) hu_ rfl r2_) rfl ?_
  exact ⟨rfl, (Below.setCell (p := ⟨gb, 3, none⟩) (Below.setCell (p := ⟨gb, 2, none⟩) (Below.setCell (p := ⟨gb, 1, none⟩) (Below.setCell (p := ⟨gb, 0, none⟩) HB.out HGB.out (.string (⟨#[]⟩ : ByteArray))) HGB.out (.int .u64 0)) HGB.out (.bool false)) HGB.out (.string (⟨#[]⟩ : ByteArray)))⟩

/-! ### screeref11_Table_Get: function 18 -/
-- needs 48
set_option maxHeartbeats 6400000 in
set_option maxRecDepth 100000 in
theorem screeref11_Table_Get.calls (g : Nat) (A : Option Addr) (c : Nat) (l : List (S37)) (F a1 : ByteArray) (a2 : Int) (z0 z1 : ByteArray) (zn : Int) (zb zc : Bool) (w : World) (hp : w.heap[g]? = some (.cells #[.slice A l.length c, .string F] 45 (0, 0))) (hC : Kd.C k37 w A l.length l) (hm : l.length < 1000000) (h : qx.f l a1 a2 = (z0, zn, zb, z1, zc)) :
  Calls Try.prog 18 #[.pointer (some ⟨g, 0, none⟩), .string a1, .int .u64 a2] w fun e w' => e = .returned (.tuple #[.agg #[.string z0, .int .u64 zn, .bool zb, .string z1], .bool zc]) ∧ Below w.heap.size w w' := by
 have hu_ := Try.underlying37
 have hu2_ := Try.underlying90
 have BP := Aside0.mk hp
 have HC := Aside0.mk hC
 have HMX := Lib.hid hm
 have HF := Lib.hid h
 clear hp hC hm h
 go_enter Try.func18, Try.ntmps18
 go_upto_region 1 with (first | ((with_reducible refine gate_dst (N := 6) rfl ?_); refine box_event ?hg (N := 6) ?hd (cs := #[.string (⟨#[]⟩ : ByteArray), .int .u64 0, .bool false, .string (⟨#[]⟩ : ByteArray)]) (t := 37) ?hr ?_; (case hd => rfl); (case hg => rfl); (case hr => first | (go_simp; done) | (go_simp; rfl)); intro gb hg w6 hbox hb; have BK := Aside0.mk hbox; have HB := Aside0.mk hb; have HGB : Hid (w.heap.size ≤ gb) := Lib.hid (by rw [hg]; exact Nat.le_refl _); clear hb hbox hg))
 have d0_ : w6.cell? ⟨g, 0, none⟩ = some (.slice A l.length c) := (blk_cell (blk_below BP.out HB.out) 0).trans rfl
 go_upto_region 2 with (fail)
 clear d0_
 have B8 := Aside0.mk (blk_new w6 (.cells #[.slice A l.length c, .slice none 0 0] 90))
 have BK8 := Aside0.mk (blk_alloc BK.out (.cells #[.slice A l.length c, .slice none 0 0] 90))
 have HB8 := Aside0.mk (below_alloc HB.out (.cells #[.slice A l.length c, .slice none 0 0] 90))
 clear BK HB
 generalize (w6.alloc (.cells #[.slice A l.length c, .slice none 0 0] 90)) = w8 at B8 BK8 HB8 ⊢
 generalize w6.heap.size = g8 at B8 ⊢
 go_wp2_with (fail)
 refine (qx.calls g8 A c l a1 a2 z0 z1 zn zb zc _ B8.out (Kd.C_below HC.out HB8.out) HMX.out HF.out).mono ?_
 rintro e x ⟨rfl, hb⟩
 have BK := Aside0.mk (blk_below BK8.out hb)
 have HB := Aside0.mk (below_step HB8.out hb)
 clear hb BK8 HB8 B8
 have k0_ : x.cell? ⟨gb, 0, none⟩ = some (.string (⟨#[]⟩ : ByteArray)) := (blk_cell BK.out 0).trans rfl
 have k1_ : x.cell? ⟨gb, 1, none⟩ = some (.int .u64 0) := (blk_cell BK.out 1).trans rfl
 have k2_ : x.cell? ⟨gb, 2, none⟩ = some (.bool false) := (blk_cell BK.out 2).trans rfl
 have k3_ : x.cell? ⟨gb, 3, none⟩ = some (.string (⟨#[]⟩ : ByteArray)) := (blk_cell BK.out 3).trans rfl
 have p0_ := blk_frozen BK.out 0
 have p1_ := blk_frozen BK.out 1
 have p2_ := blk_frozen BK.out 2
 have p3_ := blk_frozen BK.out 3
 go_wp2
 refine bodyPost_ret (results_ct rfl _ _ gb 37 #[.string z0, .int .u64 zn, .bool zb, .string z1] (0, 0) _ rfl (blk_put (cs' := #[.string z0, .int .u64 zn, .bool zb, .string z1]) (blk_put (cs' := #[.string z0, .int .u64 zn, .bool zb, .string (⟨#[]⟩ : ByteArray)]) (blk_put (cs' := #[.string z0, .int .u64 zn, .bool false, .string (⟨#[]⟩ : ByteArray)]) (blk_put (cs' := #[.string z0, .int .u64 0, .bool false, .string (⟨#[]⟩ : ByteArray)]) BK.out 0 (.string z0) rfl) 1 (.int .u64 zn) rfl) 2 (.bool zb) rfl) 3 (.string z1) rfl) hu_ rfl r2_) rfl ?_
 exact ⟨rfl, (Below.setCell (p := ⟨gb, 3, none⟩) (Below.setCell (p := ⟨gb, 2, none⟩) (Below.setCell (p := ⟨gb, 1, none⟩) (Below.setCell (p := ⟨gb, 0, none⟩) HB.out HGB.out (.string z0)) HGB.out (.int .u64 zn)) HGB.out (.bool zb)) HGB.out (.string z1))⟩

/-! ### qL: function 80 -/
def qL.l0 : Nat → Int → Int → Int → Option (Bool)
 | 0, _, _, _ => none
 | k + 1, x1, x5, x6 => if x6 < (Int.tmod x1 8) then (qL.l0 k x1 (wrap64 (Int.tdiv x5 2)) (wrap64 (x6 + 1))) else (some ((Int.tmod x5 2) == 1))
def qL.f (k : Nat) (a0 : ByteArray) (a1 : Int) : Option (Bool) := if 0 ≤ (wrap64 (Int.tdiv a1 8)) then (if (wrap64 (Int.tdiv a1 8)) < (a0.size : Int) then (qL.l0 k a1 (wrap64 (bt a0 (wrap64 (Int.tdiv a1 8)))) 0) else (none)) else (none)
theorem qL.mono_l : ∀ k, (∀ y0 y1 y2, LeO (qL.l0 k y0 y1 y2) (qL.l0 (k + 1) y0 y1 y2))
 | 0 => fun _ _ _ r h => by simp [qL.l0] at h
 | k + 1 => by
  have ih0 := qL.mono_l k
  ·intro y0 y1 y2
   unfold qL.l0
   repeat' first
   | (with_reducible exact ih0 _ _ _)
   | (with_reducible exact LeO.refl _)
   | (with_reducible exact LeO.none _)
   | (with_reducible refine LeO.ite ?_ ?_)
   | (with_reducible refine LeO.bind ?_ (fun _ => ?_))
   | exact ih0 _ _ _
   | exact LeO.none _
   | refine LeO.ite ?_ ?_
   | refine LeO.bind ?_ (fun _ => ?_)
theorem qL.mono : ∀ a0 a1 k, LeO (qL.f k a0 a1) (qL.f (k + 1) a0 a1) := by
 intro a0 a1 k
 have ih0 := qL.mono_l k
 unfold qL.f
 repeat' first
   | (with_reducible exact ih0 _ _ _)
   | (with_reducible exact LeO.refl _)
   | (with_reducible exact LeO.none _)
   | (with_reducible refine LeO.ite ?_ ?_)
   | (with_reducible refine LeO.bind ?_ (fun _ => ?_))
   | exact ih0 _ _ _
   | exact LeO.none _
   | refine LeO.ite ?_ ?_
   | refine LeO.bind ?_ (fun _ => ?_)
set_option maxHeartbeats 8000000 in
set_option maxRecDepth 100000 in
theorem qL.calls (k : Nat) (a0 : ByteArray) (a1 : Int) (r : Bool) (w : World) (h : qL.f k a0 a1 = some r) :
  Calls Try.prog 80 #[.string a0, .int .i64 a1] w fun e w' => e = .returned (.bool r) ∧ Drawn0 w w' := by
 have H : (if 0 ≤ (wrap64 (Int.tdiv a1 8)) then (if (wrap64 (Int.tdiv a1 8)) < (a0.size : Int) then (qL.l0 k a1 (wrap64 (bt a0 (wrap64 (Int.tdiv a1 8)))) 0) else (none)) else (none)) = some r := h
 clear h
 obtain ⟨ji3, hji3⟩ : ∃ j_ : Int, (wrap64 (Int.tdiv a1 8)) = j_ := ⟨_, rfl⟩
 replace H : (if 0 ≤ (ji3) then (if (ji3) < (a0.size : Int) then (qL.l0 k a1 (wrap64 (bt a0 (ji3))) 0) else (none)) else (none)) = some r := by first | (rw [hji3] at H; exact H) | (simp only [hji3] at H ⊢; exact H)
 (try rw [hji3])
 have hji3w : (IntKind.i64.wrap (Int.tdiv a1 8)) = ji3 := (i64_w _).trans hji3
 by_cases c4 : 0 ≤ (ji3)
 rotate_left
 ·rw [if_neg c4] at H
  exact absurd H r17_
 rw [if_pos c4] at H
 have c4b0 := decide_eq_true c4
 clear c4
 by_cases c5 : (ji3) < (a0.size : Int)
 rotate_left
 ·rw [if_neg c5] at H
  exact absurd H r17_
 rw [if_pos c5] at H
 have c5b0 := decide_eq_true c5
 clear c5
 have H' := Aside0.mk H
 clear H
 have p6 : 0 ≤ ((ji3) : Int) := of_decide_eq_true as_
 have q6 : (ji3) < (a0.size : Int) := of_decide_eq_true as_
 have hx6 := bt_at a0 (ji3)
 replace p6 := eq_true p6
 replace q6 := eq_true q6
 go_enter Try.func80, Try.ntmps80
 go_wp2
 go_loopg [5, 6] k (fun kq v5 v6 w' => ∃ (x5_1 : Int) (x6_1 : Int), v5 = .int .i64 x5_1 ∧ v6 = .int .i64 x6_1 ∧ Aside0 (qL.l0 kq a1 x5_1 x6_1 = some r) ∧ Aside0 (kq ≤ k) ∧ Drawn0 w w')
 case atStart => exact ⟨(wrap64 (bt a0 (ji3))), (0), (by first | rfl | (simp; done) | (simp only [← hji3] <;> (first | rfl | simp)) | (simp [*]; done)), rs_, H', ⟨Nat.le_refl _⟩, dR_⟩
 case round =>
  clear H'
  try clear c4
  try clear c4b0
  try clear c5
  try clear c5b0
  try clear p6
  try clear q6
  try clear hx6
  try clear p6
  try clear q6
  obtain ⟨x5_1, x6_1, rfl, rfl, HA, HK1, ⟨m1, rfl⟩⟩ := hrel
  cases gk with
  | zero => exact absurd HA.out (by simp [qL.l0])
  | succ k1 =>
   have H := HA.out
   clear HA
   simp only [qL.l0] at H
   by_cases c7 : x6_1 < (Int.tmod a1 8)
   rotate_left
   ·rw [if_neg c7] at H
    have c7b0 := decide_eq_false c7
    clear c7
    obtain rfl := Option.some.inj H
    go_wp2
    go_ret
    exact ⟨by first | rfl | (simp; done) | (simp only [← hji3] <;> (first | rfl | simp)) | (simp [*]; done), dR_⟩
   rw [if_pos c7] at H
   have c7b0 := decide_eq_true c7
   clear c7
   have H' := Aside0.mk H
   clear H
   go_wp2
   go_roundg k1
   case measure => have := HK1.out; omega
   case rel => exact ⟨(wrap64 (Int.tdiv x5_1 2)), (wrap64 (x6_1 + 1)), rs_, rs_, hH_, ⟨by have := HK1.out; omega⟩, dR_⟩

/-! ### qS: function 50 -/
def qS.l0 : Nat → ByteArray → List Int → Int → Option (Bool)
 | 0, _, _, _ => none
 | k + 1, x0, x5, x6 => if x6 < (x5.length : Int) then (if 0 ≤ x6 then ((qL.f k x0 (rd x5 x6)).bind fun t337 => (if t337 = true then (qS.l0 k x0 x5 (wrap64 (x6 + 1))) else (some false))) else (none)) else (some true)
def qS.f (k : Nat) (a0 : ByteArray) (a1 : ByteArray) : Option (Bool) := (qo.f k a1 (wrap64 (8 * (a0.size : Int)))).bind fun t333 => (qS.l0 k a0 t333 0)
theorem qS.mono_l : ∀ k, (∀ y0 y1 y2, LeO (qS.l0 k y0 y1 y2) (qS.l0 (k + 1) y0 y1 y2))
 | 0 => fun _ _ _ r h => by simp [qS.l0] at h
 | k + 1 => by
  have ih0 := qS.mono_l k
  ·intro y0 y1 y2
   unfold qS.l0
   repeat' first
   | (with_reducible exact ih0 _ _ _)
   | (with_reducible exact LeO.refl _)
   | (with_reducible exact LeO.none _)
   | (with_reducible refine LeO.ite ?_ ?_)
   | (with_reducible refine LeO.bind ?_ (fun _ => ?_))
   | exact ih0 _ _ _
   | exact qo.mono _ _ _
   | exact qL.mono _ _ _
   | exact LeO.none _
   | refine LeO.ite ?_ ?_
   | refine LeO.bind ?_ (fun _ => ?_)
theorem qS.mono : ∀ a0 a1 k, LeO (qS.f k a0 a1) (qS.f (k + 1) a0 a1) := by
 intro a0 a1 k
 have ih0 := qS.mono_l k
 unfold qS.f
 repeat' first
   | (with_reducible exact ih0 _ _ _)
   | (with_reducible exact LeO.refl _)
   | (with_reducible exact LeO.none _)
   | (with_reducible refine LeO.ite ?_ ?_)
   | (with_reducible refine LeO.bind ?_ (fun _ => ?_))
   | exact ih0 _ _ _
   | exact qo.mono _ _ _
   | exact qL.mono _ _ _
   | exact LeO.none _
   | refine LeO.ite ?_ ?_
   | refine LeO.bind ?_ (fun _ => ?_)
set_option maxHeartbeats 8000000 in
set_option maxRecDepth 100000 in
theorem qS.calls (k : Nat) (a0 : ByteArray) (a1 : ByteArray) (r : Bool) (w : World) (h : qS.f k a0 a1 = some r) :
  Calls Try.prog 50 #[.string a0, .string a1] w fun e w' => e = .returned (.bool r) ∧ Below w.heap.size w w' := by
 have HB := Aside0.mk (Below.refl w.heap.size w)
 have H : ((qo.f k a1 (wrap64 (8 * (a0.size : Int)))).bind fun t333 => (qS.l0 k a0 t333 0)) = some r := h
 clear h
 replace H := bs_ H
 obtain ⟨t333, A30, H⟩ := H
 try dsimp only at H
 have A3 := Aside0.mk A30
 clear A30
 have H' := Aside0.mk H
 clear H
 go_enter Try.func50, Try.ntmps50
 go_wp2_with (first | ((with_reducible refine gate_callee (f := 63) rfl ?_); refine goesL_ (some 11) rfl rfl Try.func63 r2_ rfl #[.string a1, .int .i64 (wrap64 (8 * (a0.size : Int)))] rfl hA_ ?_; (with_reducible refine (qo.calls k a1 (wrap64 (8 * (a0.size : Int))) t333 _ A3.out).mono ?_); rintro e w4 ⟨v334, rfl, ho0, hb⟩; refine ⟨_, rfl, ?_⟩; have HO335 := Aside0.mk (Kd.R_lower ho0 (below_size hB_)); replace HB := Aside0.mk (below_step hB_ hb); clear hb ho0 A3))
 go_loopg [6] k (fun kq v6 w' => ∃ (x6_1 : Int), v6 = .int .i64 x6_1 ∧ Aside0 (qS.l0 kq a0 t333 x6_1 = some r) ∧ Aside0 (kq ≤ k) ∧ Aside0 (Kd.R (Kd.int .i64) 3 w' w.heap.size (fun _ => True) v334 t333) ∧ Aside0 (Below w.heap.size w w'))
 case atStart => exact ⟨(0), rs_, H', ⟨Nat.le_refl _⟩, ⟨by (with_reducible repeat (first | apply Kd.R_alloc | apply Kd.R_drewN | apply Kd.R_drew)); exact HO335.out⟩, ⟨hB_⟩⟩
 case round =>
  clear H'
  obtain ⟨x6_1, rfl, HA, HK1, HO_5, HB⟩ := hrel
  cases gk with
  | zero => exact absurd HA.out (by simp [qS.l0])
  | succ k1 =>
   have H := HA.out
   clear HA
   simp only [qS.l0] at H
   by_cases c5 : x6_1 < (t333.length : Int)
   rotate_left
   ·rw [if_neg c5] at H
    have c5b0 := decide_eq_false c5
    clear c5
    obtain rfl := Option.some.inj H
    obtain ⟨Ao11, co11, eo11⟩ := Kd.R_slice HO_5.out
    subst eo11
    go_wp2
    go_ret
    exact ⟨rf_, hB_⟩
   rw [if_pos c5] at H
   have c5b0 := decide_eq_true c5
   clear c5
   by_cases c6 : 0 ≤ x6_1
   rotate_left
   ·rw [if_neg c6] at H
    exact absurd H r17_
   rw [if_pos c6] at H
   have c6b0 := decide_eq_true c6
   clear c6
   replace H := bs_ H
   obtain ⟨t337, A70, H⟩ := H
   try dsimp only at H
   have A7 := Aside0.mk A70
   clear A70
   by_cases c8 : t337 = true
   rotate_left
   ·replace c8 := Bool.eq_false_iff.mpr c8
    subst c8
    rw [if_neg ff_] at H
    obtain rfl := Option.some.inj H
    obtain ⟨Ao10, co10, eo10⟩ := Kd.R_slice HO_5.out
    subst eo10
    have p336 : 0 ≤ (x6_1 : Int) := of_decide_eq_true as_
    have q336 : x6_1 < (t333.length : Int) := of_decide_eq_true as_
    obtain ⟨ad336, e336, hx336_0⟩ := Kd.at_int (Kd.R_reads' HO_5.out).2.2 x6_1 p336 q336
    cases e336
    replace p336 := eq_true p336
    replace q336 := eq_true q336
    go_wp2_with (first | ((with_reducible refine gate_callee (f := 80) rfl ?_); refine goesL_ (some 23) rfl rfl Try.func80 r2_ rfl #[.string a0, .int .i64 (rd t333 x6_1)] rfl hA_ ?_; (with_reducible refine (qL.calls k1 a0 (rd t333 x6_1) false _ A7.out).mono ?_); rintro e w' ⟨rfl, ⟨nd, rfl⟩⟩; refine ⟨_, rfl, ?_⟩))
    go_ret
    exact ⟨rf_, hB_⟩
   subst c8
   rw [if_pos rfl] at H
   have H' := Aside0.mk H
   clear H
   obtain ⟨Ao9, co9, eo9⟩ := Kd.R_slice HO_5.out
   subst eo9
   have p336 : 0 ≤ (x6_1 : Int) := of_decide_eq_true as_
   have q336 : x6_1 < (t333.length : Int) := of_decide_eq_true as_
   obtain ⟨ad336, e336, hx336_0⟩ := Kd.at_int (Kd.R_reads' HO_5.out).2.2 x6_1 p336 q336
   cases e336
   replace p336 := eq_true p336
   replace q336 := eq_true q336
   go_wp2_with (first | ((with_reducible refine gate_callee (f := 80) rfl ?_); refine goesL_ (some 23) rfl rfl Try.func80 r2_ rfl #[.string a0, .int .i64 (rd t333 x6_1)] rfl hA_ ?_; (with_reducible refine (qL.calls k1 a0 (rd t333 x6_1) true _ A7.out).mono ?_); rintro e w' ⟨rfl, ⟨nd, rfl⟩⟩; refine ⟨_, rfl, ?_⟩))
   go_roundg k1
   case measure => have := HK1.out; omega
   case rel => exact ⟨(wrap64 (x6_1 + 1)), rs_, hH_, ⟨by have := HK1.out; omega⟩, ⟨r4_⟩, ⟨hB_⟩⟩

/-! ### qj1: function 21 -/
-- needs 50 51
def qj1.f (k : Nat) (l : List (S37)) (F a1 : ByteArray) (a2 : Int) : Option Int :=
 (qS.f k F a1).bind fun m => if m = true then (qc1.f (rd_T37 l ((l.length - 1 : Nat) : Int)).f0 (rd_T37 l ((l.length - 1 : Nat) : Int)).f1 a1 a2).bind fun a => if a = true then some 0 else some 1 else some 0
set_option maxHeartbeats 6400000 in
set_option maxRecDepth 100000 in
theorem qj1.calls (k : Nat) (g : Nat) (A : Option Addr) (c : Nat) (l : List (S37)) (F a1 : ByteArray) (a2 : Int) (r : Int) (w : World) (hp : w.heap[g]? = some (.cells #[.slice A l.length c, .string F] 45 (0, 0))) (hC : Kd.C k37 w A l.length l) (hm : l.length < 1000000) (h0 : 0 < l.length) (h : qj1.f k l F a1 a2 = some r) :
  Calls Try.prog 21 #[.pointer (some ⟨g, 0, none⟩), .string a1, .int .u64 a2] w fun e w' => e = .returned (.int .i64 r) ∧ Below w.heap.size w w' := by
 have hu_ := Try.underlying37
 have BP := Aside0.mk hp
 have HC := Aside0.mk hC
 have HMX := Lib.hid (And.intro h0 hm)
 have HF := Lib.hid h
 have D0 : Aside0 (w.cell? ⟨g, 0, none⟩ = some (.slice A l.length c)) := ⟨(blk_cell hp 0).trans rfl⟩
 obtain ⟨ad, ead, m0_, m1_, m2_, m3_⟩ := at_T37 HC.out ((l.length - 1 : Nat) : Int) r18_ r18_
 have hA := ead
 subst ead
 rw [Int.toNat_natCast] at m0_ m1_ m2_ m3_
 clear hA hp hC hm h h0
 have h := HF.out
 clear HF
 unfold qj1.f at h
 generalize rd_T37 l ((l.length - 1 : Nat) : Int) = yn at m0_ m1_ m2_ m3_ h
 obtain ⟨y0, y1, y2, y3⟩ := yn
 simp only at m0_ m1_ m2_ m3_ h
 have FM := Aside0.mk (And.intro m0_ (And.intro m1_ (And.intro m2_ m3_)))
 have HF := Lib.hid h
 clear m0_ m1_ m2_ m3_ h
 go_enter Try.func21, Try.ntmps21
 go_upto_region 1 with (fail)
 have hlen := HMX.out.1
 have hmx := HMX.out.2
 have in_ : (((l.length - 1 : Nat) : Int) < (l.length : Int)) = True := eq_true r18_
 have jn_ : (l.length - 1 < l.length) = True := eq_true r18_
 have wn_ : wrap64 ((l.length : Int) - 1) = ((l.length - 1 : Nat) : Int) := by unfold wrap64; omega
 clear hlen hmx
 refine start_ (n := 14) (S := fun w' => Below w.heap.size w w') (ds := []) #[N,N,N,N,N,N,N,N,N,N,N,N,N,N] r2_ rfl rfl (below_drew1 (Below.refl w.heap.size w)) (fun hHeld => ?_)
 have HX2 : Aside0 (Below w.heap.size w w.drew) := ⟨below_drew1 (Below.refl w.heap.size w)⟩
 generalize w.drew = x2 at HX2 hHeld ⊢
 refine pu_ 0 (some 8) (mk_ 14 1) r2_ ?_
 refine pu_ 1 (some 9) (mk_ 14 3) r2_ ?_
 refine pu_ 2 (some 10) (mk_ 14 7) r2_ ?_
 refine tk_ (v := ?_) 3 (some 11) (mk_ 14 15) r2_ hHeld ?_ ?_
 rotate_left
 ·intro w' hS_
  have c0_ := (hS_.cell (World.block_lt_of_cell? w _ D0.out)).trans D0.out
  go_simp
  with_reducible rfl
 refine pu_ 4 (some 12) (mk_ 14 31) r2_ ?_
 refine pu_ 5 (some 13) (mk_ 14 63) r2_ ?_
 refine pu_ 6 (some 14) (mk_ 14 127) r2_ ?_
 refine tk_ (v := ?_) 7 (some 15) (mk_ 14 255) r2_ hHeld ?_ ?_
 rotate_left
 ·intro w' hS_
  have c0_ := (hS_.cell (World.block_lt_of_cell? w _ D0.out)).trans D0.out
  go_simp
  with_reducible rfl
 refine pu_ 8 (some 16) (mk_ 14 511) r2_ ?_
 refine pu_ 9 (some 17) (mk_ 14 1023) r2_ ?_
 refine pu_ 10 (some 18) (mk_ 14 2047) r2_ ?_
 refine tk_ (v := ?_) 11 (some 19) (mk_ 14 4095) r2_ hHeld ?_ ?_
 rotate_left
 ·intro w' hS_
  have c0_ := (hS_.cell (World.block_lt_of_cell? w _ FM.out.1)).trans FM.out.1
  have c1_ := (hS_.cell (World.block_lt_of_cell? w _ FM.out.2.1)).trans FM.out.2.1
  have c2_ := (hS_.cell (World.block_lt_of_cell? w _ FM.out.2.2.1)).trans FM.out.2.2.1
  have c3_ := (hS_.cell (World.block_lt_of_cell? w _ FM.out.2.2.2)).trans FM.out.2.2.2
  go_simp
  with_reducible rfl
 refine one_ (i := 12) (N := some 7) (mk_ 14 8191) rfl rfl r2_ r24_ (fun K hK => ?_)
 refine box_step r37_ (N := 7) rfl (cs := #[.string (⟨#[]⟩ : ByteArray), .int .u64 0, .bool false, .string (⟨#[]⟩ : ByteArray)]) (t := 37) r25_ ?_
 intro gx hgx x3 BX_ hb
 have BX3 := Aside0.mk BX_
 have HX3 := Aside0.mk (below_step HX2.out hb)
 have HGX_ : Hid (w.heap.size ≤ gx) := Lib.hid (by rw [hgx]; exact HX2.out.size)
 clear BX_ hb hgx HX2
 refine hK.out _ _ HX3.out (fun hHeld => ?_)
 clear hK K
 refine nm_ (some 7) ?_
 have p0_ := blk_frozen BX3.out 0
 have p1_ := blk_frozen BX3.out 1
 have p2_ := blk_frozen BX3.out 2
 have p3_ := blk_frozen BX3.out 3
 have k0_ : x3.cell? ⟨gx, 0, none⟩ = some (.string (⟨#[]⟩ : ByteArray)) := (blk_cell BX3.out 0).trans rfl
 have k1_ : x3.cell? ⟨gx, 1, none⟩ = some (.int .u64 0) := (blk_cell BX3.out 1).trans rfl
 have k2_ : x3.cell? ⟨gx, 2, none⟩ = some (.bool false) := (blk_cell BX3.out 2).trans rfl
 have k3_ : x3.cell? ⟨gx, 3, none⟩ = some (.string (⟨#[]⟩ : ByteArray)) := (blk_cell BX3.out 3).trans rfl
 refine one_ (i := 13) (N := none) (mk_ 14 16383) rfl rfl r2_ r24_ (fun K hK => ?_)
 refine skip_ r37_ rfl (w1 := ((((x3.setCell ⟨gx, 0, none⟩ (.string y0)).setCell ⟨gx, 1, none⟩ (.int .u64 y1)).setCell ⟨gx, 2, none⟩ (.bool y2)).setCell ⟨gx, 3, none⟩ (.string y3))) r25_ ?_
 clear p0_ p1_ p2_ p3_ k0_ k1_ k2_ k3_
 have BX4 := Aside0.mk (blk_put (cs' := #[.string y0, .int .u64 y1, .bool y2, .string y3]) (blk_put (cs' := #[.string y0, .int .u64 y1, .bool y2, .string (⟨#[]⟩ : ByteArray)]) (blk_put (cs' := #[.string y0, .int .u64 y1, .bool false, .string (⟨#[]⟩ : ByteArray)]) (blk_put (cs' := #[.string y0, .int .u64 0, .bool false, .string (⟨#[]⟩ : ByteArray)]) BX3.out 0 (.string y0) rfl) 1 (.int .u64 y1) rfl) 2 (.bool y2) rfl) 3 (.string y3) rfl)
 have HX4 := Aside0.mk (Below.setCell (p := ⟨gx, 3, none⟩) (Below.setCell (p := ⟨gx, 2, none⟩) (Below.setCell (p := ⟨gx, 1, none⟩) (Below.setCell (p := ⟨gx, 0, none⟩) HX3.out HGX_.out (.string y0)) HGX_.out (.int .u64 y1)) HGX_.out (.bool y2)) HGX_.out (.string y3))
 clear HX3 BX3 hHeld
 refine hK.out _ _ HX4.out (fun hHeld => ?_)
 clear hK K
 generalize ((((x3.setCell ⟨gx, 0, none⟩ (.string y0)).setCell ⟨gx, 1, none⟩ (.int .u64 y1)).setCell ⟨gx, 2, none⟩ (.bool y2)).setCell ⟨gx, 3, none⟩ (.string y3)) = x4 at HX4 BX4 hHeld ⊢
 refine done_ r2_ ?_
 (try clear hHeld)
 (try clear hHeld)
 clear in_ jn_ wn_
 have d1_ : x4.cell? ⟨g, 1, none⟩ = some (.string F) := (blk_cell (blk_below BP.out HX4.out) 1).trans rfl
 have k0_ : x4.cell? ⟨gx, 0, none⟩ = some (.string y0) := (blk_cell BX4.out 0).trans rfl
 have k1_ : x4.cell? ⟨gx, 1, none⟩ = some (.int .u64 y1) := (blk_cell BX4.out 1).trans rfl
 have h := HF.out
 clear HF
 replace h := bs_ h
 obtain ⟨m, hm, h⟩ := h
 have HM := Lib.hid hm
 clear hm
 cases m with
 | false =>
  rw [if_neg r17_] at h
  obtain rfl := Option.some.inj h
  clear h
  go_wp2_with (fail)
  refine (qS.calls k F a1 false _ HM.out).mono ?_
  rintro e x5 ⟨rfl, hb⟩
  have HX5 := Aside0.mk (below_step HX4.out hb)
  clear hb HX4
  go_wp2
  go_ret
  exact ⟨rfl, HX5.out⟩
 | true =>
  rw [if_pos rfl] at h
  replace h := bs_ h
  obtain ⟨a, ha, h⟩ := h
  have HA := Lib.hid ha
  clear ha
  have HE := Lib.hid h
  clear h
  go_wp2_with (fail)
  refine (qS.calls k F a1 true _ HM.out).mono ?_
  rintro e x5 ⟨rfl, hb⟩
  have HX5 := Aside0.mk (below_step HX4.out hb)
  have BX5 := Aside0.mk (blk_below BX4.out hb)
  clear hb HX4 BX4 d1_ k0_ k1_
  have k0_ : x5.cell? ⟨gx, 0, none⟩ = some (.string y0) := (blk_cell BX5.out 0).trans rfl
  have k1_ : x5.cell? ⟨gx, 1, none⟩ = some (.int .u64 y1) := (blk_cell BX5.out 1).trans rfl
  go_wp2_with (fail)
  refine (qc1.calls y0 y1 a1 a2 a _ HA.out).mono ?_
  rintro e x6 ⟨rfl, hd⟩
  have HX6 := Aside0.mk (below_step HX5.out hd.below)
  clear hd HX5 BX5 k0_ k1_
  have h := HE.out
  clear HE
  cases a with
  | false =>
   rw [if_neg r17_] at h
   obtain rfl := Option.some.inj h
   clear h
   go_wp2
   go_ret
   exact ⟨rfl, HX6.out⟩
  | true =>
   rw [if_pos rfl] at h
   obtain rfl := Option.some.inj h
   clear h
   go_wp2
   go_ret
   exact ⟨rfl, HX6.out⟩

/-! ### qK: function 53 -/
def qK.go (key : ByteArray) (n : Int) : List (S37) → List (S37) → List (S37)
 | [], out => out
 | x :: l, out => if (out.length : Int) < n then (if Op.bytesLess x.f0.toList key.toList = true then qK.go key n l out else qK.go key n l (out ++ [x])) else out
def qK.f (l : List (S37)) (key : ByteArray) (n : Int) : List (S37) := qK.go key n l []
theorem qK.info : (Try.prog.info? 37).map (fun i => (i.zero, i.size, i.bytes)) = some (some (.agg #[(.string ⟨#[]⟩), (.int .u64 0), (.bool false), (.string ⟨#[]⟩)]), 4, 48) := by kernel_rfl
set_option maxHeartbeats 6400000 in
set_option maxRecDepth 100000 in
theorem qK.calls (p : Nat) (A : Option Addr) (c : Nat) (l : List (S37)) (a1 : ByteArray) (a2 : Int) (r : List (S37)) (w : World) (hp : w.heap[p]? = some (.cells #[.slice A l.length c, .slice none 0 0] 90 (0, 0))) (hC : Kd.C k37 w A l.length l) (hm : l.length < 1000000) (h : qK.f l a1 a2 = r) :
  Calls Try.prog 53 #[.pointer (some ⟨p, 0, none⟩), .string a1, .int .i64 a2] w fun e w' => ∃ v0_ : Value, e = .returned v0_ ∧ Kd.R k37 37 w' w.heap.size (fun _ => True) v0_ r ∧ Below w.heap.size w w' := by
 have hu_ := Try.underlying37
 have BP := Aside0.mk hp
 have HC := Aside0.mk hC
 have HMX := Lib.hid hm
 unfold qK.f at h
 have HF := Lib.hid h
 clear hp hC hm h
 go_enter Try.func53, Try.ntmps53
 go_wp2_with (first | ((with_reducible refine gate_dst (N := 9) rfl ?_); refine Kd.R_lit k37 (w0 := w) w.heap.size 37 ?hg (N := 9) ?hd (xs := ([] : List (S37))) (inner := []) (ok := fun _ => True) (okp := fun _ => False) ?hr ?hp (fun _ hk => hk.elim) trivial (Below.refl _ _) (Nat.le_refl _) r17_ ?_; (case hd => rfl); (case hg => rfl); (case hr => first | (go_simp; done) | (go_simp; rfl)); (case hp => exact (Reps.none _ _)); intro v9 w9 ho hb hg_ hnew_; have HO9 := Aside0.mk ho; have HB9 := Aside0.mk hb; clear ho hb hg_ hnew_))
 go_loopg [7, 8] l.length (fun kq v7 v8 w' => ∃ (i : Nat) (out : List (S37)), v8 = .int .i64 (i : Int) ∧ Aside0 (kq + i = l.length) ∧ Hid (qK.go a1 a2 (l.drop i) out = r) ∧ Hid (out.length ≤ i) ∧ Aside0 (Kd.R k37 37 w' w.heap.size (fun _ => True) v7 out) ∧ Aside0 (Below w.heap.size w w'))
 case atStart => exact ⟨0, [], rfl, ⟨r18_⟩, Lib.hid (by rw [List.drop_zero]; exact HF.out), Lib.hid r17_, HO9, HB9⟩
 case round =>
  clear HO9 HB9 HF
  obtain ⟨i, out, rfl, HI, HCK, HOL, HO, HB⟩ := hrel
  obtain ⟨Ao, co, eo⟩ := Kd.R_slice HO.out
  subst eo
  have BPr : Aside0 (wr.heap[p]? = some (.cells #[.slice A l.length c, .slice none 0 0] 90 (0, 0))) := ⟨blk_below BP.out HB.out⟩
  have d0_ : wr.cell? ⟨p, 0, none⟩ = some (.slice A l.length c) := (blk_cell BPr.out 0).trans rfl
  clear BPr
  by_cases hlt : i < l.length
  ·have hkg : ∃ k1, gk = k1 + 1 := ⟨gk - 1, by have := HI.out; omega⟩
   obtain ⟨k1, rfl⟩ := hkg
   have hmx := HMX.out
   have dl : decide ((i : Int) < (l.length : Int)) = true := decide_eq_true r18_
   have hdr : l.drop i = rd_T37 l (i : Int) :: l.drop (i + 1) := by
    rw [List.drop_eq_getElem_cons hlt]; simp [rd_T37, hlt]
   have hck := HCK.out
   rw [hdr, qK.go] at hck
   clear hdr HCK
   by_cases hn : (out.length : Int) < a2
   rotate_left
   ·rw [if_neg hn] at hck
    have dn : decide ((out.length : Int) < a2) = false := decide_eq_false hn
    clear hn
    subst hck
    go_wp2
    go_ret
    exact ⟨_, rfl, HO.out, HB.out⟩
   rw [if_pos hn] at hck
   have dn : decide ((out.length : Int) < a2) = true := decide_eq_true hn
   clear hn
   obtain ⟨ad, ead, hx0, hx1, hx2, hx3⟩ := at_T37 HC.out (i : Int) r18_ r18_
   have hA := ead
   subst ead
   have htn : ((i : Int)).toNat = i := by omega
   rw [htn] at hx0 hx1 hx2 hx3
   clear htn hA
   replace hx0 := (HB.out.cell (World.block_lt_of_cell? w _ hx0)).trans hx0
   replace hx1 := (HB.out.cell (World.block_lt_of_cell? w _ hx1)).trans hx1
   replace hx2 := (HB.out.cell (World.block_lt_of_cell? w _ hx2)).trans hx2
   replace hx3 := (HB.out.cell (World.block_lt_of_cell? w _ hx3)).trans hx3
   generalize rd_T37 l (i : Int) = y at hck hx0 hx1 hx2 hx3
   obtain ⟨y0, y1, y2, y3⟩ := y
   simp only at hck hx0 hx1 hx2 hx3
   by_cases hk1 : Op.bytesLess y0.toList a1.toList = true
   ·rw [if_pos hk1] at hck
    have HCK := Lib.hid hck
    clear hck
    go_wp2_with (fail)
    go_roundg k1
    case measure => omega
    case rel => exact ⟨i + 1, out, by go_num, ⟨by have := HI.out; omega⟩, HCK, Lib.hid (by have := HOL.out; omega), HO, HB⟩
   rw [if_neg hk1] at hck
   have hk2 : Op.bytesLess y0.toList a1.toList = false := by simpa using hk1
   clear hk1
   have HCK := Lib.hid hck
   clear hck
   have hol := HOL.out
   go_wp2_with (first | ((with_reducible refine gate_builtin (b := .append) (xs := #[.tmp 35, .tmp 43]) rfl ?_); at_builtin; refine Kd.R_append k37 (w0 := w) w.heap.size rfl (.tmp 35) (.tmp 43) 22 37 (.agg #[(.string ⟨#[]⟩), (.int .u64 0), (.bool false), (.string ⟨#[]⟩)]) 48 rfl Try.underlying22 qK.info rfl r24_ r18_ (.slice Ao out.length co) out ⟨y0, y1, y2, y3⟩ [.string y0, .int .u64 y1, .bool y2, .string y3] (fun _ => True) (fun _ => False) rfl r25_ ?aP (fun _ hk => hk.elim) ?aF ?aO ?aB ?aS ?aL ?_; (case aP => exact k37_mkM _ _ _ (⟨y0, y1, y2, y3⟩ : S37)); (case aB => exact HB.out); (case aF => exact (fun _ _ => trivial)); (case aO => exact HO.out); (case aS => exact HB.out.size); (case aL => omega); intro v31 w31 ho hb hg_ hat; have HOn := Aside0.mk ho; have HBn := Aside0.mk hb; clear ho hb hg_ hat HB HO))
   go_roundg k1
   case measure => omega
   case rel => exact ⟨i + 1, out ++ [⟨y0, y1, y2, y3⟩], by go_num, ⟨by have := HI.out; omega⟩, HCK, Lib.hid (by have := HOL.out; simp; omega), HOn, HBn⟩
  have dl : decide ((i : Int) < (l.length : Int)) = false := decide_eq_false r18_
  have hck := HCK.out
  rw [List.drop_eq_nil_of_le r18_, qK.go] at hck
  subst hck
  clear HCK
  go_wp2
  go_ret
  exact ⟨_, rfl, HO.out, HB.out⟩

end Go.Proofs.Ytgdkikkjaofbfaa.P
