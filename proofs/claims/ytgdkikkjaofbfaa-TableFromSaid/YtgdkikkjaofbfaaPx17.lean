-- Printed by a program of this session's own (wip/tools/pprint.sh, over the kit's print, with given contracts): not typed by hand.
import Derived.Test.YtgdkikkjaofbfaaPx0
import Derived.Test.YtgdkikkjaofbfaaPx6
import Derived.Test.YtgdkikkjaofbfaaPx7
import Derived.Test.YtgdkikkjaofbfaaPx10
import Derived.Test.YtgdkikkjaofbfaaPx11
import Derived.Test.YtgdkikkjaofbfaaPx12
import Derived.Test.YtgdkikkjaofbfaaPx14
import Derived.Test.YtgdkikkjaofbfaaPx15
namespace Go.Proofs.Ytgdkikkjaofbfaa.P
open Go.RowKit Go.Proofs.YtgdkikkjaofbfaaW.PrintWords Go.Proofs.YtgdkikkjaofbfaaW.PrintLast Go.Proofs.YtgdkikkjaofbfaaW.PrintMore
attribute [local go_sem] max2_int min2_int max_two min_two max_three min_three max_four min_four   -- for this text's walks alone
set_option linter.unusedVariables false
set_option linter.unusedSimpArgs false
-- SQUEEZED3

/-! ### screelaw11_TableGets: function 6 -/
-- needs NS37DS
def screelaw11_TableGets.sm (a0 : ByteArray) (a1 : Int) (a2 : Bool) (a3 : ByteArray) (x : S37) : Prop := a0.toList = x.f0.toList ∧ a1 = x.f1 ∧ a2 = x.f2 ∧ a3.toList = x.f3.toList
instance screelaw11_TableGets.sm_dec (a0 : ByteArray) (a1 : Int) (a2 : Bool) (a3 : ByteArray) (x : S37) : Decidable (screelaw11_TableGets.sm a0 a1 a2 a3 x) := by unfold screelaw11_TableGets.sm; exact inferInstance
abbrev screelaw11_TableGets.at (l : List (S37)) (j : Nat) : S37 := rd_T37 l (j : Int)
def screelaw11_TableGets.pre (k : Nat) (l : List (S37)) (x : Bool) (K : ByteArray × List (S80) × ByteArray × Int → Option Bool) : Option Bool :=
 (screelaw11_awake.f k).bind fun t => if t = true then (screelaw11_large.f k l).bind fun g => if g = true ∨ x = true then some true else
  (table_Build.f k l).bind fun b => if b.2 = 0 then (table_Open.f k b.1).bind fun o => match o with
   | (some t, e) => if e = 0 then K t else none
   | _ => none else some true else none
theorem screelaw11_TableGets.bel2 {B : Nat} {w0 a b : World} (h : Below w0.heap.size w0 a) (h2 : Below w0.heap.size w0 b) (hs : a.heap.size ≤ b.heap.size) (hB : B ≤ w0.heap.size) : Below B a b :=
 ⟨h2.os.trans h.os.symm, h2.tape.trans h.tape.symm, h2.output.trans h.output.symm, hs, fun k hk => (h2.block k r17_).trans (h.block k r17_).symm⟩

def screelaw11_TableGets.q (key : ByteArray) (seq : Int) (x : S37) : Bool := decide (x.f0.toList = key.toList) && decide (x.f1 ≤ seq)
def screelaw11_TableGets.fin (o : Option (S37)) (y : ByteArray × Int × Bool × ByteArray × Bool) (c : Int) : Option Bool := match o with
 | some x => if screelaw11_TableGets.sm y.1 y.2.1 y.2.2.1 y.2.2.2.1 x ∧ y.2.2.2.2 = true ∧ c = 1 then some true else none
 | none => if y = ((⟨#[]⟩ : ByteArray), 0, false, (⟨#[]⟩ : ByteArray), false) ∧ 0 ≤ c ∧ c ≤ 1 then some true else none
def screelaw11_TableGets.K (k : Nat) (l : List (S37)) (key : ByteArray) (seq : Int) (t : ByteArray × List (S80) × ByteArray × Int) : Option Bool :=
 (table_Table_Get.f k t.1 t.2.1 t.2.2.1 t.2.2.2 key seq).bind fun y => (table_Table_Cost.f k y.2.2.2.2.2.1 t.2.1 y.2.2.2.2.2.2.1 y.2.2.2.2.2.2.2 key seq).bind fun c =>
  screelaw11_TableGets.fin (l.find? (screelaw11_TableGets.q key seq)) (y.1, y.2.1, y.2.2.1, y.2.2.2.1, y.2.2.2.2.1) c.1
def screelaw11_TableGets.f (k : Nat) (l0 : List (S37)) (a1 : ByteArray) (a2 : Int) : Option Bool :=
 screelaw11_TableGets.pre k l0 (decide (300 < (a1.size : Int))) (fun t => if l0.length < 1000000 then screelaw11_TableGets.K k l0 a1 a2 t else none)
set_option maxHeartbeats 6400000 in
set_option maxRecDepth 100000 in
theorem screelaw11_TableGets.calls (k : Nat) (A0 : Option Addr) (c0 : Nat) (l0 : List (S37)) (a1 : ByteArray) (a2 : Int) (r : Bool) (w : World) (hr0 : Kd.C k37 w A0 l0.length l0) (hc0 : l0.length ≤ c0) (h : screelaw11_TableGets.f k l0 a1 a2 = some r) :
  Calls Try.prog 6 #[.slice A0 l0.length c0, .string a1, .int .u64 a2] w fun e w' => e = .returned (.bool r) ∧ Below w.heap.size w w' := by
 have hu_ := Try.underlying37
 have HR0 := Aside0.mk hr0
 have HC0 := Aside0.mk hc0
 clear hr0 hc0
 unfold screelaw11_TableGets.f screelaw11_TableGets.pre at h
 replace h := Option.bind_eq_some_iff.mp h
 obtain ⟨aw, ha, h⟩ := h
 by_cases he : aw = true
 case neg => rw [if_neg he] at h; exact absurd h r19_
 rw [if_pos he] at h
 subst he
 have HA := Lib.hid ha
 clear ha
 replace h := Option.bind_eq_some_iff.mp h
 obtain ⟨g, hg, h⟩ := h
 have HG := Lib.hid hg
 clear hg
 cases g with
 | true =>
  rw [if_pos (Or.inl rfl)] at h
  obtain rfl := Option.some.inj h
  clear h
  go_enter Try.func6, Try.ntmps6
  go_wp2_with (fail)
  refine (screelaw11_awake.calls k true _ HA.out).mono ?_
  rintro e w1 ⟨rfl, hb⟩
  have HB1 := Aside0.mk hb
  clear hb
  go_wp2_with (fail)
  refine (screelaw11_large.calls k A0 c0 l0 true _ (Kd.C_below HR0.out HB1.out) HC0.out HG.out).mono ?_
  rintro e w2 ⟨rfl, hb⟩
  have HB2 := Aside0.mk (below_step HB1.out hb.below)
  clear HB1 hb
  go_wp2
  go_ret
  exact ⟨rfl, HB2.out⟩
 | false =>
 obtain ⟨X, hX⟩ : ∃ X, decide (300 < (a1.size : Int)) = X := ⟨_, rfl⟩
 rw [hX] at h
 cases X with
 | true =>
  rw [if_pos (Or.inr rfl)] at h
  obtain rfl := Option.some.inj h
  clear h
  have dx : decide ((a1.size : Int) > 300) = true := hX
  go_enter Try.func6, Try.ntmps6
  go_wp2_with (fail)
  refine (screelaw11_awake.calls k true _ HA.out).mono ?_
  rintro e w1 ⟨rfl, hb⟩
  have HB1 := Aside0.mk hb
  clear hb
  go_wp2_with (fail)
  refine (screelaw11_large.calls k A0 c0 l0 false _ (Kd.C_below HR0.out HB1.out) HC0.out HG.out).mono ?_
  rintro e w2 ⟨rfl, hb⟩
  have HB2 := Aside0.mk (below_step HB1.out hb.below)
  clear HB1 hb
  go_wp2
  go_ret
  exact ⟨rfl, HB2.out⟩
 | false =>
 rw [if_neg r19_] at h
 have dx : decide ((a1.size : Int) > 300) = false := hX
 replace h := Option.bind_eq_some_iff.mp h
 obtain ⟨⟨s, e⟩, hb, h⟩ := h
 simp only at h
 have HBD := Lib.hid hb
 clear hb
 by_cases he : e = 0
 case neg =>
  rw [if_neg he] at h
  obtain rfl := Option.some.inj h
  clear h
  have d1 : (e == 0) = false := beq_eq_false_iff_ne.mpr he
  have d2 : (e != 0) = true := bne_iff_ne.mpr he
  go_enter Try.func6, Try.ntmps6
  go_wp2_with (fail)
  refine (screelaw11_awake.calls k true _ HA.out).mono ?_
  rintro e w1 ⟨rfl, hb⟩
  have HB1 := Aside0.mk hb
  clear hb
  go_wp2_with (fail)
  refine (screelaw11_large.calls k A0 c0 l0 false _ (Kd.C_below HR0.out HB1.out) HC0.out HG.out).mono ?_
  rintro e w2 ⟨rfl, hb⟩
  have HB2 := Aside0.mk (below_step HB1.out hb.below)
  clear HB1 hb
  go_wp2_with (fail)
  refine (table_Build.calls k A0 c0 l0 s e _ (Kd.C_below HR0.out HB2.out) HC0.out HBD.out).mono ?_
  rintro e_ x1 ⟨rfl, hb⟩
  have HX1 := Aside0.mk (below_step HB2.out hb)
  clear hb HBD
  go_wp2
  go_ret
  exact ⟨rfl, HX1.out⟩
 rw [if_pos he] at h
 subst he
 replace h := Option.bind_eq_some_iff.mp h
 obtain ⟨⟨o, e⟩, ho, h⟩ := h
 cases o with
 | none => exact absurd h r19_
 | some t =>
 obtain ⟨s0, hs0, fl0, n0⟩ := t
 simp only at h
 by_cases he : e = 0
 case neg => rw [if_neg he] at h; exact absurd h r19_
 rw [if_pos he] at h
 subst he
 have HOP := Lib.hid ho
 have HK := Lib.hid h
 clear ho h
 go_enter Try.func6, Try.ntmps6
 go_wp2_with (fail)
 refine (screelaw11_awake.calls k true _ HA.out).mono ?_
 rintro e w1 ⟨rfl, hb⟩
 have HB1 := Aside0.mk hb
 clear hb
 go_wp2_with (fail)
 refine (screelaw11_large.calls k A0 c0 l0 false _ (Kd.C_below HR0.out HB1.out) HC0.out HG.out).mono ?_
 rintro e w2 ⟨rfl, hb⟩
 have HB2 := Aside0.mk (below_step HB1.out hb.below)
 clear HB1 hb
 go_wp2_with (fail)
 refine (table_Build.calls k A0 c0 l0 s 0 _ (Kd.C_below HR0.out HB2.out) HC0.out HBD.out).mono ?_
 rintro e x1 ⟨rfl, hb⟩
 have HX1 := Aside0.mk (below_step HB2.out hb)
 clear hb HBD HB2
 go_wp2_with (fail)
 refine (table_Open.calls k s (some (s0, hs0, fl0, n0)) 0 _ HOP.out).mono ?_
 rintro e x2 ⟨g, w0, rfl, hi, hb0, hsz, hb⟩
 have HI2 := Aside0.mk hi
 have HT2 := Aside0.mk hb0
 have HX2 := Aside0.mk (below_step HX1.out hb)
 have HZ : Hid (w.heap.size ≤ w0.heap.size) := Lib.hid (Nat.le_trans HX1.out.size hsz)
 clear hi hb0 hsz hb HX1 HOP
 have h := HK.out
 clear HK
 by_cases hmax : l0.length < 1000000
 case neg => rw [if_neg hmax] at h; exact absurd h r19_
 rw [if_pos hmax] at h
 unfold screelaw11_TableGets.K at h
 replace h := Option.bind_eq_some_iff.mp h
 obtain ⟨⟨xa, xb, xc, xd, xe, s2, fl2, n2⟩, hx, h⟩ := h
 simp only at hx h
 replace h := Option.bind_eq_some_iff.mp h
 obtain ⟨⟨cc, s3, fl3, n3⟩, q3, h⟩ := h
 simp only at q3 h
 obtain ⟨o, ho⟩ : ∃ o, l0.find? (screelaw11_TableGets.q a1 a2) = o := ⟨_, rfl⟩
 rw [ho] at h
 have HGX := Lib.hid hx
 have Q3 := Lib.hid q3
 have HFN := Lib.hid h
 have HFD := Lib.hid ho
 have HMX := Lib.hid hmax
 clear hx q3 h ho hmax
 go_wp2_with (fail)
 refine (table_Table_Get.calls k g s0 hs0 fl0 n0 a1 a2 xa xb xc xd xe s2 fl2 n2 w0 _ HI2.out HT2.out HGX.out).mono ?_
 rintro e x5 ⟨rfl, hi, hb, hk⟩
 have HI5 := Aside0.mk hi
 have HT5 := Aside0.mk hb
 have HX5 := Aside0.mk (HX2.out.trans (screelaw11_TableGets.bel2 HT2.out hb hk.1 HZ.out))
 clear hi hb hk HI2 HT2 HX2 HGX
 go_upto_region 12 with (fail)
 have BA6 := Aside0.mk (blk_new x5 (.cells #[.string xa, .int .u64 xb, .bool xc, .string xd] 37))
 have HI6 := Aside0.mk (IsS82.alloc HI5.out (.cells #[.string xa, .int .u64 xb, .bool xc, .string xd] 37))
 have HT6 := Aside0.mk (below_alloc HT5.out (.cells #[.string xa, .int .u64 xb, .bool xc, .string xd] 37))
 have HX6 := Aside0.mk (below_alloc HX5.out (.cells #[.string xa, .int .u64 xb, .bool xc, .string xd] 37))
 have HGL := Lib.hid (show g < x5.heap.size by obtain ⟨_, _, hb_, _⟩ := HI5.out; exact blk_lt hb_)
 clear HI5 HT5 HX5
 generalize (x5.alloc (.cells #[.string xa, .int .u64 xb, .bool xc, .string xd] 37)) = x6 at BA6 HI6 HT6 HX6 ⊢
 obtain ⟨ga, hga⟩ : ∃ ga, x5.heap.size = ga := ⟨_, rfl⟩
 rw [hga] at BA6 HGL ⊢
 clear hga
 have HGA : Hid (ga ≠ g) := Lib.hid (by have := HGL.out; omega)
 clear HGL
 go_wp2_with (fail)
 refine (table_Table_Cost.calls k g s2 hs0 fl2 n2 a1 a2 cc s3 fl3 n3 w0 _ HI6.out HT6.out Q3.out).mono ?_
 rintro e x7 ⟨rfl, hi, hb, hk⟩
 have HX7 := Aside0.mk (HX6.out.trans (screelaw11_TableGets.bel2 HT6.out hb hk.1 HZ.out))
 have BA7 := Aside0.mk (hk.blk BA6.out HGA.out r19_)
 clear hi hb hk HI6 HT6 HX6 BA6 Q3
 go_wp2_with (fail)
 go_loopg [55] l0.length (fun kq v55 w' => ∃ (i : Nat), v55 = .int .i64 (i : Int) ∧ Aside0 (kq + i = l0.length) ∧ Hid ((l0.drop i).find? (screelaw11_TableGets.q a1 a2) = o) ∧ Aside0 (Below w.heap.size w w') ∧ Aside0 (w'.heap[ga]? = some (.cells #[.string xa, .int .u64 xb, .bool xc, .string xd] 37 (0, 0))))
 case atStart => exact ⟨0, rfl, ⟨r17_⟩, Lib.hid (by rw [List.drop_zero]; exact HFD.out), HX7, BA7⟩
 case round =>
  clear HX7 BA7 HFD
  obtain ⟨i, rfl, HI, HCK, HB, HA7⟩ := hrel
  have z0_ : wr.cell? ⟨ga, 0, none⟩ = some (.string xa) := (blk_cell HA7.out 0).trans rfl
  have z1_ : wr.cell? ⟨ga, 1, none⟩ = some (.int .u64 xb) := (blk_cell HA7.out 1).trans rfl
  have z2_ : wr.cell? ⟨ga, 2, none⟩ = some (.bool xc) := (blk_cell HA7.out 2).trans rfl
  have z3_ : wr.cell? ⟨ga, 3, none⟩ = some (.string xd) := (blk_cell HA7.out 3).trans rfl
  by_cases hlt : i < l0.length
  ·have hkg : ∃ k1, gk = k1 + 1 := ⟨gk - 1, by have := HI.out; omega⟩
   obtain ⟨k1, rfl⟩ := hkg
   have hmx := HMX.out
   have dl : decide ((i : Int) < (l0.length : Int)) = true := decide_eq_true r17_
   have hdr : l0.drop i = rd_T37 l0 (i : Int) :: l0.drop (i + 1) := by
    rw [List.drop_eq_getElem_cons hlt]; simp [rd_T37, hlt]
   have hck := HCK.out
   rw [hdr, List.find?_cons] at hck
   clear hdr HCK
   obtain ⟨ad, ead, hx0, hx1, hx2, hx3⟩ := at_T37 HR0.out (i : Int) r17_ r17_
   have hA := ead
   subst ead
   have htn : ((i : Int)).toNat = i := by omega
   rw [htn] at hx0 hx1 hx2 hx3
   clear htn hA
   replace hx0 := (HB.out.cell (World.block_lt_of_cell? w _ hx0)).trans hx0
   replace hx1 := (HB.out.cell (World.block_lt_of_cell? w _ hx1)).trans hx1
   replace hx2 := (HB.out.cell (World.block_lt_of_cell? w _ hx2)).trans hx2
   replace hx3 := (HB.out.cell (World.block_lt_of_cell? w _ hx3)).trans hx3
   generalize rd_T37 l0 (i : Int) = y at hck hx0 hx1 hx2 hx3
   obtain ⟨y0, y1, y2, y3⟩ := y
   simp only at hck hx0 hx1 hx2 hx3
   unfold screelaw11_TableGets.q at hck
   simp only at hck
   by_cases hk1 : y0.toList = a1.toList
   rotate_left
   ·have u1 : (y0.toList == a1.toList) = false := beq_eq_false_iff_ne.mpr hk1
    rw [decide_eq_false hk1] at hck
    simp only [Bool.false_and] at hck
    have HCK := Lib.hid hck
    clear hck hk1
    go_wp2_with (fail)
    go_roundg k1
    case measure => omega
    case rel => exact ⟨i + 1, by go_num, ⟨by have := HI.out; omega⟩, HCK, HB, HA7⟩
   have u1 : (y0.toList == a1.toList) = true := beq_iff_eq.mpr hk1
   by_cases hk2 : y1 ≤ a2
   rotate_left
   ·have d2 : decide (y1 ≤ a2) = false := decide_eq_false hk2
    rw [decide_eq_true hk1, d2] at hck
    simp only [Bool.and_false] at hck
    have HCK := Lib.hid hck
    clear hck hk1 hk2
    go_wp2_with (fail)
    go_roundg k1
    case measure => omega
    case rel => exact ⟨i + 1, by go_num, ⟨by have := HI.out; omega⟩, HCK, HB, HA7⟩
   have d2 : decide (y1 ≤ a2) = true := decide_eq_true hk2
   rw [decide_eq_true hk1, d2] at hck
   simp only [Bool.and_self] at hck
   subst hck
   have hf := HFN.out
   unfold screelaw11_TableGets.fin at hf
   simp only at hf
   by_cases hcc : screelaw11_TableGets.sm xa xb xc xd ⟨y0, y1, y2, y3⟩ ∧ xe = true ∧ cc = 1
   case neg => rw [if_neg hcc] at hf; exact absurd hf r19_
   rw [if_pos hcc] at hf
   obtain rfl := Option.some.inj hf
   obtain ⟨⟨a1_, a2_, a3_, a4_⟩, rfl, rfl⟩ := hcc
   simp only at a1_ a2_ a3_ a4_
   subst a2_ a3_
   have u2 : (xa.toList == y0.toList) = true := beq_iff_eq.mpr a1_
   have u3 : (xd.toList == y3.toList) = true := beq_iff_eq.mpr a4_
   clear a1_ a4_ hf hk1 hk2
   go_wp2_with (fail)
   go_quiet (fail)
   go_wp2
   go_ret
   exact ⟨rfl, pw_below_drewN HB.out _⟩
  have dl : decide ((i : Int) < (l0.length : Int)) = false := decide_eq_false r17_
  have hck := HCK.out
  rw [List.drop_eq_nil_of_le r17_] at hck
  simp only [List.find?_nil] at hck
  subst hck
  have hf := HFN.out
  unfold screelaw11_TableGets.fin at hf
  simp only at hf
  by_cases hcc : (xa, xb, xc, xd, xe) = ((⟨#[]⟩ : ByteArray), 0, false, (⟨#[]⟩ : ByteArray), false) ∧ 0 ≤ cc ∧ cc ≤ 1
  case neg => rw [if_neg hcc] at hf; exact absurd hf r19_
  rw [if_pos hcc] at hf
  obtain rfl := Option.some.inj hf
  obtain ⟨hcc, c1_, c2_⟩ := hcc
  simp only [Prod.mk.injEq] at hcc
  obtain ⟨rfl, rfl, rfl, rfl, rfl⟩ := hcc
  have d1 : decide (cc ≥ 0) = true := decide_eq_true c1_
  have d2 : decide (cc ≤ 1) = true := decide_eq_true c2_
  clear c1_ c2_ hf
  go_wp2
  go_ret
  exact ⟨rfl, HB.out⟩

end Go.Proofs.Ytgdkikkjaofbfaa.P
