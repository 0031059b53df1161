-- Printed by a program of this session's own (wip/tools/pprint.sh, over the kit's print, with given contracts): not typed by hand.
import Derived.Test.YtgdkikkjaofbfaaPx0
import Derived.Test.YtgdkikkjaofbfaaPx6
import Derived.Test.YtgdkikkjaofbfaaPx7
import Derived.Test.YtgdkikkjaofbfaaPx10
import Derived.Test.YtgdkikkjaofbfaaPx11
import Derived.Test.YtgdkikkjaofbfaaPx12
import Derived.Test.YtgdkikkjaofbfaaPx13
import Derived.Test.YtgdkikkjaofbfaaPx14
import Derived.Test.YtgdkikkjaofbfaaPx15
namespace Go.Proofs.Ytgdkikkjaofbfaa.P
open Go.RowKit Go.Proofs.YtgdkikkjaofbfaaW.PrintWords Go.Proofs.YtgdkikkjaofbfaaW.PrintLast Go.Proofs.YtgdkikkjaofbfaaW.PrintMore
attribute [local go_sem] max2_int min2_int max_two min_two max_three min_three max_four min_four   -- for this text's walks alone
set_option linter.unusedVariables false
set_option linter.unusedSimpArgs false
-- SQUEEZED3

/-! ### screelaw11_TableEnds: function 8 -/
-- needs NS37DS
def screelaw11_TableEnds.sm (a0 : ByteArray) (a1 : Int) (a2 : Bool) (a3 : ByteArray) (x : S37) : Prop := a0.toList = x.f0.toList ∧ a1 = x.f1 ∧ a2 = x.f2 ∧ a3.toList = x.f3.toList
instance screelaw11_TableEnds.sm_dec (a0 : ByteArray) (a1 : Int) (a2 : Bool) (a3 : ByteArray) (x : S37) : Decidable (screelaw11_TableEnds.sm a0 a1 a2 a3 x) := by unfold screelaw11_TableEnds.sm; exact inferInstance
abbrev screelaw11_TableEnds.at (l : List (S37)) (j : Nat) : S37 := rd_T37 l (j : Int)
def screelaw11_TableEnds.pre (k : Nat) (l : List (S37)) (x : Bool) (K : ByteArray × List (S80) × ByteArray × Int → Option Bool) : Option Bool :=
 (screelaw11_awake.f k).bind fun t => if t = true then (screelaw11_large.f k l).bind fun g => if g = true ∨ x = true then some true else
  (table_Build.f k l).bind fun b => if b.2 = 0 then (table_Open.f k b.1).bind fun o => match o with
   | (some t, e) => if e = 0 then K t else none
   | _ => none else some true else none
theorem screelaw11_TableEnds.bel2 {B : Nat} {w0 a b : World} (h : Below w0.heap.size w0 a) (h2 : Below w0.heap.size w0 b) (hs : a.heap.size ≤ b.heap.size) (hB : B ≤ w0.heap.size) : Below B a b :=
 ⟨h2.os.trans h.os.symm, h2.tape.trans h.tape.symm, h2.output.trans h.output.symm, hs, fun k hk => (h2.block k r17_).trans (h.block k r17_).symm⟩

def screelaw11_TableEnds.K (k : Nat) (l : List (S37)) (j : Nat) (t : ByteArray × List (S80) × ByteArray × Int) : Option Bool :=
 (table_Table_Ends.f k t.1 t.2.1 t.2.2.1 t.2.2.2).bind fun z => if screelaw11_TableEnds.sm z.1 z.2.1 z.2.2.1 z.2.2.2.1 (screelaw11_TableEnds.at l 0) ∧ screelaw11_TableEnds.sm z.2.2.2.2.1 z.2.2.2.2.2.1 z.2.2.2.2.2.2.1 z.2.2.2.2.2.2.2.1 (screelaw11_TableEnds.at l (l.length - 1)) then
  (table_Table_Get.f k z.2.2.2.2.2.2.2.2.1 t.2.1 z.2.2.2.2.2.2.2.2.2.1 z.2.2.2.2.2.2.2.2.2.2 (screelaw11_TableEnds.at l j).f0 (screelaw11_TableEnds.at l j).f1).bind fun y => if screelaw11_TableEnds.sm y.1 y.2.1 y.2.2.1 y.2.2.2.1 (screelaw11_TableEnds.at l j) ∧ y.2.2.2.2.1 = true then
   (table_Table_Cost.f k y.2.2.2.2.2.1 t.2.1 y.2.2.2.2.2.2.1 y.2.2.2.2.2.2.2 (screelaw11_TableEnds.at l j).f0 (screelaw11_TableEnds.at l j).f1).bind fun c => if c.1 = 1 then (table_Table_Blocks.f c.2.1 t.2.1 c.2.2.1 c.2.2.2).bind fun b => if b.1 = Int.tdiv ((l.length : Int) + 7) 8 then some true else none else none else none else none
def screelaw11_TableEnds.f (k : Nat) (l0 : List (S37)) (a1 : Int) : Option Bool :=
 screelaw11_TableEnds.pre k l0 false (fun t => if 0 ≤ a1 ∧ a1 < 65536 ∧ 0 < l0.length ∧ l0.length < 1000000 then screelaw11_TableEnds.K k l0 (a1.toNat % l0.length) t else none)
theorem screelaw11_TableEnds.far {w0 w : World} {g : Nat} {s : ByteArray} {l : List (S80)} {fl : ByteArray} {n : Int} (h : IsS82 w0 w g s l fl n) {p : Addr} (hp : p.block ≠ g) (u : Value) : IsS82 w0 (w.setCell p u) g s l fl n := by
 obtain ⟨A, c, htb, htg, hC⟩ := h
 exact ⟨A, c, blk_far htb (Ne.symm hp) u, htg, hC⟩
def screelaw11_TableEnds.T14 : Bool × List (List Nat × List Nat) := (true, [([], []), ([], []), ([1], [1]), ([2], [2]), ([0, 3], [0, 3]), ([4], [4]), ([5], [5]), ([5], [5]), ([5], [5]), ([8, 5], [5, 8]), ([9, 5], [5, 9]), ([7, 10, 5], [5, 7, 10]), ([11, 5], [5, 11]), ([6, 12, 5], [5, 6, 12]), ([5, 13], [5, 13]), ([14, 5], [14]), ([15], [15]), ([15, 16], [15, 16]), ([17, 15], [17]), ([18], [18]), ([18], [18]), ([18], [18]), ([20, 21, 18], [18, 20, 21]), ([22, 18], [18, 22]), ([19, 23, 18], [18, 19, 23]), ([18, 24], [18, 24]), ([25, 18], [25]), ([26], [26]), ([26], [26]), ([26], [26]), ([28, 29, 26], [26, 28, 29]), ([30, 26], [26, 30]), ([31, 26], [26, 31]), ([26], [26]), ([26], [26]), ([33, 34, 26], [26, 33, 34]), ([35, 26], [26, 35]), ([36, 26], [26, 36]), ([27, 32, 37, 26, 26], [26, 27, 32, 37]), ([38, 26], [26, 38]), ([26, 39], [26, 39]), ([40, 38], [40]), ([41], [41]), ([42, 41, 41], [41, 42]), ([41], [41]), ([44, 41], [41, 44]), ([45, 41], [41, 45]), ([46, 41], [41, 46]), ([47, 41], [41, 47]), ([43, 48, 41], [41, 43, 48]), ([41, 49], [41, 49]), ([50, 43, 0, 1, 2, 3, 4, 5, 6, 7, 8, 9, 10, 11, 12, 13, 14, 15, 16, 17, 18, 19, 20, 21, 22, 23, 24, 25, 26, 27, 28, 29, 30, 31, 32, 33, 34, 35, 36, 37, 38, 39, 40, 41, 42, 43, 44, 45, 46, 47, 48, 49, 50], [50])])
def screelaw11_TableEnds.B14 : List Nat := [0, 0, 2, 6, 15, 31, 63, 63, 63, 319, 831, 1983, 4031, 8191, 16383, 32767, 65535, 131071, 262143, 524287, 524287, 524287, 3670015, 7864319, 16777215, 33554431, 67108863, 134217727, 134217727, 134217727, 939524095, 2013265919, 4160749567, 134217727, 134217727, 25904021503, 60263759871, 128983236607, 274877906943, 549755813887, 1099511627775, 2199023255551, 4398046511103, 8796093022207, 4398046511103, 21990232555519, 57174604644351, 127543348822015, 268280837177343, 562949953421311, 1125899906842623, 2251799813685247]
theorem screelaw11_TableEnds.tab14 : rtab .any (opsOf Try.f8 14) = screelaw11_TableEnds.T14 := by kernel_rfl
theorem screelaw11_TableEnds.bits14 : waitsOk screelaw11_TableEnds.T14.2 screelaw11_TableEnds.B14 = true := by kernel_rfl
set_option maxHeartbeats 6400000 in
set_option maxRecDepth 100000 in
theorem screelaw11_TableEnds.calls (k : Nat) (A0 : Option Addr) (c0 : Nat) (l0 : List (S37)) (a1 : Int) (r : Bool) (w : World) (hr0 : Kd.C k37 w A0 l0.length l0) (hc0 : l0.length ≤ c0) (h : screelaw11_TableEnds.f k l0 a1 = some r) :
  Calls Try.prog 8 #[.slice A0 l0.length c0, .int .u16 a1] w fun e w' => e = .returned (.bool r) ∧ Below w.heap.size w w' := by
 have hu_ := Try.underlying37
 have hu9_ := Try.underlying9
 have HR0 := Aside0.mk hr0
 have HC0 := Aside0.mk hc0
 clear hr0 hc0
 unfold screelaw11_TableEnds.f screelaw11_TableEnds.pre at h
 replace h := Option.bind_eq_some_iff.mp h
 obtain ⟨aw, ha, h⟩ := h
 by_cases he : aw = true
 case neg => rw [if_neg he] at h; exact absurd h r19_
 rw [if_pos he] at h
 subst he
 have HA := Lib.hid ha
 clear ha
 replace h := Option.bind_eq_some_iff.mp h
 obtain ⟨g, hg, h⟩ := h
 have HG := Lib.hid hg
 clear hg
 cases g with
 | true =>
  rw [if_pos (Or.inl rfl)] at h
  obtain rfl := Option.some.inj h
  clear h
  go_enter Try.func8, Try.ntmps8
  go_wp2_with (fail)
  refine (screelaw11_awake.calls k true _ HA.out).mono ?_
  rintro e w1 ⟨rfl, hb⟩
  have HB1 := Aside0.mk hb
  clear hb
  go_wp2_with (fail)
  refine (screelaw11_large.calls k A0 c0 l0 true _ (Kd.C_below HR0.out HB1.out) HC0.out HG.out).mono ?_
  rintro e w2 ⟨rfl, hb⟩
  have HB2 := Aside0.mk (below_step HB1.out hb.below)
  clear HB1 hb
  go_wp2
  go_ret
  exact ⟨rfl, HB2.out⟩
 | false =>
 rw [if_neg r19_] at h
 replace h := Option.bind_eq_some_iff.mp h
 obtain ⟨⟨s, e⟩, hb, h⟩ := h
 simp only at h
 have HBD := Lib.hid hb
 clear hb
 by_cases he : e = 0
 case neg =>
  rw [if_neg he] at h
  obtain rfl := Option.some.inj h
  clear h
  have d1 : (e == 0) = false := beq_eq_false_iff_ne.mpr he
  have d2 : (e != 0) = true := bne_iff_ne.mpr he
  go_enter Try.func8, Try.ntmps8
  go_wp2_with (fail)
  refine (screelaw11_awake.calls k true _ HA.out).mono ?_
  rintro e w1 ⟨rfl, hb⟩
  have HB1 := Aside0.mk hb
  clear hb
  go_wp2_with (fail)
  refine (screelaw11_large.calls k A0 c0 l0 false _ (Kd.C_below HR0.out HB1.out) HC0.out HG.out).mono ?_
  rintro e w2 ⟨rfl, hb⟩
  have HB2 := Aside0.mk (below_step HB1.out hb.below)
  clear HB1 hb
  go_wp2_with (fail)
  refine (table_Build.calls k A0 c0 l0 s e _ (Kd.C_below HR0.out HB2.out) HC0.out HBD.out).mono ?_
  rintro e_ x1 ⟨rfl, hb⟩
  have HX1 := Aside0.mk (below_step HB2.out hb)
  clear hb HBD
  go_wp2
  go_ret
  exact ⟨rfl, HX1.out⟩
 rw [if_pos he] at h
 subst he
 replace h := Option.bind_eq_some_iff.mp h
 obtain ⟨⟨o, e⟩, ho, h⟩ := h
 cases o with
 | none => exact absurd h r19_
 | some t =>
 obtain ⟨s0, hs0, fl0, n0⟩ := t
 simp only at h
 by_cases he : e = 0
 case neg => rw [if_neg he] at h; exact absurd h r19_
 rw [if_pos he] at h
 subst he
 have HOP := Lib.hid ho
 have HK := Lib.hid h
 clear ho h
 go_enter Try.func8, Try.ntmps8
 go_wp2_with (fail)
 refine (screelaw11_awake.calls k true _ HA.out).mono ?_
 rintro e w1 ⟨rfl, hb⟩
 have HB1 := Aside0.mk hb
 clear hb
 go_wp2_with (fail)
 refine (screelaw11_large.calls k A0 c0 l0 false _ (Kd.C_below HR0.out HB1.out) HC0.out HG.out).mono ?_
 rintro e w2 ⟨rfl, hb⟩
 have HB2 := Aside0.mk (below_step HB1.out hb.below)
 clear HB1 hb
 go_wp2_with (fail)
 refine (table_Build.calls k A0 c0 l0 s 0 _ (Kd.C_below HR0.out HB2.out) HC0.out HBD.out).mono ?_
 rintro e x1 ⟨rfl, hb⟩
 have HX1 := Aside0.mk (below_step HB2.out hb)
 clear hb HBD HB2
 go_wp2_with (fail)
 refine (table_Open.calls k s (some (s0, hs0, fl0, n0)) 0 _ HOP.out).mono ?_
 rintro e x2 ⟨g, w0, rfl, hi, hb0, hsz, hb⟩
 have HI2 := Aside0.mk hi
 have HT2 := Aside0.mk hb0
 have HX2 := Aside0.mk (below_step HX1.out hb)
 have HZ : Hid (w.heap.size ≤ w0.heap.size) := Lib.hid (Nat.le_trans HX1.out.size hsz)
 clear hi hb0 hsz hb HX1 HOP
 have h := HK.out
 clear HK
 by_cases hc : 0 ≤ a1 ∧ a1 < 65536 ∧ 0 < l0.length ∧ l0.length < 1000000
 case neg => rw [if_neg hc] at h; exact absurd h r19_
 rw [if_pos hc] at h
 obtain ⟨ha0, ha1, hlen, hmax⟩ := hc
 obtain ⟨j, hj⟩ : ∃ j, a1.toNat % l0.length = j := ⟨_, rfl⟩
 rw [hj] at h
 have hjl : j < l0.length := by rw [← hj]; exact Nat.mod_lt _ hlen
 have hrem : Int.tmod a1 (l0.length : Int) = (j : Int) := by
  rw [← hj, Int.tmod_eq_emod_of_nonneg ha0, Int.natCast_emod, Int.toNat_of_nonneg ha0]
 have hwr : wrap64 a1 = a1 := by unfold wrap64; omega
 unfold screelaw11_TableEnds.K at h
 replace h := Option.bind_eq_some_iff.mp h
 obtain ⟨⟨za, zb, zc, zd, va, vb, vc, vd, s1, fl1, n1⟩, hz, h⟩ := h
 simp only at hz h
 by_cases hcc : screelaw11_TableEnds.sm za zb zc zd (screelaw11_TableEnds.at l0 0) ∧ screelaw11_TableEnds.sm va vb vc vd (screelaw11_TableEnds.at l0 (l0.length - 1))
 case neg => rw [if_neg hcc] at h; exact absurd h r19_
 rw [if_pos hcc] at h
 obtain ⟨hc1, hc2⟩ := hcc
 replace h := Option.bind_eq_some_iff.mp h
 obtain ⟨⟨xa, xb, xc, xd, xe, s2, fl2, n2⟩, hx, h⟩ := h
 simp only at hx h
 by_cases hcc : screelaw11_TableEnds.sm xa xb xc xd (screelaw11_TableEnds.at l0 j) ∧ xe = true
 case neg => rw [if_neg hcc] at h; exact absurd h r19_
 rw [if_pos hcc] at h
 obtain ⟨hc3, rfl⟩ := hcc
 replace h := Option.bind_eq_some_iff.mp h
 obtain ⟨⟨f3, s3, fl3, n3⟩, q3, h⟩ := h
 simp only at q3 h
 by_cases z1 : f3 = 1
 case neg => rw [if_neg z1] at h; exact absurd h r19_
 rw [if_pos z1] at h
 subst z1
 replace h := Option.bind_eq_some_iff.mp h
 obtain ⟨⟨f4, s4, fl4, n4⟩, q4, h⟩ := h
 simp only at q4 h
 by_cases z1 : f4 = Int.tdiv ((l0.length : Int) + 7) 8
 case neg => rw [if_neg z1] at h; exact absurd h r19_
 rw [if_pos z1] at h
 obtain rfl := Option.some.inj h
 have HEZ := Lib.hid hz
 have HGX := Lib.hid hx
 have Q3 := Lib.hid q3
 have Q4 := Lib.hid q4
 have HZ4 := Lib.hid z1
 have HC1 := Lib.hid hc1
 have HC2 := Lib.hid hc2
 have HC3 := Lib.hid hc3
 clear hz hx q3 q4 h hc1 hc2 hc3 z1 hj
 have HJ := Lib.hid (And.intro hjl (And.intro hlen hmax))
 have HRM := Lib.hid (And.intro hrem hwr)
 clear hjl hlen hmax ha0 ha1 hrem hwr
 go_wp2_with (fail)
 refine (table_Table_Ends.calls k g s0 hs0 fl0 n0 za zb zc zd va vb vc vd s1 fl1 n1 w0 _ HI2.out HT2.out HEZ.out).mono ?_
 rintro e x9 ⟨rfl, hi, hb, hk⟩
 have HI9 := Aside0.mk hi
 have HT9 := Aside0.mk hb
 have HX9 := Aside0.mk (HX2.out.trans (screelaw11_TableEnds.bel2 HT2.out hb hk.1 HZ.out))
 clear hi hb hk HI2 HT2 HX2 HEZ
 have hl0_ : (l0.length : Int) ≠ 0 := by have := HJ.out.2.1; omega
 have hrm_ := HRM.out.1
 have hwr_ := HRM.out.2
 go_upto_region 13 with (fail)
 clear hl0_ hrm_ hwr_
 have BV0 := blk_new (x9.alloc (.cells #[.string za, .int .u64 zb, .bool zc, .string zd] 37)) (.cells #[.string va, .int .u64 vb, .bool vc, .string vd] 37)
 rw [World.size_alloc] at BV0
 have BZ1 := Aside0.mk (blk_alloc (blk_new x9 (.cells #[.string za, .int .u64 zb, .bool zc, .string zd] 37)) (.cells #[.string va, .int .u64 vb, .bool vc, .string vd] 37))
 have BV1 := Aside0.mk BV0
 clear BV0
 have HI1 := Aside0.mk (IsS82.alloc (IsS82.alloc HI9.out (.cells #[.string za, .int .u64 zb, .bool zc, .string zd] 37)) (.cells #[.string va, .int .u64 vb, .bool vc, .string vd] 37))
 have HT1 := Aside0.mk (below_alloc (below_alloc HT9.out (.cells #[.string za, .int .u64 zb, .bool zc, .string zd] 37)) (.cells #[.string va, .int .u64 vb, .bool vc, .string vd] 37))
 have HX1 := Aside0.mk (below_alloc (below_alloc HX9.out (.cells #[.string za, .int .u64 zb, .bool zc, .string zd] 37)) (.cells #[.string va, .int .u64 vb, .bool vc, .string vd] 37))
 have HGB : Hid (x9.heap.size ≠ g ∧ x9.heap.size + 1 ≠ g) := Lib.hid (by obtain ⟨_, _, hb_, _⟩ := HI9.out; have := blk_lt hb_; omega)
 clear HI9 HT9 HX9
 generalize ((x9.alloc (.cells #[.string za, .int .u64 zb, .bool zc, .string zd] 37)).alloc (.cells #[.string va, .int .u64 vb, .bool vc, .string vd] 37)) = x1 at BZ1 BV1 HI1 HT1 HX1 ⊢
 obtain ⟨gz, hgz⟩ : ∃ gz, x9.heap.size = gz := ⟨_, rfl⟩
 obtain ⟨gv, hgv⟩ : ∃ gv, x9.heap.size + 1 = gv := ⟨_, rfl⟩
 rw [hgv] at BV1 HGB ⊢
 rw [hgz] at BZ1 HGB ⊢
 clear hgz hgv
 obtain ⟨ad, ead, k0, k1, k2, k3⟩ := at_T37 HR0.out (j : Int) r17_ (by have := HJ.out.1; omega)
 have hA := ead
 subst ead
 obtain ⟨ad2, e2, l0_, l1_, l2_, l3_⟩ := at_T37 HR0.out (((0 : Nat) : Int)) r17_ (by have := HJ.out.2.1; omega)
 obtain rfl : ad = ad2 := Option.some.inj e2
 obtain ⟨ad3, e3, m0_, m1_, m2_, m3_⟩ := at_T37 HR0.out ((l0.length - 1 : Nat) : Int) r17_ (by have := HJ.out.2.1; omega)
 obtain rfl : ad = ad3 := Option.some.inj e3
 rw [Int.toNat_natCast] at k0 k1 k2 k3 l0_ l1_ l2_ l3_ m0_ m1_ m2_ m3_
 clear e2 e3 hA
 have hc1 := HC1.out
 have hc2 := HC2.out
 have hc3 := HC3.out
 have hgx := HGX.out
 have hq3 := Q3.out
 clear HC1 HC2 HC3 HGX Q3
 unfold screelaw11_TableEnds.at at hc1 hc2 hc3 hgx hq3
 generalize rd_T37 l0 (j : Int) = yj at k0 k1 k2 k3 hc3 hgx hq3
 generalize rd_T37 l0 ((0 : Nat) : Int) = y0 at l0_ l1_ l2_ l3_ hc1
 generalize rd_T37 l0 ((l0.length - 1 : Nat) : Int) = yn at m0_ m1_ m2_ m3_ hc2
 obtain ⟨ya, yb, yc, yd⟩ := yj
 obtain ⟨pa, pb, pc, pd⟩ := y0
 obtain ⟨qa, qb, qc, qd⟩ := yn
 simp only at k0 k1 k2 k3 l0_ l1_ l2_ l3_ m0_ m1_ m2_ m3_ hc1 hc2 hc3 hgx hq3
 obtain ⟨a1_, a2_, a3_, a4_⟩ := hc3
 simp only at a1_ a2_ a3_ a4_
 subst a2_ a3_
 obtain ⟨b1_, b2_, b3_, b4_⟩ := hc1
 simp only at b1_ b2_ b3_ b4_
 subst b2_ b3_
 obtain ⟨d1_, d2_, d3_, d4_⟩ := hc2
 simp only at d1_ d2_ d3_ d4_
 subst d2_ d3_
 have u1 : (xa.toList == ya.toList) = true := beq_iff_eq.mpr a1_
 have u2 : (xd.toList == yd.toList) = true := beq_iff_eq.mpr a4_
 have u3 : (za.toList == pa.toList) = true := beq_iff_eq.mpr b1_
 have u4 : (zd.toList == pd.toList) = true := beq_iff_eq.mpr b4_
 have u5 : (va.toList == qa.toList) = true := beq_iff_eq.mpr d1_
 have u6 : (vd.toList == qd.toList) = true := beq_iff_eq.mpr d4_
 clear a1_ a4_ b1_ b4_ d1_ d4_
 have HGX := Lib.hid hgx
 have Q3 := Lib.hid hq3
 have FK := Aside0.mk (And.intro k0 (And.intro k1 (And.intro k2 k3)))
 have FL := Aside0.mk (And.intro l0_ (And.intro l1_ (And.intro l2_ l3_)))
 have FM := Aside0.mk (And.intro m0_ (And.intro m1_ (And.intro m2_ m3_)))
 clear hgx hq3 k0 k1 k2 k3 l0_ l1_ l2_ l3_ m0_ m1_ m2_ m3_
 have ij_ : ((j : Int) < (l0.length : Int)) = True := eq_true (by have := HJ.out.1; omega)
 have jj_ : (j < l0.length) = True := eq_true HJ.out.1
 refine start_ (n := 18) (S := fun w' => Below w.heap.size w w') (ds := []) #[N,N,N,N,N,N,N,N,N,N,N,N,N,N,N,N,N,N] r3_ rfl rfl (below_drew1 HX1.out) (fun hHeld => ?_)
 have HI2 : Aside0 (IsS82 w0 x1.drew g s1 hs0 fl1 n1) := ⟨IsS82.drew HI1.out⟩
 have HT2 : Aside0 (Below w0.heap.size w0 x1.drew) := ⟨below_drew1 HT1.out⟩
 have HX2 : Aside0 (Below w.heap.size w x1.drew) := ⟨below_drew1 HX1.out⟩
 have BZ2 : Aside0 (x1.drew.heap[gz]? = some (.cells #[.string za, .int .u64 zb, .bool zc, .string zd] 37 (0, 0))) := ⟨blk_drew BZ1.out⟩
 have BV2 : Aside0 (x1.drew.heap[gv]? = some (.cells #[.string va, .int .u64 vb, .bool vc, .string vd] 37 (0, 0))) := ⟨blk_drew BV1.out⟩
 clear HI1 HT1 HX1 BZ1 BV1
 generalize x1.drew = x2 at HI2 HT2 HX2 BZ2 BV2 hHeld ⊢
 refine pure_ (i := 0) (N := some 47) (v := ?_) (a' := ?_) #[Y,N,N,N,N,N,N,N,N,N,N,N,N,N,N,N,N,N] rfl rfl r3_ (fun _ _ _ h => h) (Or.inl ⟨r37_, ?_⟩) ?_ ?_
 rotate_left
 ·intro w'
  go_simp
  with_reducible rfl
 rotate_left
 ·simp only [Act.put, sp_, i64_w, i32_w]
  rfl
 refine pure_ (i := 1) (N := some 48) (v := ?_) (a' := ?_) #[Y,Y,N,N,N,N,N,N,N,N,N,N,N,N,N,N,N,N] rfl rfl r3_ (fun _ _ _ h => h) (Or.inl ⟨r37_, ?_⟩) ?_ ?_
 rotate_left
 ·intro w'
  go_simp
  with_reducible rfl
 rotate_left
 ·simp only [Act.put, sp_, i64_w, i32_w]
  rfl
 refine pure_ (i := 2) (N := some 49) (v := ?_) (a' := ?_) #[Y,Y,Y,N,N,N,N,N,N,N,N,N,N,N,N,N,N,N] rfl rfl r3_ (fun _ _ _ h => h) (Or.inl ⟨r37_, ?_⟩) ?_ ?_
 rotate_left
 ·intro w'
  go_simp
  with_reducible rfl
 rotate_left
 ·simp only [Act.put, sp_, i64_w, i32_w]
  rfl
 refine pure_ (i := 3) (N := some 50) (v := ?_) (a' := ?_) #[Y,Y,Y,Y,N,N,N,N,N,N,N,N,N,N,N,N,N,N] rfl rfl r3_ (fun _ _ _ h => h) (Or.inl ⟨r37_, ?_⟩) ?_ ?_
 rotate_left
 ·intro w'
  go_simp
  with_reducible rfl
 rotate_left
 ·simp only [Act.put, sp_, i64_w, i32_w]
  rfl
 refine pure_ (i := 4) (N := some 51) (v := ?_) (a' := ?_) #[Y,Y,Y,Y,Y,N,N,N,N,N,N,N,N,N,N,N,N,N] rfl rfl r3_ (fun _ _ _ h => h) (Or.inl ⟨r37_, ?_⟩) ?_ ?_
 rotate_left
 ·intro w'
  go_simp
  with_reducible rfl
 rotate_left
 ·simp only [Act.put, sp_, i64_w, i32_w]
  rfl
 refine take_ (i := 5) (N := some 52) (v := ?_) (a' := ?_) #[Y,Y,Y,Y,Y,Y,N,N,N,N,N,N,N,N,N,N,N,N] rfl rfl r3_ (fun _ _ _ h => h) (Or.inl ⟨r37_, ?_⟩) hHeld ?_ ?_
 rotate_left
 ·intro w' hS_
  have c0_ := (hS_.cell (World.block_lt_of_cell? w _ FK.out.1)).trans FK.out.1
  have c1_ := (hS_.cell (World.block_lt_of_cell? w _ FK.out.2.1)).trans FK.out.2.1
  have c2_ := (hS_.cell (World.block_lt_of_cell? w _ FK.out.2.2.1)).trans FK.out.2.2.1
  have c3_ := (hS_.cell (World.block_lt_of_cell? w _ FK.out.2.2.2)).trans FK.out.2.2.2
  go_simp
  with_reducible rfl
 rotate_left
 ·simp only [Act.put, sp_, i64_w, i32_w]
  rfl
 refine pure_ (i := 6) (N := some 53) (v := ?_) (a' := ?_) #[Y,Y,Y,Y,Y,Y,Y,N,N,N,N,N,N,N,N,N,N,N] rfl rfl r3_ (fun _ _ _ h => h) (Or.inl ⟨r37_, ?_⟩) ?_ ?_
 rotate_left
 ·intro w'
  go_simp
  with_reducible rfl
 rotate_left
 ·simp only [Act.put, sp_, i64_w, i32_w]
  rfl
 refine pure_ (i := 7) (N := some 54) (v := ?_) (a' := ?_) #[Y,Y,Y,Y,Y,Y,Y,Y,N,N,N,N,N,N,N,N,N,N] rfl rfl r3_ (fun _ _ _ h => h) (Or.inl ⟨r37_, ?_⟩) ?_ ?_
 rotate_left
 ·intro w'
  go_simp
  with_reducible rfl
 rotate_left
 ·simp only [Act.put, sp_, i64_w, i32_w]
  rfl
 refine pure_ (i := 8) (N := some 55) (v := ?_) (a' := ?_) #[Y,Y,Y,Y,Y,Y,Y,Y,Y,N,N,N,N,N,N,N,N,N] rfl rfl r3_ (fun _ _ _ h => h) (Or.inl ⟨r37_, ?_⟩) ?_ ?_
 rotate_left
 ·intro w'
  go_simp
  with_reducible rfl
 rotate_left
 ·simp only [Act.put, sp_, i64_w, i32_w]
  rfl
 refine pure_ (i := 9) (N := some 56) (v := ?_) (a' := ?_) #[Y,Y,Y,Y,Y,Y,Y,Y,Y,Y,N,N,N,N,N,N,N,N] rfl rfl r3_ (fun _ _ _ h => h) (Or.inl ⟨r37_, ?_⟩) ?_ ?_
 rotate_left
 ·intro w'
  go_simp
  with_reducible rfl
 rotate_left
 ·simp only [Act.put, sp_, i64_w, i32_w]
  rfl
 refine take_ (i := 10) (N := some 57) (v := ?_) (a' := ?_) #[Y,Y,Y,Y,Y,Y,Y,Y,Y,Y,Y,N,N,N,N,N,N,N] rfl rfl r3_ (fun _ _ _ h => h) (Or.inl ⟨r37_, ?_⟩) hHeld ?_ ?_
 rotate_left
 ·intro w' hS_
  have c0_ := (hS_.cell (World.block_lt_of_cell? w _ FK.out.1)).trans FK.out.1
  have c1_ := (hS_.cell (World.block_lt_of_cell? w _ FK.out.2.1)).trans FK.out.2.1
  have c2_ := (hS_.cell (World.block_lt_of_cell? w _ FK.out.2.2.1)).trans FK.out.2.2.1
  have c3_ := (hS_.cell (World.block_lt_of_cell? w _ FK.out.2.2.2)).trans FK.out.2.2.2
  go_simp
  with_reducible rfl
 rotate_left
 ·simp only [Act.put, sp_, i64_w, i32_w]
  rfl
 refine join_ (σ := Nat) 2 #[Y,Y,Y,Y,Y,Y,Y,Y,Y,Y,Y,Y,Y,Y,Y,Y,N,N] (fun gx => [(58, .tuple #[.agg #[.string xa, .int .u64 xb, .bool xc, .string xd], .bool true]), (46, .tuple #[.agg #[.string xa, .int .u64 xb, .bool xc, .string xd], .bool true]), (59, .agg #[.string xa, .int .u64 xb, .bool xc, .string xd]), (60, .bool true), (12, .pointer (some ⟨gx, 0, none⟩))]) (fun gx w' => Below w.heap.size w w' ∧ Aside0 (IsS82 w0 w' g s2 hs0 fl2 n2) ∧ Aside0 (Below w0.heap.size w0 w') ∧ Aside0 (w'.heap[gz]? = some (.cells #[.string za, .int .u64 zb, .bool zc, .string zd] 37 (0, 0))) ∧ Aside0 (w'.heap[gv]? = some (.cells #[.string va, .int .u64 vb, .bool vc, .string vd] 37 (0, 0))) ∧ Aside0 (w'.heap[gx]? = some (.cells #[.string ⟨#[]⟩, .int .u64 0, .bool false, .string ⟨#[]⟩] 37 (0, 0))) ∧ Hid (w0.heap.size ≤ gx ∧ gx ≠ g ∧ gx ≠ gz ∧ gx ≠ gv)) ?_ ?_
 rotate_left
 ·intro hJ
  refine two_ (i := 11) (j := 15) (Ni := some 58) (Nj := some 12) #[Y,Y,Y,Y,Y,Y,Y,Y,Y,Y,Y,Y,N,N,N,N,N,N] #[Y,Y,Y,Y,Y,Y,Y,Y,Y,Y,Y,N,N,N,N,Y,N,N] rfl rfl rfl rfl r3_ r20_ r20_ (fun K hK => ?_) (fun K hK => ?_)
  ·skip
   refine goes_ Try.func17 r3_ rfl #[.pointer (some ⟨g, 0, none⟩), .string ya, .int .u64 xb] r37_ rfl rfl r9_ ?_
   refine (table_Table_Get.calls k g s1 hs0 fl1 n1 ya xb xa xb xc xd true s2 fl2 n2 w0 _ HI2.out HT2.out HGX.out).mono ?_
   rintro e x3 ⟨rfl, hi, hb, hk⟩
   refine ⟨_, rfl, ?_⟩
   have HI3 := Aside0.mk hi
   have HT3 := Aside0.mk hb
   have HX3 := Aside0.mk (HX2.out.trans (screelaw11_TableEnds.bel2 HT2.out hb hk.1 HZ.out))
   have BZ3 := Aside0.mk (hk.blk BZ2.out HGB.out.1 r19_)
   have BV3 := Aside0.mk (hk.blk BV2.out HGB.out.2 r19_)
   clear hi hb hk HI2 HT2 BZ2 BV2
   refine hK.out _ _ HX3.out (fun hHeld => ?_)
   clear hK K HX2
   refine norm_ (a' := ?_) ?_ ?_
   rotate_left
   ·show Act.put _ (some 58) _ = _
    simp only [Act.put, sp_, i64_w, i32_w]
    rfl
   refine pure_ (i := 12) (N := some 46) (v := ?_) (a' := ?_) #[Y,Y,Y,Y,Y,Y,Y,Y,Y,Y,Y,Y,Y,N,N,N,N,N] rfl rfl r3_ (fun _ _ _ h => h) (Or.inl ⟨r37_, ?_⟩) ?_ ?_
   rotate_left
   ·intro w'
    go_simp
    with_reducible rfl
   rotate_left
   ·simp only [Act.put, sp_, i64_w, i32_w]
    rfl
   refine pure_ (i := 13) (N := some 59) (v := ?_) (a' := ?_) #[Y,Y,Y,Y,Y,Y,Y,Y,Y,Y,Y,Y,Y,Y,N,N,N,N] rfl rfl r3_ (fun _ _ _ h => h) (Or.inl ⟨r37_, ?_⟩) ?_ ?_
   rotate_left
   ·intro w'
    go_simp
    with_reducible rfl
   rotate_left
   ·simp only [Act.put, sp_, i64_w, i32_w]
    rfl
   refine pure_ (i := 14) (N := some 60) (v := ?_) (a' := ?_) #[Y,Y,Y,Y,Y,Y,Y,Y,Y,Y,Y,Y,Y,Y,Y,N,N,N] rfl rfl r3_ (fun _ _ _ h => h) (Or.inl ⟨r37_, ?_⟩) ?_ ?_
   rotate_left
   ·intro w'
    go_simp
    with_reducible rfl
   rotate_left
   ·simp only [Act.put, sp_, i64_w, i32_w]
    rfl
   refine one_ (i := 15) (N := some 12) #[Y,Y,Y,Y,Y,Y,Y,Y,Y,Y,Y,Y,Y,Y,Y,Y,N,N] rfl rfl r3_ r20_ (fun K hK => ?_)
   refine box_step r37_ (N := 12) rfl (cs := #[.string ⟨#[]⟩, .int .u64 0, .bool false, .string ⟨#[]⟩]) (t := 37) r21_ ?_
   intro gx hgx x4 BX_ hb
   have BX4 := Aside0.mk BX_
   have HI4 := Aside0.mk (IsS82.below HI3.out hb)
   have HT4 := Aside0.mk (below_step HT3.out hb)
   have HX4 := Aside0.mk (below_step HX3.out hb)
   have BZ4 := Aside0.mk (blk_below BZ3.out hb)
   have BV4 := Aside0.mk (blk_below BV3.out hb)
   have HGX_ : Hid (w0.heap.size ≤ gx ∧ gx ≠ g ∧ gx ≠ gz ∧ gx ≠ gv) := Lib.hid ⟨by have := HT3.out.size; omega, by obtain ⟨_, _, hb_, _⟩ := HI3.out; have := blk_lt hb_; omega, by have := blk_lt BZ3.out; omega, by have := blk_lt BV3.out; omega⟩
   clear BX_ hb hgx HI3 HT3 BZ3 BV3
   refine hK.out _ _ HX4.out (fun hHeld => ?_)
   clear hK K HX3
   refine norm_ (a' := ?_) ?_ ?_
   rotate_left
   ·show Act.put _ (some 12) _ = _
    simp only [Act.put, sp_, i64_w, i32_w]
    rfl
   exact norm_ pA_ (hJ gx _ ⟨hHeld, HI4, HT4, BZ4, BV4, BX4, HGX_⟩)
  ·skip
   refine box_step r37_ (N := 12) rfl (cs := #[.string ⟨#[]⟩, .int .u64 0, .bool false, .string ⟨#[]⟩]) (t := 37) r21_ ?_
   intro gx hgx x3 BX_ hb
   have BX3 := Aside0.mk BX_
   have HI3 := Aside0.mk (IsS82.below HI2.out hb)
   have HT3 := Aside0.mk (below_step HT2.out hb)
   have HX3 := Aside0.mk (below_step HX2.out hb)
   have BZ3 := Aside0.mk (blk_below BZ2.out hb)
   have BV3 := Aside0.mk (blk_below BV2.out hb)
   have HGX_ : Hid (w0.heap.size ≤ gx ∧ gx ≠ g ∧ gx ≠ gz ∧ gx ≠ gv) := Lib.hid ⟨by have := HT2.out.size; omega, by obtain ⟨_, _, hb_, _⟩ := HI2.out; have := blk_lt hb_; omega, by have := blk_lt BZ2.out; omega, by have := blk_lt BV2.out; omega⟩
   clear BX_ hb hgx HI2 HT2 BZ2 BV2
   refine hK.out _ _ HX3.out (fun hHeld => ?_)
   clear hK K HX2
   refine norm_ (a' := ?_) ?_ ?_
   rotate_left
   ·show Act.put _ (some 12) _ = _
    simp only [Act.put, sp_, i64_w, i32_w]
    rfl
   refine one_ (i := 11) (N := some 58) #[Y,Y,Y,Y,Y,Y,Y,Y,Y,Y,Y,Y,N,N,N,Y,N,N] rfl rfl r3_ r20_ (fun K hK => ?_)
   refine goes_ Try.func17 r3_ rfl #[.pointer (some ⟨g, 0, none⟩), .string ya, .int .u64 xb] r37_ rfl rfl r9_ ?_
   refine (table_Table_Get.calls k g s1 hs0 fl1 n1 ya xb xa xb xc xd true s2 fl2 n2 w0 _ HI3.out HT3.out HGX.out).mono ?_
   rintro e x4 ⟨rfl, hi, hb, hk⟩
   refine ⟨_, rfl, ?_⟩
   have HI4 := Aside0.mk hi
   have HT4 := Aside0.mk hb
   have HX4 := Aside0.mk (HX3.out.trans (screelaw11_TableEnds.bel2 HT3.out hb hk.1 HZ.out))
   have BZ4 := Aside0.mk (hk.blk BZ3.out HGB.out.1 r19_)
   have BV4 := Aside0.mk (hk.blk BV3.out HGB.out.2 r19_)
   have BX4 := Aside0.mk (hk.blk BX3.out HGX_.out.2.1 r19_)
   clear hi hb hk HI3 HT3 BZ3 BV3 BX3
   refine hK.out _ _ HX4.out (fun hHeld => ?_)
   clear hK K HX3
   refine norm_ (a' := ?_) ?_ ?_
   rotate_left
   ·show Act.put _ (some 58) _ = _
    simp only [Act.put, sp_, i64_w, i32_w]
    rfl
   refine pure_ (i := 12) (N := some 46) (v := ?_) (a' := ?_) #[Y,Y,Y,Y,Y,Y,Y,Y,Y,Y,Y,Y,Y,N,N,Y,N,N] rfl rfl r3_ (fun _ _ _ h => h) (Or.inl ⟨r37_, ?_⟩) ?_ ?_
   rotate_left
   ·intro w'
    go_simp
    with_reducible rfl
   rotate_left
   ·simp only [Act.put, sp_, i64_w, i32_w]
    rfl
   refine pure_ (i := 13) (N := some 59) (v := ?_) (a' := ?_) #[Y,Y,Y,Y,Y,Y,Y,Y,Y,Y,Y,Y,Y,Y,N,Y,N,N] rfl rfl r3_ (fun _ _ _ h => h) (Or.inl ⟨r37_, ?_⟩) ?_ ?_
   rotate_left
   ·intro w'
    go_simp
    with_reducible rfl
   rotate_left
   ·simp only [Act.put, sp_, i64_w, i32_w]
    rfl
   refine pure_ (i := 14) (N := some 60) (v := ?_) (a' := ?_) #[Y,Y,Y,Y,Y,Y,Y,Y,Y,Y,Y,Y,Y,Y,Y,Y,N,N] rfl rfl r3_ (fun _ _ _ h => h) (Or.inl ⟨r37_, ?_⟩) ?_ ?_
   rotate_left
   ·intro w'
    go_simp
    with_reducible rfl
   rotate_left
   ·simp only [Act.put, sp_, i64_w, i32_w]
    rfl
   exact norm_ pA_ (hJ gx _ ⟨hHeld, HI4, HT4, BZ4, BV4, BX4, HGX_⟩)
 rintro gx x5 ⟨hHeld, HI5, HT5, BZ5, BV5, BX5, HGX_⟩
 have HX5 : Aside0 (Below w.heap.size w x5) := ⟨hHeld⟩
 clear HI2 HT2 HX2 BZ2 BV2
 have p0_ := blk_frozen BX5.out 0
 have p1_ := blk_frozen BX5.out 1
 have p2_ := blk_frozen BX5.out 2
 have p3_ := blk_frozen BX5.out 3
 have k0_ : x5.cell? ⟨gx, 0, none⟩ = some (.string ⟨#[]⟩) := (blk_cell BX5.out 0).trans rfl
 have k1_ : x5.cell? ⟨gx, 1, none⟩ = some (.int .u64 0) := (blk_cell BX5.out 1).trans rfl
 have k2_ : x5.cell? ⟨gx, 2, none⟩ = some (.bool false) := (blk_cell BX5.out 2).trans rfl
 have k3_ : x5.cell? ⟨gx, 3, none⟩ = some (.string ⟨#[]⟩) := (blk_cell BX5.out 3).trans rfl
 refine norm_ (a' := ?_) ?_ ?_
 rotate_left
 ·simp only [putAll, Act.put, sp_]
  rfl
 refine one_ (i := 16) (N := none) #[Y,Y,Y,Y,Y,Y,Y,Y,Y,Y,Y,Y,Y,Y,Y,Y,Y,N] rfl rfl r3_ r20_ (fun K hK => ?_)
 refine skip_ r37_ rfl (w1 := ((((x5.setCell ⟨gx, 0, none⟩ (.string xa)).setCell ⟨gx, 1, none⟩ (.int .u64 xb)).setCell ⟨gx, 2, none⟩ (.bool xc)).setCell ⟨gx, 3, none⟩ (.string xd))) r21_ ?_
 clear p0_ p1_ p2_ p3_ k0_ k1_ k2_ k3_
 have BX6 := Aside0.mk (blk_put (cs' := #[.string xa, .int .u64 xb, .bool xc, .string xd]) (blk_put (cs' := #[.string xa, .int .u64 xb, .bool xc, .string ⟨#[]⟩]) (blk_put (cs' := #[.string xa, .int .u64 xb, .bool false, .string ⟨#[]⟩]) (blk_put (cs' := #[.string xa, .int .u64 0, .bool false, .string ⟨#[]⟩]) BX5.out 0 (.string xa) rfl) 1 (.int .u64 xb) rfl) 2 (.bool xc) rfl) 3 (.string xd) rfl)
 have BZ6 := Aside0.mk (blk_far (p := ⟨gx, 3, none⟩) (blk_far (p := ⟨gx, 2, none⟩) (blk_far (p := ⟨gx, 1, none⟩) (blk_far (p := ⟨gx, 0, none⟩) BZ5.out (Ne.symm HGX_.out.2.2.1) (.string xa)) (Ne.symm HGX_.out.2.2.1) (.int .u64 xb)) (Ne.symm HGX_.out.2.2.1) (.bool xc)) (Ne.symm HGX_.out.2.2.1) (.string xd))
 have BV6 := Aside0.mk (blk_far (p := ⟨gx, 3, none⟩) (blk_far (p := ⟨gx, 2, none⟩) (blk_far (p := ⟨gx, 1, none⟩) (blk_far (p := ⟨gx, 0, none⟩) BV5.out (Ne.symm HGX_.out.2.2.2) (.string xa)) (Ne.symm HGX_.out.2.2.2) (.int .u64 xb)) (Ne.symm HGX_.out.2.2.2) (.bool xc)) (Ne.symm HGX_.out.2.2.2) (.string xd))
 have HI6 := Aside0.mk (screelaw11_TableEnds.far (p := ⟨gx, 3, none⟩) (screelaw11_TableEnds.far (p := ⟨gx, 2, none⟩) (screelaw11_TableEnds.far (p := ⟨gx, 1, none⟩) (screelaw11_TableEnds.far (p := ⟨gx, 0, none⟩) HI5.out HGX_.out.2.1 (.string xa)) HGX_.out.2.1 (.int .u64 xb)) HGX_.out.2.1 (.bool xc)) HGX_.out.2.1 (.string xd))
 have HT6 := Aside0.mk (Below.setCell (p := ⟨gx, 3, none⟩) (Below.setCell (p := ⟨gx, 2, none⟩) (Below.setCell (p := ⟨gx, 1, none⟩) (Below.setCell (p := ⟨gx, 0, none⟩) HT5.out HGX_.out.1 (.string xa)) HGX_.out.1 (.int .u64 xb)) HGX_.out.1 (.bool xc)) HGX_.out.1 (.string xd))
 have HX6 := Aside0.mk (Below.setCell (p := ⟨gx, 3, none⟩) (Below.setCell (p := ⟨gx, 2, none⟩) (Below.setCell (p := ⟨gx, 1, none⟩) (Below.setCell (p := ⟨gx, 0, none⟩) HX5.out (Nat.le_trans HZ.out HGX_.out.1) (.string xa)) (Nat.le_trans HZ.out HGX_.out.1) (.int .u64 xb)) (Nat.le_trans HZ.out HGX_.out.1) (.bool xc)) (Nat.le_trans HZ.out HGX_.out.1) (.string xd))
 clear HI5 HT5 HX5 BZ5 BV5 BX5 hHeld
 refine hK.out _ _ HX6.out (fun hHeld => ?_)
 clear hK K
 generalize ((((x5.setCell ⟨gx, 0, none⟩ (.string xa)).setCell ⟨gx, 1, none⟩ (.int .u64 xb)).setCell ⟨gx, 2, none⟩ (.bool xc)).setCell ⟨gx, 3, none⟩ (.string xd)) = x6 at HI6 HT6 HX6 BZ6 BV6 BX6 hHeld ⊢
 refine pure_ (i := 17) (N := some 13) (v := ?_) (a' := ?_) #[Y,Y,Y,Y,Y,Y,Y,Y,Y,Y,Y,Y,Y,Y,Y,Y,Y,Y] rfl rfl r3_ (fun _ _ _ h => h) (Or.inl ⟨r37_, ?_⟩) ?_ ?_
 rotate_left
 ·intro w'
  go_simp
  with_reducible rfl
 rotate_left
 ·simp only [Act.put, sp_, i64_w, i32_w]
  rfl
 refine done_ r3_ ?_
 (try clear hHeld)
 (try clear hHeld)
 go_upto_region 14 with (fail)
 have hlen := HJ.out.2.1
 have hmx := HJ.out.2.2
 have i0_ : ((0 : Int) < (l0.length : Int)) = True := eq_true r17_
 have j0_ : (0 < l0.length) = True := eq_true hlen
 have in_ : (((l0.length - 1 : Nat) : Int) < (l0.length : Int)) = True := eq_true r17_
 have jn_ : (l0.length - 1 < l0.length) = True := eq_true r17_
 have wn_ : wrap64 ((l0.length : Int) - 1) = ((l0.length - 1 : Nat) : Int) := by unfold wrap64; omega
 have w8_ : wrap64 ((l0.length : Int) + 8) = (l0.length : Int) + 8 := by unfold wrap64; omega
 have w7_ : wrap64 ((l0.length : Int) + 8 - 1) = (l0.length : Int) + 7 := by unfold wrap64; omega
 have wd_ : wrap64 (Int.tdiv ((l0.length : Int) + 7) 8) = Int.tdiv ((l0.length : Int) + 7) 8 := by rw [Int.tdiv_eq_ediv_of_nonneg r17_]; unfold wrap64; omega
 clear hlen hmx
 have hq4 := Q4.out
 have hz4 := HZ4.out
 subst hz4
 have Q5 := Lib.hid hq4
 clear hq4 Q4 HZ4
 refine start_ (n := 52) (S := fun w' => Below w.heap.size w w' ∧ w'.heap[gz]? = some (.cells #[.string za, .int .u64 zb, .bool zc, .string zd] 37 (0, 0)) ∧ w'.heap[gv]? = some (.cells #[.string va, .int .u64 vb, .bool vc, .string vd] 37 (0, 0)) ∧ w'.heap[gx]? = some (.cells #[.string xa, .int .u64 xb, .bool xc, .string xd] 37 (0, 0))) (ds := []) #[N,N,N,N,N,N,N,N,N,N,N,N,N,N,N,N,N,N,N,N,N,N,N,N,N,N,N,N,N,N,N,N,N,N,N,N,N,N,N,N,N,N,N,N,N,N,N,N,N,N,N,N] r3_ rfl rfl ⟨below_drew1 HX6.out, blk_drew BZ6.out, blk_drew BV6.out, blk_drew BX6.out⟩ (fun hHeld => ?_)
 refine with_tabW screelaw11_TableEnds.tab14 screelaw11_TableEnds.bits14 (fun HT_ HW_ => ?_)
 have HI7 : Aside0 (IsS82 w0 x6.drew g s2 hs0 fl2 n2) := ⟨IsS82.drew HI6.out⟩
 have HT7 : Aside0 (Below w0.heap.size w0 x6.drew) := ⟨below_drew1 HT6.out⟩
 have HX7 : Aside0 (Below w.heap.size w x6.drew) := ⟨below_drew1 HX6.out⟩
 clear HI6 HT6 HX6 BZ6 BV6 BX6
 generalize x6.drew = x7 at HI7 HT7 HX7 hHeld ⊢
 refine take_ (i := 0) (N := some 61) (v := ?_) (a' := ?_) #[Y,N,N,N,N,N,N,N,N,N,N,N,N,N,N,N,N,N,N,N,N,N,N,N,N,N,N,N,N,N,N,N,N,N,N,N,N,N,N,N,N,N,N,N,N,N,N,N,N,N,N,N] rfl rfl (take_ofW HT_.out HW_.out r3_) (fun _ _ _ h => h) (Or.inl ⟨r37_, ?_⟩) hHeld ?_ ?_
 rotate_left
 ·intro w' hS_
  have c0_ := (blk_cell hS_.2.1 0).trans rfl
  have c1_ := (blk_cell hS_.2.1 1).trans rfl
  have c2_ := (blk_cell hS_.2.1 2).trans rfl
  have c3_ := (blk_cell hS_.2.1 3).trans rfl
  go_simp
  with_reducible rfl
 rotate_left
 ·simp only [Act.put, sp_, i64_w, i32_w]
  rfl
 refine pure_ (i := 1) (N := some 62) (v := ?_) (a' := ?_) #[Y,Y,N,N,N,N,N,N,N,N,N,N,N,N,N,N,N,N,N,N,N,N,N,N,N,N,N,N,N,N,N,N,N,N,N,N,N,N,N,N,N,N,N,N,N,N,N,N,N,N,N,N] rfl rfl (any_of HT_.out r3_) (fun _ _ _ h => h) (Or.inl ⟨r37_, ?_⟩) ?_ ?_
 rotate_left
 ·intro w'
  go_simp
  with_reducible rfl
 rotate_left
 ·simp only [Act.put, sp_, i64_w, i32_w]
  rfl
 refine pure_ (i := 2) (N := some 63) (v := ?_) (a' := ?_) #[Y,Y,Y,N,N,N,N,N,N,N,N,N,N,N,N,N,N,N,N,N,N,N,N,N,N,N,N,N,N,N,N,N,N,N,N,N,N,N,N,N,N,N,N,N,N,N,N,N,N,N,N,N] rfl rfl (any_of HT_.out r3_) (fun _ _ _ h => h) (Or.inl ⟨r37_, ?_⟩) ?_ ?_
 rotate_left
 ·intro w'
  go_simp
  with_reducible rfl
 rotate_left
 ·simp only [Act.put, sp_, i64_w, i32_w]
  rfl
 refine take_ (i := 3) (N := some 64) (v := ?_) (a' := ?_) #[Y,Y,Y,Y,N,N,N,N,N,N,N,N,N,N,N,N,N,N,N,N,N,N,N,N,N,N,N,N,N,N,N,N,N,N,N,N,N,N,N,N,N,N,N,N,N,N,N,N,N,N,N,N] rfl rfl (take_ofW HT_.out HW_.out r3_) (fun _ _ _ h => h) (Or.inl ⟨r37_, ?_⟩) hHeld ?_ ?_
 rotate_left
 ·intro w' hS_
  have c0_ := (hS_.1.cell (World.block_lt_of_cell? w _ FL.out.1)).trans FL.out.1
  have c1_ := (hS_.1.cell (World.block_lt_of_cell? w _ FL.out.2.1)).trans FL.out.2.1
  have c2_ := (hS_.1.cell (World.block_lt_of_cell? w _ FL.out.2.2.1)).trans FL.out.2.2.1
  have c3_ := (hS_.1.cell (World.block_lt_of_cell? w _ FL.out.2.2.2)).trans FL.out.2.2.2
  (try simp [Addr.add] at c0_ c1_ c2_ c3_)
  go_simp
  with_reducible rfl
 rotate_left
 ·simp only [Act.put, sp_, i64_w, i32_w]
  rfl
 refine pure_ (i := 4) (N := some 65) (v := ?_) (a' := ?_) #[Y,Y,Y,Y,Y,N,N,N,N,N,N,N,N,N,N,N,N,N,N,N,N,N,N,N,N,N,N,N,N,N,N,N,N,N,N,N,N,N,N,N,N,N,N,N,N,N,N,N,N,N,N,N] rfl rfl (any_of HT_.out r3_) (fun _ _ _ h => h) (Or.inl ⟨r37_, ?_⟩) ?_ ?_
 rotate_left
 ·intro w'
  go_simp
  with_reducible rfl
 rotate_left
 ·simp only [Act.put, sp_, i64_w, i32_w]
  rfl
 refine pure_ (i := 5) (N := some 66) (v := ?_) (a' := ?_) #[Y,Y,Y,Y,Y,Y,N,N,N,N,N,N,N,N,N,N,N,N,N,N,N,N,N,N,N,N,N,N,N,N,N,N,N,N,N,N,N,N,N,N,N,N,N,N,N,N,N,N,N,N,N,N] rfl rfl (any_of HT_.out r3_) (fun _ _ _ h => h) (Or.inl ⟨r37_, ?_⟩) ?_ ?_
 rotate_left
 ·intro w'
  go_simp
  with_reducible rfl
 rotate_left
 ·simp only [Act.put, sp_, i64_w, i32_w]
  rfl
 refine take_ (i := 6) (N := some 67) (v := ?_) (a' := ?_) #[Y,Y,Y,Y,Y,Y,Y,N,N,N,N,N,N,N,N,N,N,N,N,N,N,N,N,N,N,N,N,N,N,N,N,N,N,N,N,N,N,N,N,N,N,N,N,N,N,N,N,N,N,N,N,N] rfl rfl (take_ofW HT_.out HW_.out r3_) (fun _ _ _ h => h) (Or.inl ⟨r37_, ?_⟩) hHeld ?_ ?_
 rotate_left
 ·intro w' hS_
  have c0_ := (blk_cell hS_.2.2.1 0).trans rfl
  have c1_ := (blk_cell hS_.2.2.1 1).trans rfl
  have c2_ := (blk_cell hS_.2.2.1 2).trans rfl
  have c3_ := (blk_cell hS_.2.2.1 3).trans rfl
  go_simp
  with_reducible rfl
 rotate_left
 ·simp only [Act.put, sp_, i64_w, i32_w]
  rfl
 refine pure_ (i := 7) (N := some 68) (v := ?_) (a' := ?_) #[Y,Y,Y,Y,Y,Y,Y,Y,N,N,N,N,N,N,N,N,N,N,N,N,N,N,N,N,N,N,N,N,N,N,N,N,N,N,N,N,N,N,N,N,N,N,N,N,N,N,N,N,N,N,N,N] rfl rfl (any_of HT_.out r3_) (fun _ _ _ h => h) (Or.inl ⟨r37_, ?_⟩) ?_ ?_
 rotate_left
 ·intro w'
  go_simp
  with_reducible rfl
 rotate_left
 ·simp only [Act.put, sp_, i64_w, i32_w]
  rfl
 refine pure_ (i := 8) (N := some 69) (v := ?_) (a' := ?_) #[Y,Y,Y,Y,Y,Y,Y,Y,Y,N,N,N,N,N,N,N,N,N,N,N,N,N,N,N,N,N,N,N,N,N,N,N,N,N,N,N,N,N,N,N,N,N,N,N,N,N,N,N,N,N,N,N] rfl rfl (any_of HT_.out r3_) (fun _ _ _ h => h) (Or.inl ⟨r37_, ?_⟩) ?_ ?_
 rotate_left
 ·intro w'
  go_simp
  with_reducible rfl
 rotate_left
 ·simp only [Act.put, sp_, i64_w, i32_w]
  rfl
 refine pure_ (i := 9) (N := some 70) (v := ?_) (a' := ?_) #[Y,Y,Y,Y,Y,Y,Y,Y,Y,Y,N,N,N,N,N,N,N,N,N,N,N,N,N,N,N,N,N,N,N,N,N,N,N,N,N,N,N,N,N,N,N,N,N,N,N,N,N,N,N,N,N,N] rfl rfl (any_of HT_.out r3_) (fun _ _ _ h => h) (Or.inl ⟨r37_, ?_⟩) ?_ ?_
 rotate_left
 ·intro w'
  go_simp
  with_reducible rfl
 rotate_left
 ·simp only [Act.put, sp_, i64_w, i32_w]
  rfl
 refine pure_ (i := 10) (N := some 71) (v := ?_) (a' := ?_) #[Y,Y,Y,Y,Y,Y,Y,Y,Y,Y,Y,N,N,N,N,N,N,N,N,N,N,N,N,N,N,N,N,N,N,N,N,N,N,N,N,N,N,N,N,N,N,N,N,N,N,N,N,N,N,N,N,N] rfl rfl (any_of HT_.out r3_) (fun _ _ _ h => h) (Or.inl ⟨r37_, ?_⟩) ?_ ?_
 rotate_left
 ·intro w'
  go_simp
  with_reducible rfl
 rotate_left
 ·simp only [Act.put, sp_, i64_w, i32_w]
  rfl
 refine pure_ (i := 11) (N := some 72) (v := ?_) (a' := ?_) #[Y,Y,Y,Y,Y,Y,Y,Y,Y,Y,Y,Y,N,N,N,N,N,N,N,N,N,N,N,N,N,N,N,N,N,N,N,N,N,N,N,N,N,N,N,N,N,N,N,N,N,N,N,N,N,N,N,N] rfl rfl (any_of HT_.out r3_) (fun _ _ _ h => h) (Or.inl ⟨r37_, ?_⟩) ?_ ?_
 rotate_left
 ·intro w'
  go_simp
  with_reducible rfl
 rotate_left
 ·simp only [Act.put, sp_, i64_w, i32_w]
  rfl
 refine take_ (i := 12) (N := some 73) (v := ?_) (a' := ?_) #[Y,Y,Y,Y,Y,Y,Y,Y,Y,Y,Y,Y,Y,N,N,N,N,N,N,N,N,N,N,N,N,N,N,N,N,N,N,N,N,N,N,N,N,N,N,N,N,N,N,N,N,N,N,N,N,N,N,N] rfl rfl (take_ofW HT_.out HW_.out r3_) (fun _ _ _ h => h) (Or.inl ⟨r37_, ?_⟩) hHeld ?_ ?_
 rotate_left
 ·intro w' hS_
  have c0_ := (hS_.1.cell (World.block_lt_of_cell? w _ FM.out.1)).trans FM.out.1
  have c1_ := (hS_.1.cell (World.block_lt_of_cell? w _ FM.out.2.1)).trans FM.out.2.1
  have c2_ := (hS_.1.cell (World.block_lt_of_cell? w _ FM.out.2.2.1)).trans FM.out.2.2.1
  have c3_ := (hS_.1.cell (World.block_lt_of_cell? w _ FM.out.2.2.2)).trans FM.out.2.2.2
  go_simp
  with_reducible rfl
 rotate_left
 ·simp only [Act.put, sp_, i64_w, i32_w]
  rfl
 refine pure_ (i := 13) (N := some 74) (v := ?_) (a' := ?_) #[Y,Y,Y,Y,Y,Y,Y,Y,Y,Y,Y,Y,Y,Y,N,N,N,N,N,N,N,N,N,N,N,N,N,N,N,N,N,N,N,N,N,N,N,N,N,N,N,N,N,N,N,N,N,N,N,N,N,N] rfl rfl (any_of HT_.out r3_) (fun _ _ _ h => h) (Or.inl ⟨r37_, ?_⟩) ?_ ?_
 rotate_left
 ·intro w'
  go_simp
  with_reducible rfl
 rotate_left
 ·simp only [Act.put, sp_, i64_w, i32_w]
  rfl
 refine pure_ (i := 14) (N := some 75) (v := ?_) (a' := ?_) #[Y,Y,Y,Y,Y,Y,Y,Y,Y,Y,Y,Y,Y,Y,Y,N,N,N,N,N,N,N,N,N,N,N,N,N,N,N,N,N,N,N,N,N,N,N,N,N,N,N,N,N,N,N,N,N,N,N,N,N] rfl rfl (any_of HT_.out r3_) (fun _ _ _ h => h) (Or.inl ⟨r37_, ?_⟩) ?_ ?_
 rotate_left
 ·intro w'
  go_simp
  with_reducible rfl
 rotate_left
 ·simp only [Act.put, sp_, i64_w, i32_w]
  rfl
 refine pure_ (i := 15) (N := some 76) (v := ?_) (a' := ?_) #[Y,Y,Y,Y,Y,Y,Y,Y,Y,Y,Y,Y,Y,Y,Y,Y,N,N,N,N,N,N,N,N,N,N,N,N,N,N,N,N,N,N,N,N,N,N,N,N,N,N,N,N,N,N,N,N,N,N,N,N] rfl rfl (any_of HT_.out r3_) (fun _ _ _ h => h) (Or.inl ⟨r37_, ?_⟩) ?_ ?_
 rotate_left
 ·intro w'
  go_simp
  with_reducible rfl
 rotate_left
 ·simp only [Act.put, sp_, i64_w, i32_w]
  rfl
 refine pure_ (i := 16) (N := some 77) (v := ?_) (a' := ?_) #[Y,Y,Y,Y,Y,Y,Y,Y,Y,Y,Y,Y,Y,Y,Y,Y,Y,N,N,N,N,N,N,N,N,N,N,N,N,N,N,N,N,N,N,N,N,N,N,N,N,N,N,N,N,N,N,N,N,N,N,N] rfl rfl (any_of HT_.out r3_) (fun _ _ _ h => h) (Or.inl ⟨r37_, ?_⟩) ?_ ?_
 rotate_left
 ·intro w'
  go_simp
  with_reducible rfl
 rotate_left
 ·simp only [Act.put, sp_, i64_w, i32_w]
  rfl
 refine pure_ (i := 17) (N := some 78) (v := ?_) (a' := ?_) #[Y,Y,Y,Y,Y,Y,Y,Y,Y,Y,Y,Y,Y,Y,Y,Y,Y,Y,N,N,N,N,N,N,N,N,N,N,N,N,N,N,N,N,N,N,N,N,N,N,N,N,N,N,N,N,N,N,N,N,N,N] rfl rfl (any_of HT_.out r3_) (fun _ _ _ h => h) (Or.inl ⟨r37_, ?_⟩) ?_ ?_
 rotate_left
 ·intro w'
  go_simp
  with_reducible rfl
 rotate_left
 ·simp only [Act.put, sp_, i64_w, i32_w]
  rfl
 refine pure_ (i := 18) (N := some 79) (v := ?_) (a' := ?_) #[Y,Y,Y,Y,Y,Y,Y,Y,Y,Y,Y,Y,Y,Y,Y,Y,Y,Y,Y,N,N,N,N,N,N,N,N,N,N,N,N,N,N,N,N,N,N,N,N,N,N,N,N,N,N,N,N,N,N,N,N,N] rfl rfl (any_of HT_.out r3_) (fun _ _ _ h => h) (Or.inl ⟨r37_, ?_⟩) ?_ ?_
 rotate_left
 ·intro w'
  go_simp
  with_reducible rfl
 rotate_left
 ·simp only [Act.put, sp_, i64_w, i32_w]
  rfl
 refine take_ (i := 19) (N := some 80) (v := ?_) (a' := ?_) #[Y,Y,Y,Y,Y,Y,Y,Y,Y,Y,Y,Y,Y,Y,Y,Y,Y,Y,Y,Y,N,N,N,N,N,N,N,N,N,N,N,N,N,N,N,N,N,N,N,N,N,N,N,N,N,N,N,N,N,N,N,N] rfl rfl (take_ofW HT_.out HW_.out r3_) (fun _ _ _ h => h) (Or.inl ⟨r37_, ?_⟩) hHeld ?_ ?_
 rotate_left
 ·intro w' hS_
  have c0_ := (blk_cell hS_.2.2.2 0).trans rfl
  have c1_ := (blk_cell hS_.2.2.2 1).trans rfl
  have c2_ := (blk_cell hS_.2.2.2 2).trans rfl
  have c3_ := (blk_cell hS_.2.2.2 3).trans rfl
  go_simp
  with_reducible rfl
 rotate_left
 ·simp only [Act.put, sp_, i64_w, i32_w]
  rfl
 refine pure_ (i := 20) (N := some 81) (v := ?_) (a' := ?_) #[Y,Y,Y,Y,Y,Y,Y,Y,Y,Y,Y,Y,Y,Y,Y,Y,Y,Y,Y,Y,Y,N,N,N,N,N,N,N,N,N,N,N,N,N,N,N,N,N,N,N,N,N,N,N,N,N,N,N,N,N,N,N] rfl rfl (any_of HT_.out r3_) (fun _ _ _ h => h) (Or.inl ⟨r37_, ?_⟩) ?_ ?_
 rotate_left
 ·intro w'
  go_simp
  with_reducible rfl
 rotate_left
 ·simp only [Act.put, sp_, i64_w, i32_w]
  rfl
 refine pure_ (i := 21) (N := some 82) (v := ?_) (a' := ?_) #[Y,Y,Y,Y,Y,Y,Y,Y,Y,Y,Y,Y,Y,Y,Y,Y,Y,Y,Y,Y,Y,Y,N,N,N,N,N,N,N,N,N,N,N,N,N,N,N,N,N,N,N,N,N,N,N,N,N,N,N,N,N,N] rfl rfl (any_of HT_.out r3_) (fun _ _ _ h => h) (Or.inl ⟨r37_, ?_⟩) ?_ ?_
 rotate_left
 ·intro w'
  go_simp
  with_reducible rfl
 rotate_left
 ·simp only [Act.put, sp_, i64_w, i32_w]
  rfl
 refine pure_ (i := 22) (N := some 83) (v := ?_) (a' := ?_) #[Y,Y,Y,Y,Y,Y,Y,Y,Y,Y,Y,Y,Y,Y,Y,Y,Y,Y,Y,Y,Y,Y,Y,N,N,N,N,N,N,N,N,N,N,N,N,N,N,N,N,N,N,N,N,N,N,N,N,N,N,N,N,N] rfl rfl (any_of HT_.out r3_) (fun _ _ _ h => h) (Or.inl ⟨r37_, ?_⟩) ?_ ?_
 rotate_left
 ·intro w'
  go_simp
  with_reducible rfl
 rotate_left
 ·simp only [Act.put, sp_, i64_w, i32_w]
  rfl
 refine take_ (i := 23) (N := some 84) (v := ?_) (a' := ?_) #[Y,Y,Y,Y,Y,Y,Y,Y,Y,Y,Y,Y,Y,Y,Y,Y,Y,Y,Y,Y,Y,Y,Y,Y,N,N,N,N,N,N,N,N,N,N,N,N,N,N,N,N,N,N,N,N,N,N,N,N,N,N,N,N] rfl rfl (take_ofW HT_.out HW_.out r3_) (fun _ _ _ h => h) (Or.inl ⟨r37_, ?_⟩) hHeld ?_ ?_
 rotate_left
 ·intro w' hS_
  have c0_ := (hS_.1.cell (World.block_lt_of_cell? w _ FK.out.1)).trans FK.out.1
  have c1_ := (hS_.1.cell (World.block_lt_of_cell? w _ FK.out.2.1)).trans FK.out.2.1
  have c2_ := (hS_.1.cell (World.block_lt_of_cell? w _ FK.out.2.2.1)).trans FK.out.2.2.1
  have c3_ := (hS_.1.cell (World.block_lt_of_cell? w _ FK.out.2.2.2)).trans FK.out.2.2.2
  go_simp
  with_reducible rfl
 rotate_left
 ·simp only [Act.put, sp_, i64_w, i32_w]
  rfl
 refine pure_ (i := 24) (N := some 85) (v := ?_) (a' := ?_) #[Y,Y,Y,Y,Y,Y,Y,Y,Y,Y,Y,Y,Y,Y,Y,Y,Y,Y,Y,Y,Y,Y,Y,Y,Y,N,N,N,N,N,N,N,N,N,N,N,N,N,N,N,N,N,N,N,N,N,N,N,N,N,N,N] rfl rfl (any_of HT_.out r3_) (fun _ _ _ h => h) (Or.inl ⟨r37_, ?_⟩) ?_ ?_
 rotate_left
 ·intro w'
  go_simp
  with_reducible rfl
 rotate_left
 ·simp only [Act.put, sp_, i64_w, i32_w]
  rfl
 refine pure_ (i := 25) (N := some 86) (v := ?_) (a' := ?_) #[Y,Y,Y,Y,Y,Y,Y,Y,Y,Y,Y,Y,Y,Y,Y,Y,Y,Y,Y,Y,Y,Y,Y,Y,Y,Y,N,N,N,N,N,N,N,N,N,N,N,N,N,N,N,N,N,N,N,N,N,N,N,N,N,N] rfl rfl (any_of HT_.out r3_) (fun _ _ _ h => h) (Or.inl ⟨r37_, ?_⟩) ?_ ?_
 rotate_left
 ·intro w'
  go_simp
  with_reducible rfl
 rotate_left
 ·simp only [Act.put, sp_, i64_w, i32_w]
  rfl
 refine pure_ (i := 26) (N := some 87) (v := ?_) (a' := ?_) #[Y,Y,Y,Y,Y,Y,Y,Y,Y,Y,Y,Y,Y,Y,Y,Y,Y,Y,Y,Y,Y,Y,Y,Y,Y,Y,Y,N,N,N,N,N,N,N,N,N,N,N,N,N,N,N,N,N,N,N,N,N,N,N,N,N] rfl rfl (any_of HT_.out r3_) (fun _ _ _ h => h) (Or.inl ⟨r37_, ?_⟩) ?_ ?_
 rotate_left
 ·intro w'
  go_simp
  with_reducible rfl
 rotate_left
 ·simp only [Act.put, sp_, i64_w, i32_w]
  rfl
 refine pure_ (i := 27) (N := some 88) (v := ?_) (a' := ?_) #[Y,Y,Y,Y,Y,Y,Y,Y,Y,Y,Y,Y,Y,Y,Y,Y,Y,Y,Y,Y,Y,Y,Y,Y,Y,Y,Y,Y,N,N,N,N,N,N,N,N,N,N,N,N,N,N,N,N,N,N,N,N,N,N,N,N] rfl rfl (any_of HT_.out r3_) (fun _ _ _ h => h) (Or.inl ⟨r37_, ?_⟩) ?_ ?_
 rotate_left
 ·intro w'
  go_simp
  with_reducible rfl
 rotate_left
 ·simp only [Act.put, sp_, i64_w, i32_w]
  rfl
 refine pure_ (i := 28) (N := some 89) (v := ?_) (a' := ?_) #[Y,Y,Y,Y,Y,Y,Y,Y,Y,Y,Y,Y,Y,Y,Y,Y,Y,Y,Y,Y,Y,Y,Y,Y,Y,Y,Y,Y,Y,N,N,N,N,N,N,N,N,N,N,N,N,N,N,N,N,N,N,N,N,N,N,N] rfl rfl (any_of HT_.out r3_) (fun _ _ _ h => h) (Or.inl ⟨r37_, ?_⟩) ?_ ?_
 rotate_left
 ·intro w'
  go_simp
  with_reducible rfl
 rotate_left
 ·simp only [Act.put, sp_, i64_w, i32_w]
  rfl
 refine pure_ (i := 29) (N := some 90) (v := ?_) (a' := ?_) #[Y,Y,Y,Y,Y,Y,Y,Y,Y,Y,Y,Y,Y,Y,Y,Y,Y,Y,Y,Y,Y,Y,Y,Y,Y,Y,Y,Y,Y,Y,N,N,N,N,N,N,N,N,N,N,N,N,N,N,N,N,N,N,N,N,N,N] rfl rfl (any_of HT_.out r3_) (fun _ _ _ h => h) (Or.inl ⟨r37_, ?_⟩) ?_ ?_
 rotate_left
 ·intro w'
  go_simp
  with_reducible rfl
 rotate_left
 ·simp only [Act.put, sp_, i64_w, i32_w]
  rfl
 refine pure_ (i := 30) (N := some 91) (v := ?_) (a' := ?_) #[Y,Y,Y,Y,Y,Y,Y,Y,Y,Y,Y,Y,Y,Y,Y,Y,Y,Y,Y,Y,Y,Y,Y,Y,Y,Y,Y,Y,Y,Y,Y,N,N,N,N,N,N,N,N,N,N,N,N,N,N,N,N,N,N,N,N,N] rfl rfl (any_of HT_.out r3_) (fun _ _ _ h => h) (Or.inl ⟨r37_, ?_⟩) ?_ ?_
 rotate_left
 ·intro w'
  go_simp
  with_reducible rfl
 rotate_left
 ·simp only [Act.put, sp_, i64_w, i32_w]
  rfl
 refine pure_ (i := 31) (N := some 92) (v := ?_) (a' := ?_) #[Y,Y,Y,Y,Y,Y,Y,Y,Y,Y,Y,Y,Y,Y,Y,Y,Y,Y,Y,Y,Y,Y,Y,Y,Y,Y,Y,Y,Y,Y,Y,Y,N,N,N,N,N,N,N,N,N,N,N,N,N,N,N,N,N,N,N,N] rfl rfl (any_of HT_.out r3_) (fun _ _ _ h => h) (Or.inl ⟨r37_, ?_⟩) ?_ ?_
 rotate_left
 ·intro w'
  go_simp
  with_reducible rfl
 rotate_left
 ·simp only [Act.put, sp_, i64_w, i32_w]
  rfl
 refine take_ (i := 32) (N := some 93) (v := ?_) (a' := ?_) #[Y,Y,Y,Y,Y,Y,Y,Y,Y,Y,Y,Y,Y,Y,Y,Y,Y,Y,Y,Y,Y,Y,Y,Y,Y,Y,Y,Y,Y,Y,Y,Y,Y,N,N,N,N,N,N,N,N,N,N,N,N,N,N,N,N,N,N,N] rfl rfl (take_ofW HT_.out HW_.out r3_) (fun _ _ _ h => h) (Or.inl ⟨r37_, ?_⟩) hHeld ?_ ?_
 rotate_left
 ·intro w' hS_
  have c0_ := (hS_.1.cell (World.block_lt_of_cell? w _ FK.out.1)).trans FK.out.1
  have c1_ := (hS_.1.cell (World.block_lt_of_cell? w _ FK.out.2.1)).trans FK.out.2.1
  have c2_ := (hS_.1.cell (World.block_lt_of_cell? w _ FK.out.2.2.1)).trans FK.out.2.2.1
  have c3_ := (hS_.1.cell (World.block_lt_of_cell? w _ FK.out.2.2.2)).trans FK.out.2.2.2
  go_simp
  with_reducible rfl
 rotate_left
 ·simp only [Act.put, sp_, i64_w, i32_w]
  rfl
 refine pure_ (i := 33) (N := some 94) (v := ?_) (a' := ?_) #[Y,Y,Y,Y,Y,Y,Y,Y,Y,Y,Y,Y,Y,Y,Y,Y,Y,Y,Y,Y,Y,Y,Y,Y,Y,Y,Y,Y,Y,Y,Y,Y,Y,Y,N,N,N,N,N,N,N,N,N,N,N,N,N,N,N,N,N,N] rfl rfl (any_of HT_.out r3_) (fun _ _ _ h => h) (Or.inl ⟨r37_, ?_⟩) ?_ ?_
 rotate_left
 ·intro w'
  go_simp
  with_reducible rfl
 rotate_left
 ·simp only [Act.put, sp_, i64_w, i32_w]
  rfl
 refine pure_ (i := 34) (N := some 95) (v := ?_) (a' := ?_) #[Y,Y,Y,Y,Y,Y,Y,Y,Y,Y,Y,Y,Y,Y,Y,Y,Y,Y,Y,Y,Y,Y,Y,Y,Y,Y,Y,Y,Y,Y,Y,Y,Y,Y,Y,N,N,N,N,N,N,N,N,N,N,N,N,N,N,N,N,N] rfl rfl (any_of HT_.out r3_) (fun _ _ _ h => h) (Or.inl ⟨r37_, ?_⟩) ?_ ?_
 rotate_left
 ·intro w'
  go_simp
  with_reducible rfl
 rotate_left
 ·simp only [Act.put, sp_, i64_w, i32_w]
  rfl
 refine pure_ (i := 35) (N := some 96) (v := ?_) (a' := ?_) #[Y,Y,Y,Y,Y,Y,Y,Y,Y,Y,Y,Y,Y,Y,Y,Y,Y,Y,Y,Y,Y,Y,Y,Y,Y,Y,Y,Y,Y,Y,Y,Y,Y,Y,Y,Y,N,N,N,N,N,N,N,N,N,N,N,N,N,N,N,N] rfl rfl (any_of HT_.out r3_) (fun _ _ _ h => h) (Or.inl ⟨r37_, ?_⟩) ?_ ?_
 rotate_left
 ·intro w'
  go_simp
  with_reducible rfl
 rotate_left
 ·simp only [Act.put, sp_, i64_w, i32_w]
  rfl
 refine pure_ (i := 36) (N := some 97) (v := ?_) (a' := ?_) #[Y,Y,Y,Y,Y,Y,Y,Y,Y,Y,Y,Y,Y,Y,Y,Y,Y,Y,Y,Y,Y,Y,Y,Y,Y,Y,Y,Y,Y,Y,Y,Y,Y,Y,Y,Y,Y,N,N,N,N,N,N,N,N,N,N,N,N,N,N,N] rfl rfl (any_of HT_.out r3_) (fun _ _ _ h => h) (Or.inl ⟨r37_, ?_⟩) ?_ ?_
 rotate_left
 ·intro w'
  go_simp
  with_reducible rfl
 rotate_left
 ·simp only [Act.put, sp_, i64_w, i32_w]
  rfl
 refine take_ (i := 37) (N := some 98) (v := ?_) (a' := ?_) #[Y,Y,Y,Y,Y,Y,Y,Y,Y,Y,Y,Y,Y,Y,Y,Y,Y,Y,Y,Y,Y,Y,Y,Y,Y,Y,Y,Y,Y,Y,Y,Y,Y,Y,Y,Y,Y,Y,N,N,N,N,N,N,N,N,N,N,N,N,N,N] rfl rfl (take_ofW HT_.out HW_.out r3_) (fun _ _ _ h => h) (Or.inl ⟨r37_, ?_⟩) hHeld ?_ ?_
 rotate_left
 ·intro w' hS_
  have c0_ := (hS_.1.cell (World.block_lt_of_cell? w _ FK.out.1)).trans FK.out.1
  have c1_ := (hS_.1.cell (World.block_lt_of_cell? w _ FK.out.2.1)).trans FK.out.2.1
  have c2_ := (hS_.1.cell (World.block_lt_of_cell? w _ FK.out.2.2.1)).trans FK.out.2.2.1
  have c3_ := (hS_.1.cell (World.block_lt_of_cell? w _ FK.out.2.2.2)).trans FK.out.2.2.2
  go_simp
  with_reducible rfl
 rotate_left
 ·simp only [Act.put, sp_, i64_w, i32_w]
  rfl
 refine one_ (i := 38) (N := some 99) #[Y,Y,Y,Y,Y,Y,Y,Y,Y,Y,Y,Y,Y,Y,Y,Y,Y,Y,Y,Y,Y,Y,Y,Y,Y,Y,Y,Y,Y,Y,Y,Y,Y,Y,Y,Y,Y,Y,Y,N,N,N,N,N,N,N,N,N,N,N,N,N] rfl rfl (one_of HT_.out r3_) r20_ (fun K hK => ?_)
 refine goes_ Try.func20 r3_ rfl #[.pointer (some ⟨g, 0, none⟩), .string ya, .int .u64 xb] r37_ rfl rfl r9_ ?_
 refine (table_Table_Cost.calls k g s2 hs0 fl2 n2 ya xb 1 s3 fl3 n3 w0 _ HI7.out HT7.out Q3.out).mono ?_
 rintro e x8 ⟨rfl, hi, hb, hk⟩
 refine ⟨_, rfl, ?_⟩
 have HI8 := Aside0.mk hi
 have HT8 := Aside0.mk hb
 have HX8 := Aside0.mk (HX7.out.trans (screelaw11_TableEnds.bel2 HT7.out hb hk.1 HZ.out))
 refine hK.out _ _ ⟨HX8.out, hk.blk hHeld.2.1 HGB.out.1 r19_, hk.blk hHeld.2.2.1 HGB.out.2 r19_, hk.blk hHeld.2.2.2 HGX_.out.2.1 r19_⟩ (fun hHeld => ?_)
 clear hi hb hk hK K HI7 HT7 HX7
 refine norm_ (a' := ?_) ?_ ?_
 rotate_left
 ·show Act.put _ (some 99) _ = _
  simp only [Act.put, sp_, i64_w, i32_w]
  rfl
 refine pure_ (i := 39) (N := some 100) (v := ?_) (a' := ?_) #[Y,Y,Y,Y,Y,Y,Y,Y,Y,Y,Y,Y,Y,Y,Y,Y,Y,Y,Y,Y,Y,Y,Y,Y,Y,Y,Y,Y,Y,Y,Y,Y,Y,Y,Y,Y,Y,Y,Y,Y,N,N,N,N,N,N,N,N,N,N,N,N] rfl rfl (any_of HT_.out r3_) (fun _ _ _ h => h) (Or.inl ⟨r37_, ?_⟩) ?_ ?_
 rotate_left
 ·intro w'
  go_simp
  with_reducible rfl
 rotate_left
 ·simp only [Act.put, sp_, i64_w, i32_w]
  rfl
 refine pure_ (i := 40) (N := some 101) (v := ?_) (a' := ?_) #[Y,Y,Y,Y,Y,Y,Y,Y,Y,Y,Y,Y,Y,Y,Y,Y,Y,Y,Y,Y,Y,Y,Y,Y,Y,Y,Y,Y,Y,Y,Y,Y,Y,Y,Y,Y,Y,Y,Y,Y,Y,N,N,N,N,N,N,N,N,N,N,N] rfl rfl (any_of HT_.out r3_) (fun _ _ _ h => h) (Or.inl ⟨r37_, ?_⟩) ?_ ?_
 rotate_left
 ·intro w'
  go_simp
  with_reducible rfl
 rotate_left
 ·simp only [Act.put, sp_, i64_w, i32_w]
  rfl
 refine pure_ (i := 41) (N := some 102) (v := ?_) (a' := ?_) #[Y,Y,Y,Y,Y,Y,Y,Y,Y,Y,Y,Y,Y,Y,Y,Y,Y,Y,Y,Y,Y,Y,Y,Y,Y,Y,Y,Y,Y,Y,Y,Y,Y,Y,Y,Y,Y,Y,Y,Y,Y,Y,N,N,N,N,N,N,N,N,N,N] rfl rfl (any_of HT_.out r3_) (fun _ _ _ h => h) (Or.inl ⟨r37_, ?_⟩) ?_ ?_
 rotate_left
 ·intro w'
  go_simp
  with_reducible rfl
 rotate_left
 ·simp only [Act.put, sp_, i64_w, i32_w]
  rfl
 refine pure_ (i := 42) (N := some 103) (v := ?_) (a' := ?_) #[Y,Y,Y,Y,Y,Y,Y,Y,Y,Y,Y,Y,Y,Y,Y,Y,Y,Y,Y,Y,Y,Y,Y,Y,Y,Y,Y,Y,Y,Y,Y,Y,Y,Y,Y,Y,Y,Y,Y,Y,Y,Y,Y,N,N,N,N,N,N,N,N,N] rfl rfl (any_of HT_.out r3_) (fun _ _ _ h => h) (Or.inl ⟨r37_, ?_⟩) ?_ ?_
 rotate_left
 ·intro w'
  go_simp
  with_reducible rfl
 rotate_left
 ·simp only [Act.put, sp_, i64_w, i32_w]
  rfl
 refine pure_ (i := 44) (N := some 105) (v := ?_) (a' := ?_) #[Y,Y,Y,Y,Y,Y,Y,Y,Y,Y,Y,Y,Y,Y,Y,Y,Y,Y,Y,Y,Y,Y,Y,Y,Y,Y,Y,Y,Y,Y,Y,Y,Y,Y,Y,Y,Y,Y,Y,Y,Y,Y,Y,N,Y,N,N,N,N,N,N,N] rfl rfl (any_of HT_.out r3_) (fun _ _ _ h => h) (Or.inl ⟨r37_, ?_⟩) ?_ ?_
 rotate_left
 ·intro w'
  go_simp
  with_reducible rfl
 rotate_left
 ·simp only [Act.put, sp_, i64_w, i32_w]
  rfl
 refine pure_ (i := 45) (N := some 106) (v := ?_) (a' := ?_) #[Y,Y,Y,Y,Y,Y,Y,Y,Y,Y,Y,Y,Y,Y,Y,Y,Y,Y,Y,Y,Y,Y,Y,Y,Y,Y,Y,Y,Y,Y,Y,Y,Y,Y,Y,Y,Y,Y,Y,Y,Y,Y,Y,N,Y,Y,N,N,N,N,N,N] rfl rfl (any_of HT_.out r3_) (fun _ _ _ h => h) (Or.inl ⟨r37_, ?_⟩) ?_ ?_
 rotate_left
 ·intro w'
  go_simp
  with_reducible rfl
 rotate_left
 ·simp only [Act.put, sp_, i64_w, i32_w]
  rfl
 refine pure_ (i := 46) (N := some 107) (v := ?_) (a' := ?_) #[Y,Y,Y,Y,Y,Y,Y,Y,Y,Y,Y,Y,Y,Y,Y,Y,Y,Y,Y,Y,Y,Y,Y,Y,Y,Y,Y,Y,Y,Y,Y,Y,Y,Y,Y,Y,Y,Y,Y,Y,Y,Y,Y,N,Y,Y,Y,N,N,N,N,N] rfl rfl (any_of HT_.out r3_) (fun _ _ _ h => h) (Or.inl ⟨r37_, ?_⟩) ?_ ?_
 rotate_left
 ·intro w'
  go_simp
  with_reducible rfl
 rotate_left
 ·simp only [Act.put, sp_, i64_w, i32_w]
  rfl
 refine pure_ (i := 47) (N := some 108) (v := ?_) (a' := ?_) #[Y,Y,Y,Y,Y,Y,Y,Y,Y,Y,Y,Y,Y,Y,Y,Y,Y,Y,Y,Y,Y,Y,Y,Y,Y,Y,Y,Y,Y,Y,Y,Y,Y,Y,Y,Y,Y,Y,Y,Y,Y,Y,Y,N,Y,Y,Y,Y,N,N,N,N] rfl rfl (any_of HT_.out r3_) (fun _ _ _ h => h) (Or.inl ⟨r37_, ?_⟩) ?_ ?_
 rotate_left
 ·intro w'
  go_simp
  with_reducible rfl
 rotate_left
 ·simp only [Act.put, sp_, i64_w, i32_w]
  rfl
 refine pure_ (i := 48) (N := some 109) (v := ?_) (a' := ?_) #[Y,Y,Y,Y,Y,Y,Y,Y,Y,Y,Y,Y,Y,Y,Y,Y,Y,Y,Y,Y,Y,Y,Y,Y,Y,Y,Y,Y,Y,Y,Y,Y,Y,Y,Y,Y,Y,Y,Y,Y,Y,Y,Y,N,Y,Y,Y,Y,Y,N,N,N] rfl rfl (any_of HT_.out r3_) (fun _ _ _ h => h) (Or.inl ⟨r37_, ?_⟩) ?_ ?_
 rotate_left
 ·intro w'
  go_simp
  with_reducible rfl
 rotate_left
 ·simp only [Act.put, sp_, i64_w, i32_w]
  rfl
 refine one_ (i := 43) (N := some 104) #[Y,Y,Y,Y,Y,Y,Y,Y,Y,Y,Y,Y,Y,Y,Y,Y,Y,Y,Y,Y,Y,Y,Y,Y,Y,Y,Y,Y,Y,Y,Y,Y,Y,Y,Y,Y,Y,Y,Y,Y,Y,Y,Y,Y,Y,Y,Y,Y,Y,N,N,N] rfl rfl (one_of HT_.out r3_) r20_ (fun K hK => ?_)
 refine goes_ Try.func26 r3_ rfl #[.pointer (some ⟨g, 0, none⟩)] r37_ rfl rfl r9_ ?_
 refine (table_Table_Blocks.calls g s3 hs0 fl3 n3 (Int.tdiv ((l0.length : Int) + 7) 8) s4 fl4 n4 w0 _ HI8.out HT8.out Q5.out).mono ?_
 rintro e x9 ⟨rfl, hi, hb, hk⟩
 refine ⟨_, rfl, ?_⟩
 have HI9 := Aside0.mk hi
 have HT9 := Aside0.mk hb
 have HX9 := Aside0.mk (HX8.out.trans (screelaw11_TableEnds.bel2 HT8.out hb hk.1 HZ.out))
 refine hK.out _ _ ⟨HX9.out, hk.blk hHeld.2.1 HGB.out.1 r19_, hk.blk hHeld.2.2.1 HGB.out.2 r19_, hk.blk hHeld.2.2.2 HGX_.out.2.1 r19_⟩ (fun hHeld => ?_)
 clear hi hb hk hK K HI8 HT8 HX8
 refine norm_ (a' := ?_) ?_ ?_
 rotate_left
 ·show Act.put _ (some 104) _ = _
  simp only [Act.put, sp_, i64_w, i32_w]
  rfl
 refine pure_ (i := 49) (N := some 110) (v := ?_) (a' := ?_) #[Y,Y,Y,Y,Y,Y,Y,Y,Y,Y,Y,Y,Y,Y,Y,Y,Y,Y,Y,Y,Y,Y,Y,Y,Y,Y,Y,Y,Y,Y,Y,Y,Y,Y,Y,Y,Y,Y,Y,Y,Y,Y,Y,Y,Y,Y,Y,Y,Y,Y,N,N] rfl rfl (any_of HT_.out r3_) (fun _ _ _ h => h) (Or.inl ⟨r37_, ?_⟩) ?_ ?_
 rotate_left
 ·intro w'
  go_simp
  with_reducible rfl
 rotate_left
 ·simp only [Act.put, sp_, i64_w, i32_w]
  rfl
 refine pure_ (i := 50) (N := some 111) (v := ?_) (a' := ?_) #[Y,Y,Y,Y,Y,Y,Y,Y,Y,Y,Y,Y,Y,Y,Y,Y,Y,Y,Y,Y,Y,Y,Y,Y,Y,Y,Y,Y,Y,Y,Y,Y,Y,Y,Y,Y,Y,Y,Y,Y,Y,Y,Y,Y,Y,Y,Y,Y,Y,Y,Y,N] rfl rfl (any_of HT_.out r3_) (fun _ _ _ h => h) (Or.inl ⟨r37_, ?_⟩) ?_ ?_
 rotate_left
 ·intro w'
  go_simp
  with_reducible rfl
 rotate_left
 ·simp only [Act.put, sp_, i64_w, i32_w]
  rfl
 refine pure_ (i := 51) (N := some 4) (v := ?_) (a' := ?_) #[Y,Y,Y,Y,Y,Y,Y,Y,Y,Y,Y,Y,Y,Y,Y,Y,Y,Y,Y,Y,Y,Y,Y,Y,Y,Y,Y,Y,Y,Y,Y,Y,Y,Y,Y,Y,Y,Y,Y,Y,Y,Y,Y,Y,Y,Y,Y,Y,Y,Y,Y,Y] rfl rfl (any_of HT_.out r3_) (fun _ _ _ h => h) (Or.inl ⟨r37_, ?_⟩) ?_ ?_
 rotate_left
 ·intro w'
  go_simp
  with_reducible rfl
 rotate_left
 ·simp only [Act.put, sp_, i64_w, i32_w]
  rfl
 refine done_ (done_of HT_.out r3_) ?_
 (try clear hHeld)
 (try clear hHeld)
 go_wp2
 go_ret
 exact ⟨rfl, HX9.out⟩

end Go.Proofs.Ytgdkikkjaofbfaa.P
