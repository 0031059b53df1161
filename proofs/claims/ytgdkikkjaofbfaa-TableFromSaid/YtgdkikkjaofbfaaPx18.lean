-- Printed by a program of this session's own (wip/tools/pprint.sh, over the kit's print, with given contracts): not typed by hand.
import Derived.Test.YtgdkikkjaofbfaaPx0
import Derived.Test.YtgdkikkjaofbfaaPx6
import Derived.Test.YtgdkikkjaofbfaaPx7
import Derived.Test.YtgdkikkjaofbfaaPx10
import Derived.Test.YtgdkikkjaofbfaaPx13
import Derived.Test.YtgdkikkjaofbfaaPx14
import Derived.Test.YtgdkikkjaofbfaaPx15
namespace Go.Proofs.Ytgdkikkjaofbfaa.P
open Go.RowKit Go.Proofs.YtgdkikkjaofbfaaW.PrintWords Go.Proofs.YtgdkikkjaofbfaaW.PrintLast Go.Proofs.YtgdkikkjaofbfaaW.PrintMore
attribute [local go_sem] max2_int min2_int max_two min_two max_three min_three max_four min_four   -- for this text's walks alone
set_option linter.unusedVariables false
set_option linter.unusedSimpArgs false
-- SQUEEZED3

/-! ### screelaw11_TableFrom: function 7 -/
-- needs NS37DS
def screelaw11_TableFrom.sm (a0 : ByteArray) (a1 : Int) (a2 : Bool) (a3 : ByteArray) (x : S37) : Prop := a0.toList = x.f0.toList ∧ a1 = x.f1 ∧ a2 = x.f2 ∧ a3.toList = x.f3.toList
instance screelaw11_TableFrom.sm_dec (a0 : ByteArray) (a1 : Int) (a2 : Bool) (a3 : ByteArray) (x : S37) : Decidable (screelaw11_TableFrom.sm a0 a1 a2 a3 x) := by unfold screelaw11_TableFrom.sm; exact inferInstance
abbrev screelaw11_TableFrom.at (l : List (S37)) (j : Nat) : S37 := rd_T37 l (j : Int)
def screelaw11_TableFrom.pre (k : Nat) (l : List (S37)) (x : Bool) (K : ByteArray × List (S80) × ByteArray × Int → Option Bool) : Option Bool :=
 (screelaw11_awake.f k).bind fun t => if t = true then (screelaw11_large.f k l).bind fun g => if g = true ∨ x = true then some true else
  (table_Build.f k l).bind fun b => if b.2 = 0 then (table_Open.f k b.1).bind fun o => match o with
   | (some t, e) => if e = 0 then K t else none
   | _ => none else some true else none
theorem screelaw11_TableFrom.bel2 {B : Nat} {w0 a b : World} (h : Below w0.heap.size w0 a) (h2 : Below w0.heap.size w0 b) (hs : a.heap.size ≤ b.heap.size) (hB : B ≤ w0.heap.size) : Below B a b :=
 ⟨h2.os.trans h.os.symm, h2.tape.trans h.tape.symm, h2.output.trans h.output.symm, hs, fun k hk => (h2.block k r17_).trans (h.block k r17_).symm⟩

def screelaw11_TableFrom.cnt (key : ByteArray) : List (S37) → Nat
 | [] => 0
 | x :: l => if Op.bytesLess x.f0.toList key.toList = true then screelaw11_TableFrom.cnt key l + 1 else 0
theorem screelaw11_TableFrom.cnt_le (key : ByteArray) : ∀ l : List (S37), screelaw11_TableFrom.cnt key l ≤ l.length
 | [] => Nat.le_refl _
 | x :: l => by
  unfold screelaw11_TableFrom.cnt
  split
  ·have := screelaw11_TableFrom.cnt_le key l; simp; omega
  ·exact Nat.zero_le _
def screelaw11_TableFrom.lim (N : Int) (d : Nat) : Nat := (if (d : Int) < (if N < 0 then 0 else N) then (d : Int) else (if N < 0 then 0 else N)).toNat
theorem screelaw11_TableFrom.lim_le (N : Int) (d : Nat) : screelaw11_TableFrom.lim N d ≤ d ∧ (if (d : Int) < (if N < 0 then 0 else N) then (d : Int) else (if N < 0 then 0 else N)) = (screelaw11_TableFrom.lim N d : Int) := by
 unfold screelaw11_TableFrom.lim
 split <;> split <;> omega
def screelaw11_TableFrom.K (k : Nat) (l : List (S37)) (key : ByteArray) (N : Int) (t : ByteArray × List (S80) × ByteArray × Int) : Option Bool :=
 (table_Table_Ends.f k t.1 t.2.1 t.2.2.1 t.2.2.2).bind fun z => if screelaw11_TableFrom.sm z.1 z.2.1 z.2.2.1 z.2.2.2.1 (screelaw11_TableFrom.at l 0) ∧ screelaw11_TableFrom.sm z.2.2.2.2.1 z.2.2.2.2.2.1 z.2.2.2.2.2.2.1 z.2.2.2.2.2.2.2.1 (screelaw11_TableFrom.at l (l.length - 1)) then
  (table_Table_From.f k z.2.2.2.2.2.2.2.2.1 t.2.1 z.2.2.2.2.2.2.2.2.2.1 z.2.2.2.2.2.2.2.2.2.2 key N).bind fun y => (screeref07_Same.f k y.1 ((l.drop (screelaw11_TableFrom.cnt key l)).take (screelaw11_TableFrom.lim N (l.drop (screelaw11_TableFrom.cnt key l)).length))).bind fun m => if m = true then some true else none else none
def screelaw11_TableFrom.f (k : Nat) (l0 : List (S37)) (a1 : ByteArray) (a2 : Int) : Option Bool :=
 screelaw11_TableFrom.pre k l0 (decide (300 < (a1.size : Int))) (fun t => if 0 < l0.length ∧ l0.length < 1000000 then screelaw11_TableFrom.K k l0 a1 a2 t else none)
def screelaw11_TableFrom.T16 : Bool × List (List Nat × List Nat) := (true, [([], []), ([], []), ([], []), ([0, 1, 2], [0, 1, 2]), ([], []), ([], []), ([5], [5]), ([], []), ([7], [7]), ([6, 8], [6, 8]), ([4, 9], [4, 9]), ([3, 10, 3], [3, 10]), ([11, 11], [11]), ([12], [12]), ([12], [12]), ([14, 12], [12, 14]), ([15, 12], [12, 15]), ([13, 16, 12], [12, 13, 16]), ([12, 17], [12, 17]), ([18, 12], [18]), ([19], [19]), ([19], [19]), ([19], [19]), ([22, 19], [19, 22]), ([23, 19], [19, 23]), ([21, 24, 19], [19, 21, 24]), ([25, 19], [19, 25]), ([20, 26, 19], [19, 20, 26]), ([19, 27], [19, 27]), ([28, 19, 0, 1, 2, 3, 4, 5, 6, 7, 8, 9, 10, 11, 12, 13, 14, 15, 16, 17, 18, 19, 20, 21, 22, 23, 24, 25, 26, 27, 28], [28])])
def screelaw11_TableFrom.B16 : List Nat := [0, 0, 0, 7, 0, 0, 32, 0, 128, 480, 1008, 2047, 4095, 8191, 8191, 24575, 57343, 131071, 262143, 524287, 1048575, 1048575, 1048575, 5242879, 13631487, 32505855, 66060287, 134217727, 268435455, 536870911]
theorem screelaw11_TableFrom.tab16 : rtab .any (opsOf Try.f7 16) = screelaw11_TableFrom.T16 := by kernel_rfl
theorem screelaw11_TableFrom.bits16 : waitsOk screelaw11_TableFrom.T16.2 screelaw11_TableFrom.B16 = true := by kernel_rfl
set_option maxHeartbeats 6400000 in
set_option maxRecDepth 100000 in
theorem screelaw11_TableFrom.calls (k : Nat) (A0 : Option Addr) (c0 : Nat) (l0 : List (S37)) (a1 : ByteArray) (a2 : Int) (r : Bool) (w : World) (hr0 : Kd.C k37 w A0 l0.length l0) (hc0 : l0.length ≤ c0) (h : screelaw11_TableFrom.f k l0 a1 a2 = some r) :
  Calls Try.prog 7 #[.slice A0 l0.length c0, .string a1, .int .i64 a2] w fun e w' => e = .returned (.bool r) ∧ Below w.heap.size w w' := by
 have hu_ := Try.underlying37
 have HR0 := Aside0.mk hr0
 have HC0 := Aside0.mk hc0
 clear hr0 hc0
 unfold screelaw11_TableFrom.f screelaw11_TableFrom.pre at h
 replace h := Option.bind_eq_some_iff.mp h
 obtain ⟨aw, ha, h⟩ := h
 by_cases he : aw = true
 case neg => rw [if_neg he] at h; exact absurd h r19_
 rw [if_pos he] at h
 subst he
 have HA := Lib.hid ha
 clear ha
 replace h := Option.bind_eq_some_iff.mp h
 obtain ⟨g, hg, h⟩ := h
 have HG := Lib.hid hg
 clear hg
 cases g with
 | true =>
  rw [if_pos (Or.inl rfl)] at h
  obtain rfl := Option.some.inj h
  clear h
  go_enter Try.func7, Try.ntmps7
  go_wp2_with (fail)
  refine (screelaw11_awake.calls k true _ HA.out).mono ?_
  rintro e w1 ⟨rfl, hb⟩
  have HB1 := Aside0.mk hb
  clear hb
  go_wp2_with (fail)
  refine (screelaw11_large.calls k A0 c0 l0 true _ (Kd.C_below HR0.out HB1.out) HC0.out HG.out).mono ?_
  rintro e w2 ⟨rfl, hb⟩
  have HB2 := Aside0.mk (below_step HB1.out hb.below)
  clear HB1 hb
  go_wp2
  go_ret
  exact ⟨rfl, HB2.out⟩
 | false =>
 obtain ⟨X, hX⟩ : ∃ X, decide (300 < (a1.size : Int)) = X := ⟨_, rfl⟩
 rw [hX] at h
 cases X with
 | true =>
  rw [if_pos (Or.inr rfl)] at h
  obtain rfl := Option.some.inj h
  clear h
  have dx : decide ((a1.size : Int) > 300) = true := hX
  go_enter Try.func7, Try.ntmps7
  go_wp2_with (fail)
  refine (screelaw11_awake.calls k true _ HA.out).mono ?_
  rintro e w1 ⟨rfl, hb⟩
  have HB1 := Aside0.mk hb
  clear hb
  go_wp2_with (fail)
  refine (screelaw11_large.calls k A0 c0 l0 false _ (Kd.C_below HR0.out HB1.out) HC0.out HG.out).mono ?_
  rintro e w2 ⟨rfl, hb⟩
  have HB2 := Aside0.mk (below_step HB1.out hb.below)
  clear HB1 hb
  go_wp2
  go_ret
  exact ⟨rfl, HB2.out⟩
 | false =>
 rw [if_neg r19_] at h
 have dx : decide ((a1.size : Int) > 300) = false := hX
 replace h := Option.bind_eq_some_iff.mp h
 obtain ⟨⟨s, e⟩, hb, h⟩ := h
 simp only at h
 have HBD := Lib.hid hb
 clear hb
 by_cases he : e = 0
 case neg =>
  rw [if_neg he] at h
  obtain rfl := Option.some.inj h
  clear h
  have d1 : (e == 0) = false := beq_eq_false_iff_ne.mpr he
  have d2 : (e != 0) = true := bne_iff_ne.mpr he
  go_enter Try.func7, Try.ntmps7
  go_wp2_with (fail)
  refine (screelaw11_awake.calls k true _ HA.out).mono ?_
  rintro e w1 ⟨rfl, hb⟩
  have HB1 := Aside0.mk hb
  clear hb
  go_wp2_with (fail)
  refine (screelaw11_large.calls k A0 c0 l0 false _ (Kd.C_below HR0.out HB1.out) HC0.out HG.out).mono ?_
  rintro e w2 ⟨rfl, hb⟩
  have HB2 := Aside0.mk (below_step HB1.out hb.below)
  clear HB1 hb
  go_wp2_with (fail)
  refine (table_Build.calls k A0 c0 l0 s e _ (Kd.C_below HR0.out HB2.out) HC0.out HBD.out).mono ?_
  rintro e_ x1 ⟨rfl, hb⟩
  have HX1 := Aside0.mk (below_step HB2.out hb)
  clear hb HBD
  go_wp2
  go_ret
  exact ⟨rfl, HX1.out⟩
 rw [if_pos he] at h
 subst he
 replace h := Option.bind_eq_some_iff.mp h
 obtain ⟨⟨o, e⟩, ho, h⟩ := h
 cases o with
 | none => exact absurd h r19_
 | some t =>
 obtain ⟨s0, hs0, fl0, n0⟩ := t
 simp only at h
 by_cases he : e = 0
 case neg => rw [if_neg he] at h; exact absurd h r19_
 rw [if_pos he] at h
 subst he
 have HOP := Lib.hid ho
 have HK := Lib.hid h
 clear ho h
 go_enter Try.func7, Try.ntmps7
 go_wp2_with (fail)
 refine (screelaw11_awake.calls k true _ HA.out).mono ?_
 rintro e w1 ⟨rfl, hb⟩
 have HB1 := Aside0.mk hb
 clear hb
 go_wp2_with (fail)
 refine (screelaw11_large.calls k A0 c0 l0 false _ (Kd.C_below HR0.out HB1.out) HC0.out HG.out).mono ?_
 rintro e w2 ⟨rfl, hb⟩
 have HB2 := Aside0.mk (below_step HB1.out hb.below)
 clear HB1 hb
 go_wp2_with (fail)
 refine (table_Build.calls k A0 c0 l0 s 0 _ (Kd.C_below HR0.out HB2.out) HC0.out HBD.out).mono ?_
 rintro e x1 ⟨rfl, hb⟩
 have HX1 := Aside0.mk (below_step HB2.out hb)
 clear hb HBD HB2
 go_wp2_with (fail)
 refine (table_Open.calls k s (some (s0, hs0, fl0, n0)) 0 _ HOP.out).mono ?_
 rintro e x2 ⟨g, w0, rfl, hi, hb0, hsz, hb⟩
 have HI2 := Aside0.mk hi
 have HT2 := Aside0.mk hb0
 have HX2 := Aside0.mk (below_step HX1.out hb)
 have HZ : Hid (w.heap.size ≤ w0.heap.size) := Lib.hid (Nat.le_trans HX1.out.size hsz)
 clear hi hb0 hsz hb HX1 HOP
 have h := HK.out
 clear HK
 by_cases hc : 0 < l0.length ∧ l0.length < 1000000
 case neg => rw [if_neg hc] at h; exact absurd h r19_
 rw [if_pos hc] at h
 have HMX := Lib.hid hc
 clear hc
 unfold screelaw11_TableFrom.K at h
 replace h := Option.bind_eq_some_iff.mp h
 obtain ⟨⟨za, zb, zc, zd, va, vb, vc, vd, s1, fl1, n1⟩, hz, h⟩ := h
 simp only at hz h
 by_cases hcc : screelaw11_TableFrom.sm za zb zc zd (screelaw11_TableFrom.at l0 0) ∧ screelaw11_TableFrom.sm va vb vc vd (screelaw11_TableFrom.at l0 (l0.length - 1))
 case neg => rw [if_neg hcc] at h; exact absurd h r19_
 rw [if_pos hcc] at h
 obtain ⟨hc1, hc2⟩ := hcc
 replace h := Option.bind_eq_some_iff.mp h
 obtain ⟨⟨lf, s2, fl2, n2⟩, hx, h⟩ := h
 simp only at hx h
 replace h := Option.bind_eq_some_iff.mp h
 obtain ⟨sm_, q3, h⟩ := h
 by_cases z1 : sm_ = true
 case neg => rw [if_neg z1] at h; exact absurd h r19_
 rw [if_pos z1] at h
 obtain rfl := Option.some.inj h
 subst z1
 obtain ⟨m, hm⟩ : ∃ m, screelaw11_TableFrom.cnt a1 l0 = m := ⟨_, rfl⟩
 rw [hm] at q3
 have HEZ := Lib.hid hz
 have HFX := Lib.hid hx
 have Q3 := Lib.hid q3
 have HC1 := Lib.hid hc1
 have HC2 := Lib.hid hc2
 have HM := Lib.hid hm
 have HML := Lib.hid (show m ≤ l0.length by rw [← hm]; exact screelaw11_TableFrom.cnt_le _ _)
 clear hz hx q3 h hc1 hc2 hm
 go_upto_block 0 with (fail)
 go_cut [11] from 42 to 56 (fun v11 wc => v11 = .int .i64 (m : Int) ∧ Aside0 (IsS82 w0 wc g s0 hs0 fl0 n0) ∧ Aside0 (Below w0.heap.size w0 wc) ∧ Aside0 (Below w.heap.size w wc))
 case first =>
  clear HFX Q3 HC1 HC2 HEZ
  go_wp2_with (fail)
  go_loopg [11] l0.length (fun kq v11 w' => ∃ (i : Nat), v11 = .int .i64 (i : Int) ∧ Aside0 (kq + i = l0.length) ∧ Hid (i + screelaw11_TableFrom.cnt a1 (l0.drop i) = m) ∧ Aside0 (IsS82 w0 w' g s0 hs0 fl0 n0) ∧ Aside0 (Below w0.heap.size w0 w') ∧ Aside0 (Below w.heap.size w w'))
  case atStart => exact ⟨0, rfl, ⟨r17_⟩, Lib.hid (by rw [List.drop_zero, Nat.zero_add]; exact HM.out), HI2, HT2, HX2⟩
  case round =>
   clear HI2 HT2 HX2 HM
   obtain ⟨i, rfl, HI, HCK, HIS, HTS, HB⟩ := hrel
   by_cases hlt : i < l0.length
   ·have hkg : ∃ k1, gk = k1 + 1 := ⟨gk - 1, by have := HI.out; omega⟩
    obtain ⟨k1, rfl⟩ := hkg
    have hmx := HMX.out
    have dl : decide ((i : Int) < (l0.length : Int)) = true := decide_eq_true r17_
    have hdr : l0.drop i = rd_T37 l0 (i : Int) :: l0.drop (i + 1) := by
     rw [List.drop_eq_getElem_cons hlt]; simp [rd_T37, hlt]
    have hck := HCK.out
    rw [hdr] at hck
    unfold screelaw11_TableFrom.cnt at hck
    clear hdr HCK
    obtain ⟨ad, ead, hx0, hx1, hx2, hx3⟩ := at_T37 HR0.out (i : Int) r17_ r17_
    have hA := ead
    subst ead
    have htn : ((i : Int)).toNat = i := by omega
    rw [htn] at hx0
    clear htn hA hx1 hx2 hx3
    replace hx0 := (HB.out.cell (World.block_lt_of_cell? w _ hx0)).trans hx0
    generalize rd_T37 l0 (i : Int) = y at hck hx0
    obtain ⟨y0, y1, y2, y3⟩ := y
    simp only at hck hx0
    by_cases hk1 : Op.bytesLess y0.toList a1.toList = true
    ·rw [if_pos hk1] at hck
     have HCK : Hid (i + 1 + screelaw11_TableFrom.cnt a1 (l0.drop (i + 1)) = m) := Lib.hid r17_
     clear hck
     go_wp2_with (fail)
     go_roundg k1
     case measure => omega
     case rel => exact ⟨i + 1, by go_num, ⟨by have := HI.out; omega⟩, HCK, HIS, HTS, HB⟩
    rw [if_neg hk1] at hck
    have hk2 : Op.bytesLess y0.toList a1.toList = false := by simpa using hk1
    obtain rfl : i = m := by omega
    clear hk1 hck
    go_wp2_with (fail)
    go_meet
    case rel => exact ⟨rfl, HIS, HTS, HB⟩
   have dl : decide ((i : Int) < (l0.length : Int)) = false := decide_eq_false r17_
   have hck := HCK.out
   rw [List.drop_eq_nil_of_le r17_] at hck
   obtain rfl : i = m := hck
   clear HCK
   go_wp2_with (fail)
   go_meet
   case rel => exact ⟨rfl, HIS, HTS, HB⟩
 case rest =>
  clear HI2 HT2 HX2
  obtain ⟨rfl, HI3, HT3, HX3⟩ := hcut
  obtain ⟨lr, hlr⟩ : ∃ lr, l0.drop m = lr := ⟨_, rfl⟩
  have hll : lr.length = l0.length - m := by rw [← hlr, List.length_drop]
  have HMX_ := HMX.out
  have hml_ := HML.out
  obtain ⟨i0_, hi0_, _, hsz_, _⟩ := info_parts info37
  have hct := cut_from (P := Try.prog) 22 37 .i64 Try.underlying22 hi0_ 4 hsz_ A0 l0.length c0 (m : Int) r17_ r17_
  have hCD := Kd.C_drop (m := m) HR0.out hml_ HC0.out
  rw [Int.toNat_natCast] at hct
  obtain ⟨A1, hA1⟩ : ∃ A1, (if c0 = m then A0 else A0.map (·.add (m * 4))) = A1 := ⟨_, rfl⟩
  obtain ⟨c1, hc1⟩ : ∃ c1, c0 - m = c1 := ⟨_, rfl⟩
  rw [hA1, hc1, ← hll] at hct
  have HCD : Aside0 (Kd.C k37 w A1 lr.length lr) := ⟨by rw [← hA1, ← hlr]; exact hCD⟩
  have HLC : Hid (lr.length ≤ c1) := Lib.hid (by have := HC0.out; omega)
  have q3 := Q3.out
  rw [hlr] at q3
  obtain ⟨M, hM⟩ : ∃ M, screelaw11_TableFrom.lim a2 lr.length = M := ⟨_, rfl⟩
  have hlim := screelaw11_TableFrom.lim_le a2 lr.length
  rw [hM] at hlim q3
  have hct2 := cut_to (P := Try.prog) 22 37 .i64 Try.underlying22 hi0_ A1 lr.length c1 (M : Int) r17_ r17_ HLC.out
  rw [Int.toNat_natCast] at hct2
  have HCT : Aside0 (Kd.C k37 w A1 (lr.take M).length (lr.take M)) := ⟨Kd.C_take HCD.out hlim.1⟩
  have hlt : (lr.take M).length = M := by rw [List.length_take]; omega
  have HLM : Hid ((lr.take M).length ≤ c1) := Lib.hid (by rw [hlt]; have := HLC.out; omega)
  rw [← hlt] at hct2
  have HMN := Lib.hid hlim.2
  rw [← hlt] at HMN
  have Q4 := Lib.hid q3
  obtain ⟨lt, hlt2⟩ : ∃ lt, lr.take M = lt := ⟨_, rfl⟩
  rw [hlt2] at hct2 HMN Q4 HCT HLM
  clear hll hml_ HMX_ hi0_ hsz_ hCD hA1 hc1 hlr q3 Q3 hM hlim hlt hlt2
  go_wp2_with (fail)
  refine (table_Table_Ends.calls k g s0 hs0 fl0 n0 za zb zc zd va vb vc vd s1 fl1 n1 w0 _ HI3.out HT3.out HEZ.out).mono ?_
  rintro e x9 ⟨rfl, hi, hb, hk⟩
  have HI9 := Aside0.mk hi
  have HT9 := Aside0.mk hb
  have HX9 := Aside0.mk (HX3.out.trans (screelaw11_TableFrom.bel2 HT3.out hb hk.1 HZ.out))
  clear hi hb hk HI3 HT3 HX3 HEZ
  go_upto_region 16 with (fail)
  have BV0 := blk_new (x9.alloc (.cells #[.string za, .int .u64 zb, .bool zc, .string zd] 37)) (.cells #[.string va, .int .u64 vb, .bool vc, .string vd] 37)
  rw [World.size_alloc] at BV0
  have BZ1 := Aside0.mk (blk_alloc (blk_new x9 (.cells #[.string za, .int .u64 zb, .bool zc, .string zd] 37)) (.cells #[.string va, .int .u64 vb, .bool vc, .string vd] 37))
  have BV1 := Aside0.mk BV0
  clear BV0
  have HI1 := Aside0.mk (IsS82.alloc (IsS82.alloc HI9.out (.cells #[.string za, .int .u64 zb, .bool zc, .string zd] 37)) (.cells #[.string va, .int .u64 vb, .bool vc, .string vd] 37))
  have HT1 := Aside0.mk (below_alloc (below_alloc HT9.out (.cells #[.string za, .int .u64 zb, .bool zc, .string zd] 37)) (.cells #[.string va, .int .u64 vb, .bool vc, .string vd] 37))
  have HX1 := Aside0.mk (below_alloc (below_alloc HX9.out (.cells #[.string za, .int .u64 zb, .bool zc, .string zd] 37)) (.cells #[.string va, .int .u64 vb, .bool vc, .string vd] 37))
  have HGB : Hid (x9.heap.size ≠ g ∧ x9.heap.size + 1 ≠ g) := Lib.hid (by obtain ⟨_, _, hb_, _⟩ := HI9.out; have := blk_lt hb_; omega)
  clear HI9 HT9 HX9
  generalize ((x9.alloc (.cells #[.string za, .int .u64 zb, .bool zc, .string zd] 37)).alloc (.cells #[.string va, .int .u64 vb, .bool vc, .string vd] 37)) = x1 at BZ1 BV1 HI1 HT1 HX1 ⊢
  obtain ⟨gz, hgz⟩ : ∃ gz, x9.heap.size = gz := ⟨_, rfl⟩
  obtain ⟨gv, hgv⟩ : ∃ gv, x9.heap.size + 1 = gv := ⟨_, rfl⟩
  rw [hgv] at BV1 HGB ⊢
  rw [hgz] at BZ1 HGB ⊢
  clear hgz hgv
  obtain ⟨ad, ead, l0_, l1_, l2_, l3_⟩ := at_T37 HR0.out (((0 : Nat) : Int)) r17_ (by have := HMX.out.1; omega)
  have hA := ead
  subst ead
  obtain ⟨ad3, e3, m0_, m1_, m2_, m3_⟩ := at_T37 HR0.out ((l0.length - 1 : Nat) : Int) r17_ (by have := HMX.out.1; omega)
  obtain rfl : ad = ad3 := Option.some.inj e3
  rw [Int.toNat_natCast] at l0_ l1_ l2_ l3_ m0_ m1_ m2_ m3_
  clear e3 hA
  have hc1 := HC1.out
  have hc2 := HC2.out
  clear HC1 HC2
  unfold screelaw11_TableFrom.at at hc1 hc2
  generalize rd_T37 l0 ((0 : Nat) : Int) = y0 at l0_ l1_ l2_ l3_ hc1
  generalize rd_T37 l0 ((l0.length - 1 : Nat) : Int) = yn at m0_ m1_ m2_ m3_ hc2
  obtain ⟨pa, pb, pc, pd⟩ := y0
  obtain ⟨qa, qb, qc, qd⟩ := yn
  simp only at l0_ l1_ l2_ l3_ m0_ m1_ m2_ m3_ hc1 hc2
  obtain ⟨b1_, b2_, b3_, b4_⟩ := hc1
  simp only at b1_ b2_ b3_ b4_
  subst b2_ b3_
  obtain ⟨d1_, d2_, d3_, d4_⟩ := hc2
  simp only at d1_ d2_ d3_ d4_
  subst d2_ d3_
  have u3 : (za.toList == pa.toList) = true := beq_iff_eq.mpr b1_
  have u4 : (zd.toList == pd.toList) = true := beq_iff_eq.mpr b4_
  have u5 : (va.toList == qa.toList) = true := beq_iff_eq.mpr d1_
  have u6 : (vd.toList == qd.toList) = true := beq_iff_eq.mpr d4_
  clear b1_ b4_ d1_ d4_
  have FL := Aside0.mk (And.intro l0_ (And.intro l1_ (And.intro l2_ l3_)))
  have FM := Aside0.mk (And.intro m0_ (And.intro m1_ (And.intro m2_ m3_)))
  clear l0_ l1_ l2_ l3_ m0_ m1_ m2_ m3_
  have hlen := HMX.out.1
  have hmx := HMX.out.2
  have i0_ : ((0 : Int) < (l0.length : Int)) = True := eq_true r17_
  have j0_ : (0 < l0.length) = True := eq_true hlen
  have in_ : (((l0.length - 1 : Nat) : Int) < (l0.length : Int)) = True := eq_true r17_
  have jn_ : (l0.length - 1 < l0.length) = True := eq_true r17_
  have wn_ : wrap64 ((l0.length : Int) - 1) = ((l0.length - 1 : Nat) : Int) := by unfold wrap64; omega
  have hmn_ := HMN.out
  clear hlen hmx hct
  refine start_ (n := 30) (S := fun w' => Below w.heap.size w w' ∧ w'.heap[gz]? = some (.cells #[.string za, .int .u64 zb, .bool zc, .string zd] 37 (0, 0)) ∧ w'.heap[gv]? = some (.cells #[.string va, .int .u64 vb, .bool vc, .string vd] 37 (0, 0))) (ds := []) #[N,N,N,N,N,N,N,N,N,N,N,N,N,N,N,N,N,N,N,N,N,N,N,N,N,N,N,N,N,N] r3_ rfl rfl ⟨below_drew1 HX1.out, blk_drew BZ1.out, blk_drew BV1.out⟩ (fun hHeld => ?_)
  refine with_tabW screelaw11_TableFrom.tab16 screelaw11_TableFrom.bits16 (fun HT_ HW_ => ?_)
  have HI7 : Aside0 (IsS82 w0 x1.drew g s1 hs0 fl1 n1) := ⟨IsS82.drew HI1.out⟩
  have HT7 : Aside0 (Below w0.heap.size w0 x1.drew) := ⟨below_drew1 HT1.out⟩
  have HX7 : Aside0 (Below w.heap.size w x1.drew) := ⟨below_drew1 HX1.out⟩
  clear HI1 HT1 HX1 BZ1 BV1
  generalize x1.drew = x7 at HI7 HT7 HX7 hHeld ⊢
  refine pure_ (i := 0) (N := some 65) (v := ?_) (a' := ?_) #[Y,N,N,N,N,N,N,N,N,N,N,N,N,N,N,N,N,N,N,N,N,N,N,N,N,N,N,N,N,N] rfl rfl (any_of HT_.out r3_) (fun _ _ _ h => h) (Or.inl ⟨r37_, ?_⟩) ?_ ?_
  rotate_left
  ·intro w'
   go_simp
   with_reducible rfl
  rotate_left
  ·simp only [Act.put, sp_, i64_w, i32_w]
   rfl
  refine pure_ (i := 1) (N := some 66) (v := ?_) (a' := ?_) #[Y,Y,N,N,N,N,N,N,N,N,N,N,N,N,N,N,N,N,N,N,N,N,N,N,N,N,N,N,N,N] rfl rfl (any_of HT_.out r3_) (fun _ _ _ h => h) (Or.inl ⟨r37_, ?_⟩) ?_ ?_
  rotate_left
  ·intro w'
   go_simp
   with_reducible rfl
  rotate_left
  ·simp only [Act.put, sp_, i64_w, i32_w]
   rfl
  refine pure_ (i := 2) (N := some 67) (v := ?_) (a' := ?_) #[Y,Y,Y,N,N,N,N,N,N,N,N,N,N,N,N,N,N,N,N,N,N,N,N,N,N,N,N,N,N,N] rfl rfl (any_of HT_.out r3_) (fun _ _ _ h => h) (Or.inl ⟨r37_, ?_⟩) ?_ ?_
  rotate_left
  ·intro w'
   go_simp
   with_reducible rfl
  rotate_left
  ·simp only [Act.put, sp_, i64_w, i32_w]
   rfl
  refine pure_ (i := 4) (N := some 69) (v := ?_) (a' := ?_) #[Y,Y,Y,N,Y,N,N,N,N,N,N,N,N,N,N,N,N,N,N,N,N,N,N,N,N,N,N,N,N,N] rfl rfl (any_of HT_.out r3_) (fun _ _ _ h => h) (Or.inl ⟨r37_, ?_⟩) ?_ ?_
  rotate_left
  ·intro w'
   go_simp
   with_reducible rfl
  rotate_left
  ·simp only [Act.put, sp_, i64_w, i32_w]
   rfl
  refine pure_ (i := 5) (N := some 70) (v := ?_) (a' := ?_) #[Y,Y,Y,N,Y,Y,N,N,N,N,N,N,N,N,N,N,N,N,N,N,N,N,N,N,N,N,N,N,N,N] rfl rfl (any_of HT_.out r3_) (fun _ _ _ h => h) (Or.inl ⟨r37_, ?_⟩) ?_ ?_
  rotate_left
  ·intro w'
   go_simp
   with_reducible rfl
  rotate_left
  ·simp only [Act.put, sp_, i64_w, i32_w]
   rfl
  refine pure_ (i := 6) (N := some 71) (v := ?_) (a' := ?_) #[Y,Y,Y,N,Y,Y,Y,N,N,N,N,N,N,N,N,N,N,N,N,N,N,N,N,N,N,N,N,N,N,N] rfl rfl (any_of HT_.out r3_) (fun _ _ _ h => h) (Or.inl ⟨r37_, ?_⟩) ?_ ?_
  rotate_left
  ·intro w'
   go_simp
   with_reducible rfl
  rotate_left
  ·simp only [Act.put, sp_, i64_w, i32_w]
   rfl
  refine pure_ (i := 7) (N := some 72) (v := ?_) (a' := ?_) #[Y,Y,Y,N,Y,Y,Y,Y,N,N,N,N,N,N,N,N,N,N,N,N,N,N,N,N,N,N,N,N,N,N] rfl rfl (any_of HT_.out r3_) (fun _ _ _ h => h) (Or.inl ⟨r37_, ?_⟩) ?_ ?_
  rotate_left
  ·intro w'
   go_simp
   with_reducible rfl
  rotate_left
  ·simp only [Act.put, sp_, i64_w, i32_w]
   rfl
  refine pure_ (i := 8) (N := some 73) (v := ?_) (a' := ?_) #[Y,Y,Y,N,Y,Y,Y,Y,Y,N,N,N,N,N,N,N,N,N,N,N,N,N,N,N,N,N,N,N,N,N] rfl rfl (any_of HT_.out r3_) (fun _ _ _ h => h) (Or.inl ⟨r37_, ?_⟩) ?_ ?_
  rotate_left
  ·intro w'
   go_simp
   with_reducible rfl
  rotate_left
  ·simp only [Act.put, sp_, i64_w, i32_w]
   rfl
  refine pure_ (i := 9) (N := some 74) (v := ?_) (a' := ?_) #[Y,Y,Y,N,Y,Y,Y,Y,Y,Y,N,N,N,N,N,N,N,N,N,N,N,N,N,N,N,N,N,N,N,N] rfl rfl (any_of HT_.out r3_) (fun _ _ _ h => h) (Or.inl ⟨r37_, ?_⟩) ?_ ?_
  rotate_left
  ·intro w'
   go_simp
   with_reducible rfl
  rotate_left
  ·simp only [Act.put, sp_, i64_w, i32_w]
   rfl
  refine pure_ (i := 10) (N := some 75) (v := ?_) (a' := ?_) #[Y,Y,Y,N,Y,Y,Y,Y,Y,Y,Y,N,N,N,N,N,N,N,N,N,N,N,N,N,N,N,N,N,N,N] rfl rfl (any_of HT_.out r3_) (fun _ _ _ h => h) (Or.inl ⟨r37_, ?_⟩) ?_ ?_
  rotate_left
  ·intro w'
   go_simp
   with_reducible rfl
  rotate_left
  ·simp only [Act.put, sp_, i64_w, i32_w]
   rfl
  refine one_ (i := 3) (N := some 68) #[Y,Y,Y,Y,Y,Y,Y,Y,Y,Y,Y,N,N,N,N,N,N,N,N,N,N,N,N,N,N,N,N,N,N,N] rfl rfl (one_of HT_.out r3_) r20_ (fun K hK => ?_)
  refine goes_ Try.func23 r3_ rfl #[.pointer (some ⟨g, 0, none⟩), .string a1, .int .i64 a2] r37_ rfl rfl r9_ ?_
  refine (table_Table_From.calls k g s1 hs0 fl1 n1 a1 a2 lf s2 fl2 n2 w0 _ HI7.out HT7.out HFX.out).mono ?_
  rintro e x8 ⟨v0_, rfl, hr, hi, hb, hk⟩
  refine ⟨_, rfl, ?_⟩
  obtain ⟨AF, cF, eF, _⟩ := Kd.Q_slice hr
  subst eF
  have HRA := Aside0.mk (Kd.Q_reads' hr)
  clear hr
  have HI8 := Aside0.mk hi
  have HT8 := Aside0.mk hb
  have HX8 := Aside0.mk (HX7.out.trans (screelaw11_TableFrom.bel2 HT7.out hb hk.1 HZ.out))
  refine hK.out _ _ ⟨HX8.out, hk.blk hHeld.2.1 HGB.out.1 r19_, hk.blk hHeld.2.2 HGB.out.2 r19_⟩ (fun hHeld => ?_)
  clear hi hb hk hK K HI7 HT7 HX7
  refine norm_ (a' := ?_) ?_ ?_
  rotate_left
  ·show Act.put _ (some 68) _ = _
   simp only [Act.put, sp_, i64_w, i32_w]
   rfl
  refine one_ (i := 11) (N := some 76) #[Y,Y,Y,Y,Y,Y,Y,Y,Y,Y,Y,Y,N,N,N,N,N,N,N,N,N,N,N,N,N,N,N,N,N,N] rfl rfl (one_of HT_.out r3_) r20_ (fun K hK => ?_)
  refine goes_ Try.func14 r3_ rfl #[.slice AF lf.length cF, .slice A1 lt.length c1] r37_ rfl rfl r9_ ?_
  refine (screeref07_Same.calls k AF cF lf A1 c1 lt true _ HRA.out.2.2 HRA.out.2.1 (Kd.C_below HCT.out HX8.out) HLM.out Q4.out).mono ?_
  rintro e x9 ⟨rfl, hd⟩
  refine ⟨_, rfl, ?_⟩
  have hb0 := hd.below
  have hi := IsS82.below HI8.out hb0
  have hb := below_step HT8.out hb0
  have hk := KeepBut.of_below hb0 g none
  clear hb0 HRA
  have HI9 := Aside0.mk hi
  have HT9 := Aside0.mk hb
  have HX9 := Aside0.mk (HX8.out.trans (screelaw11_TableFrom.bel2 HT8.out hb hk.1 HZ.out))
  refine hK.out _ _ ⟨HX9.out, hk.blk hHeld.2.1 HGB.out.1 r19_, hk.blk hHeld.2.2 HGB.out.2 r19_⟩ (fun hHeld => ?_)
  clear hi hb hk hK K HI8 HT8 HX8
  refine norm_ (a' := ?_) ?_ ?_
  rotate_left
  ·show Act.put _ (some 76) _ = _
   simp only [Act.put, sp_, i64_w, i32_w]
   rfl
  refine pure_ (i := 12) (N := some 77) (v := ?_) (a' := ?_) #[Y,Y,Y,Y,Y,Y,Y,Y,Y,Y,Y,Y,Y,N,N,N,N,N,N,N,N,N,N,N,N,N,N,N,N,N] rfl rfl (any_of HT_.out r3_) (fun _ _ _ h => h) (Or.inl ⟨r37_, ?_⟩) ?_ ?_
  rotate_left
  ·intro w'
   go_simp
   with_reducible rfl
  rotate_left
  ·simp only [Act.put, sp_, i64_w, i32_w]
   rfl
  refine take_ (i := 13) (N := some 78) (v := ?_) (a' := ?_) #[Y,Y,Y,Y,Y,Y,Y,Y,Y,Y,Y,Y,Y,Y,N,N,N,N,N,N,N,N,N,N,N,N,N,N,N,N] rfl rfl (take_ofW HT_.out HW_.out r3_) (fun _ _ _ h => h) (Or.inl ⟨r37_, ?_⟩) hHeld ?_ ?_
  rotate_left
  ·intro w' hS_
   have c0_ := (blk_cell hS_.2.1 0).trans rfl
   have c1_ := (blk_cell hS_.2.1 1).trans rfl
   have c2_ := (blk_cell hS_.2.1 2).trans rfl
   have c3_ := (blk_cell hS_.2.1 3).trans rfl
   go_simp
   with_reducible rfl
  rotate_left
  ·simp only [Act.put, sp_, i64_w, i32_w]
   rfl
  refine pure_ (i := 14) (N := some 79) (v := ?_) (a' := ?_) #[Y,Y,Y,Y,Y,Y,Y,Y,Y,Y,Y,Y,Y,Y,Y,N,N,N,N,N,N,N,N,N,N,N,N,N,N,N] rfl rfl (any_of HT_.out r3_) (fun _ _ _ h => h) (Or.inl ⟨r37_, ?_⟩) ?_ ?_
  rotate_left
  ·intro w'
   go_simp
   with_reducible rfl
  rotate_left
  ·simp only [Act.put, sp_, i64_w, i32_w]
   rfl
  refine pure_ (i := 15) (N := some 80) (v := ?_) (a' := ?_) #[Y,Y,Y,Y,Y,Y,Y,Y,Y,Y,Y,Y,Y,Y,Y,Y,N,N,N,N,N,N,N,N,N,N,N,N,N,N] rfl rfl (any_of HT_.out r3_) (fun _ _ _ h => h) (Or.inl ⟨r37_, ?_⟩) ?_ ?_
  rotate_left
  ·intro w'
   go_simp
   with_reducible rfl
  rotate_left
  ·simp only [Act.put, sp_, i64_w, i32_w]
   rfl
  refine take_ (i := 16) (N := some 81) (v := ?_) (a' := ?_) #[Y,Y,Y,Y,Y,Y,Y,Y,Y,Y,Y,Y,Y,Y,Y,Y,Y,N,N,N,N,N,N,N,N,N,N,N,N,N] rfl rfl (take_ofW HT_.out HW_.out r3_) (fun _ _ _ h => h) (Or.inl ⟨r37_, ?_⟩) hHeld ?_ ?_
  rotate_left
  ·intro w' hS_
   have c0_ := (hS_.1.cell (World.block_lt_of_cell? w _ FL.out.1)).trans FL.out.1
   have c1_ := (hS_.1.cell (World.block_lt_of_cell? w _ FL.out.2.1)).trans FL.out.2.1
   have c2_ := (hS_.1.cell (World.block_lt_of_cell? w _ FL.out.2.2.1)).trans FL.out.2.2.1
   have c3_ := (hS_.1.cell (World.block_lt_of_cell? w _ FL.out.2.2.2)).trans FL.out.2.2.2
   (try simp [Addr.add] at c0_ c1_ c2_ c3_)
   go_simp
   with_reducible rfl
  rotate_left
  ·simp only [Act.put, sp_, i64_w, i32_w]
   rfl
  refine pure_ (i := 17) (N := some 82) (v := ?_) (a' := ?_) #[Y,Y,Y,Y,Y,Y,Y,Y,Y,Y,Y,Y,Y,Y,Y,Y,Y,Y,N,N,N,N,N,N,N,N,N,N,N,N] rfl rfl (any_of HT_.out r3_) (fun _ _ _ h => h) (Or.inl ⟨r37_, ?_⟩) ?_ ?_
  rotate_left
  ·intro w'
   go_simp
   with_reducible rfl
  rotate_left
  ·simp only [Act.put, sp_, i64_w, i32_w]
   rfl
  refine pure_ (i := 18) (N := some 83) (v := ?_) (a' := ?_) #[Y,Y,Y,Y,Y,Y,Y,Y,Y,Y,Y,Y,Y,Y,Y,Y,Y,Y,Y,N,N,N,N,N,N,N,N,N,N,N] rfl rfl (any_of HT_.out r3_) (fun _ _ _ h => h) (Or.inl ⟨r37_, ?_⟩) ?_ ?_
  rotate_left
  ·intro w'
   go_simp
   with_reducible rfl
  rotate_left
  ·simp only [Act.put, sp_, i64_w, i32_w]
   rfl
  refine pure_ (i := 19) (N := some 84) (v := ?_) (a' := ?_) #[Y,Y,Y,Y,Y,Y,Y,Y,Y,Y,Y,Y,Y,Y,Y,Y,Y,Y,Y,Y,N,N,N,N,N,N,N,N,N,N] rfl rfl (any_of HT_.out r3_) (fun _ _ _ h => h) (Or.inl ⟨r37_, ?_⟩) ?_ ?_
  rotate_left
  ·intro w'
   go_simp
   with_reducible rfl
  rotate_left
  ·simp only [Act.put, sp_, i64_w, i32_w]
   rfl
  refine take_ (i := 20) (N := some 85) (v := ?_) (a' := ?_) #[Y,Y,Y,Y,Y,Y,Y,Y,Y,Y,Y,Y,Y,Y,Y,Y,Y,Y,Y,Y,Y,N,N,N,N,N,N,N,N,N] rfl rfl (take_ofW HT_.out HW_.out r3_) (fun _ _ _ h => h) (Or.inl ⟨r37_, ?_⟩) hHeld ?_ ?_
  rotate_left
  ·intro w' hS_
   have c0_ := (blk_cell hS_.2.2 0).trans rfl
   have c1_ := (blk_cell hS_.2.2 1).trans rfl
   have c2_ := (blk_cell hS_.2.2 2).trans rfl
   have c3_ := (blk_cell hS_.2.2 3).trans rfl
   go_simp
   with_reducible rfl
  rotate_left
  ·simp only [Act.put, sp_, i64_w, i32_w]
   rfl
  refine pure_ (i := 21) (N := some 86) (v := ?_) (a' := ?_) #[Y,Y,Y,Y,Y,Y,Y,Y,Y,Y,Y,Y,Y,Y,Y,Y,Y,Y,Y,Y,Y,Y,N,N,N,N,N,N,N,N] rfl rfl (any_of HT_.out r3_) (fun _ _ _ h => h) (Or.inl ⟨r37_, ?_⟩) ?_ ?_
  rotate_left
  ·intro w'
   go_simp
   with_reducible rfl
  rotate_left
  ·simp only [Act.put, sp_, i64_w, i32_w]
   rfl
  refine pure_ (i := 22) (N := some 87) (v := ?_) (a' := ?_) #[Y,Y,Y,Y,Y,Y,Y,Y,Y,Y,Y,Y,Y,Y,Y,Y,Y,Y,Y,Y,Y,Y,Y,N,N,N,N,N,N,N] rfl rfl (any_of HT_.out r3_) (fun _ _ _ h => h) (Or.inl ⟨r37_, ?_⟩) ?_ ?_
  rotate_left
  ·intro w'
   go_simp
   with_reducible rfl
  rotate_left
  ·simp only [Act.put, sp_, i64_w, i32_w]
   rfl
  refine pure_ (i := 23) (N := some 88) (v := ?_) (a' := ?_) #[Y,Y,Y,Y,Y,Y,Y,Y,Y,Y,Y,Y,Y,Y,Y,Y,Y,Y,Y,Y,Y,Y,Y,Y,N,N,N,N,N,N] rfl rfl (any_of HT_.out r3_) (fun _ _ _ h => h) (Or.inl ⟨r37_, ?_⟩) ?_ ?_
  rotate_left
  ·intro w'
   go_simp
   with_reducible rfl
  rotate_left
  ·simp only [Act.put, sp_, i64_w, i32_w]
   rfl
  refine pure_ (i := 24) (N := some 89) (v := ?_) (a' := ?_) #[Y,Y,Y,Y,Y,Y,Y,Y,Y,Y,Y,Y,Y,Y,Y,Y,Y,Y,Y,Y,Y,Y,Y,Y,Y,N,N,N,N,N] rfl rfl (any_of HT_.out r3_) (fun _ _ _ h => h) (Or.inl ⟨r37_, ?_⟩) ?_ ?_
  rotate_left
  ·intro w'
   go_simp
   with_reducible rfl
  rotate_left
  ·simp only [Act.put, sp_, i64_w, i32_w]
   rfl
  refine pure_ (i := 25) (N := some 90) (v := ?_) (a' := ?_) #[Y,Y,Y,Y,Y,Y,Y,Y,Y,Y,Y,Y,Y,Y,Y,Y,Y,Y,Y,Y,Y,Y,Y,Y,Y,Y,N,N,N,N] rfl rfl (any_of HT_.out r3_) (fun _ _ _ h => h) (Or.inl ⟨r37_, ?_⟩) ?_ ?_
  rotate_left
  ·intro w'
   go_simp
   with_reducible rfl
  rotate_left
  ·simp only [Act.put, sp_, i64_w, i32_w]
   rfl
  refine take_ (i := 26) (N := some 91) (v := ?_) (a' := ?_) #[Y,Y,Y,Y,Y,Y,Y,Y,Y,Y,Y,Y,Y,Y,Y,Y,Y,Y,Y,Y,Y,Y,Y,Y,Y,Y,Y,N,N,N] rfl rfl (take_ofW HT_.out HW_.out r3_) (fun _ _ _ h => h) (Or.inl ⟨r37_, ?_⟩) hHeld ?_ ?_
  rotate_left
  ·intro w' hS_
   have c0_ := (hS_.1.cell (World.block_lt_of_cell? w _ FM.out.1)).trans FM.out.1
   have c1_ := (hS_.1.cell (World.block_lt_of_cell? w _ FM.out.2.1)).trans FM.out.2.1
   have c2_ := (hS_.1.cell (World.block_lt_of_cell? w _ FM.out.2.2.1)).trans FM.out.2.2.1
   have c3_ := (hS_.1.cell (World.block_lt_of_cell? w _ FM.out.2.2.2)).trans FM.out.2.2.2
   go_simp
   with_reducible rfl
  rotate_left
  ·simp only [Act.put, sp_, i64_w, i32_w]
   rfl
  refine pure_ (i := 27) (N := some 92) (v := ?_) (a' := ?_) #[Y,Y,Y,Y,Y,Y,Y,Y,Y,Y,Y,Y,Y,Y,Y,Y,Y,Y,Y,Y,Y,Y,Y,Y,Y,Y,Y,Y,N,N] rfl rfl (any_of HT_.out r3_) (fun _ _ _ h => h) (Or.inl ⟨r37_, ?_⟩) ?_ ?_
  rotate_left
  ·intro w'
   go_simp
   with_reducible rfl
  rotate_left
  ·simp only [Act.put, sp_, i64_w, i32_w]
   rfl
  refine pure_ (i := 28) (N := some 93) (v := ?_) (a' := ?_) #[Y,Y,Y,Y,Y,Y,Y,Y,Y,Y,Y,Y,Y,Y,Y,Y,Y,Y,Y,Y,Y,Y,Y,Y,Y,Y,Y,Y,Y,N] rfl rfl (any_of HT_.out r3_) (fun _ _ _ h => h) (Or.inl ⟨r37_, ?_⟩) ?_ ?_
  rotate_left
  ·intro w'
   go_simp
   with_reducible rfl
  rotate_left
  ·simp only [Act.put, sp_, i64_w, i32_w]
   rfl
  refine pure_ (i := 29) (N := some 6) (v := ?_) (a' := ?_) #[Y,Y,Y,Y,Y,Y,Y,Y,Y,Y,Y,Y,Y,Y,Y,Y,Y,Y,Y,Y,Y,Y,Y,Y,Y,Y,Y,Y,Y,Y] rfl rfl (any_of HT_.out r3_) (fun _ _ _ h => h) (Or.inl ⟨r37_, ?_⟩) ?_ ?_
  rotate_left
  ·intro w'
   go_simp
   with_reducible rfl
  rotate_left
  ·simp only [Act.put, sp_, i64_w, i32_w]
   rfl
  refine done_ (done_of HT_.out r3_) ?_
  (try clear hHeld)
  (try clear hHeld)
  go_wp2
  all_goals (go_ret; exact ⟨rfl, HX9.out⟩)

end Go.Proofs.Ytgdkikkjaofbfaa.P
