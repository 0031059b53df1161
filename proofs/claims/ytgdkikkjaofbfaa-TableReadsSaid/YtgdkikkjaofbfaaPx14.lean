-- Printed by a program of this session's own (wip/tools/pprint.sh, over the kit's print, with given contracts): not typed by hand.
import Derived.Test.YtgdkikkjaofbfaaPx0
import Derived.Test.YtgdkikkjaofbfaaPx6
import Derived.Test.YtgdkikkjaofbfaaPx7
import Derived.Test.YtgdkikkjaofbfaaPx9
import Derived.Test.YtgdkikkjaofbfaaPx10
import Derived.Test.YtgdkikkjaofbfaaPx11
import Derived.Test.YtgdkikkjaofbfaaPx12
import Derived.Test.YtgdkikkjaofbfaaPx13
namespace Go.Proofs.Ytgdkikkjaofbfaa.P
open Go.RowKit Go.Proofs.YtgdkikkjaofbfaaW.PrintWords Go.Proofs.YtgdkikkjaofbfaaW.PrintLast Go.Proofs.YtgdkikkjaofbfaaW.PrintMore
attribute [local go_sem] max2_int min2_int max_two min_two max_three min_three max_four min_four   -- for this text's walks alone
set_option linter.unusedVariables false
set_option linter.unusedSimpArgs false
-- SQUEEZED4
-- SQUEEZED3

/-! ### qf: function 10 -/
-- needs 15 12 17 19 25 26 20 22 23 14
def qf.el (i : Nat) : S37 := ⟨(⟨#[107]⟩ : ByteArray) ++ strOfNums [97 + (i : Int)], 5, false, ⟨#[118]⟩⟩
def qf.ls : List (S37) := (List.range 9).map qf.el
abbrev qf.kc : ByteArray := ⟨#[107, 99]⟩
def qf.sm (a0 : ByteArray) (a1 : Int) (a2 : Bool) (a3 : ByteArray) (x : S37) : Prop := a0.toList = x.f0.toList ∧ a1 = x.f1 ∧ a2 = x.f2 ∧ a3.toList = x.f3.toList
instance qf.sm_dec (a0 : ByteArray) (a1 : Int) (a2 : Bool) (a3 : ByteArray) (x : S37) : Decidable (qf.sm a0 a1 a2 a3 x) := by unfold qf.sm; exact inferInstance
def qf.fin (k : Nat) (s : ByteArray) (l : List (S80)) (s0 fl0 : ByteArray) (n0 : Int) : Option Bool :=
 (qs1.f s0 l fl0 n0).bind fun a => if a.1 = 9 then (qn1.f a.2.1 l a.2.2.1 a.2.2.2).bind fun b => if b.1 = 2 then (qU.f k b.2.1 l b.2.2.1 b.2.2.2 qf.kc 9).bind fun c => if c.1 = 1 then (qU.f k c.2.1 l c.2.2.1 c.2.2.2 ⟨#[122]⟩ 9).bind fun d => if d.1 = 0 then
 (qa1.f k d.2.1 l d.2.2.1 d.2.2.2).bind fun e => (qH.f k e.1 qf.ls).bind fun m => if m = true then (qG.f k e.2.1 l e.2.2.1 e.2.2.2 ⟨#[107, 104]⟩ 9).bind fun h => if h.1.length = 2 ∧ 8 ≤ s.size ∧ s.size ≤ 140737488351232 ∧ (s.extract (s.size - 8) s.size).toList = [115, 99, 114, 101, 101, 48, 48, 49] then some true else none else none else none else none else none else none
def qf.mid (k : Nat) (s : ByteArray) (l : List (S80)) (s0 fl0 : ByteArray) (n0 : Int) : Option Bool :=
 (qh1.f k s0 l fl0 n0 qf.kc 9).bind fun x => (qh1.f k x.2.2.2.2.2.1 l x.2.2.2.2.2.2.1 x.2.2.2.2.2.2.2 qf.kc 4).bind fun y => (qZ.f k y.2.2.2.2.2.1 l y.2.2.2.2.2.2.1 y.2.2.2.2.2.2.2).bind fun e =>
 if qf.sm x.1 x.2.1 x.2.2.1 x.2.2.2.1 (qf.el 2) ∧ x.2.2.2.2.1 = true ∧ y.2.2.2.2.1 = false ∧ qf.sm e.1 e.2.1 e.2.2.1 e.2.2.2.1 (qf.el 0) ∧ qf.sm e.2.2.2.2.1 e.2.2.2.2.2.1 e.2.2.2.2.2.2.1 e.2.2.2.2.2.2.2.1 (qf.el 8) then qf.fin k s l e.2.2.2.2.2.2.2.2.1 e.2.2.2.2.2.2.2.2.2.1 e.2.2.2.2.2.2.2.2.2.2 else none
def qf.f (k : Nat) : Option Bool :=
 (qh.f k qf.ls).bind fun b => if b.2 = 0 then (qX.f k b.1).bind fun o => match o with
  | (some t, e) => if e = 0 then (qh.f k []).bind fun c => if c.2 = 2 then (qX.f k (b.1 ++ (⟨#[63]⟩ : ByteArray))).bind fun u => match u with
   | (none, e2) => if e2 = 2 ∧ 40 ≤ b.1.size ∧ b.1.size ≤ 140737488351232 then qf.mid k b.1 t.2.1 t.1 t.2.2.1 t.2.2.2 else none
   | _ => none else none else none
  | _ => none else none
theorem qf.info : (Try.prog.info? 37).map (fun i => (i.zero, i.size, i.bytes)) = some (some (.agg #[(.string ⟨#[]⟩), (.int .u64 0), (.bool false), (.string ⟨#[]⟩)]), 4, 48) := by kernel_rfl
theorem qf.take (i : Nat) (h : i < 9) : qf.ls.take i ++ [qf.el i] = qf.ls.take (i + 1) := by
 have hl : i < qf.ls.length := by simp [qf.ls, h]
 rw [List.take_succ_eq_append_getElem hl]
 simp [qf.ls]
theorem qf.bel2 {B : Nat} {w0 a b : World} (h : Below w0.heap.size w0 a) (h2 : Below w0.heap.size w0 b) (hs : a.heap.size ≤ b.heap.size) (hB : B ≤ w0.heap.size) : Below B a b :=
 ⟨h2.os.trans h.os.symm, h2.tape.trans h.tape.symm, h2.output.trans h.output.symm, hs, fun k hk => (h2.block k r18_).trans (h.block k r18_).symm⟩
def qf.T15 : Bool × List (List Nat × List Nat) := (true, [([], []), ([0], [0]), ([1], [1]), ([2], [2]), ([3, 2], [2, 3]), ([2, 4], [2, 4]), ([5, 2], [5]), ([6], [6]), ([7, 6], [6, 7]), ([6, 8], [6, 8]), ([9, 6], [9]), ([10], [10]), ([11, 10], [10, 11]), ([10, 12], [10, 12]), ([13, 10], [13]), ([14], [14]), ([14], [14]), ([16, 14], [14, 16]), ([17, 14], [14, 17]), ([15, 18, 14], [14, 15, 18]), ([14, 19], [14, 19]), ([20, 14], [20]), ([21], [21]), ([21, 22], [21, 22]), ([23, 21], [23]), ([24], [24]), ([25, 24], [24, 25]), ([24, 26], [24, 26]), ([27, 24], [27]), ([28], [28]), ([28], [28]), ([30, 28], [28, 30]), ([31, 28], [28, 31]), ([29, 32, 28], [28, 29, 32]), ([28, 33], [28, 33]), ([34, 28], [34]), ([35], [35]), ([35], [35]), ([37, 35], [35, 37]), ([38, 35], [35, 38]), ([36, 39, 35], [35, 36, 39]), ([35, 40], [35, 40]), ([41, 35], [41]), ([42], [42]), ([43, 42, 42], [42, 43]), ([44, 42], [42, 44]), ([42, 45], [42, 45]), ([46, 44], [46]), ([47], [47]), ([48, 47, 47], [47, 48]), ([49, 47], [47, 49]), ([47, 50], [47, 50]), ([51, 49], [51]), ([52], [52]), ([53, 52, 52], [52, 53]), ([54, 52], [52, 54]), ([52, 55], [52, 55]), ([56, 54], [56]), ([57], [57]), ([58, 57, 57], [57, 58]), ([59, 57], [57, 59]), ([57, 60], [57, 60]), ([61, 59], [61]), ([62], [62]), ([63, 62, 62], [62, 63]), ([62], [62]), ([64, 65, 64, 62], [62, 64, 65]), ([62, 66], [62, 66]), ([67, 66], [67]), ([68], [68]), ([69, 68, 68], [68, 69]), ([70, 68], [68, 70]), ([71, 68], [68, 71]), ([68, 72], [68, 72]), ([73, 70], [73]), ([74], [74]), ([74], [74]), ([76, 74], [74, 76]), ([77, 74], [74, 77]), ([75, 78, 74], [74, 75, 78]), ([79, 74], [74, 79]), ([74, 80], [74, 80]), ([81, 74, 0, 1, 2, 3, 4, 5, 6, 7, 8, 9, 10, 11, 12, 13, 14, 15, 16, 17, 18, 19, 20, 21, 22, 23, 24, 25, 26, 27, 28, 29, 30, 31, 32, 33, 34, 35, 36, 37, 38, 39, 40, 41, 42, 43, 44, 45, 46, 47, 48, 49, 50, 51, 52, 53, 54, 55, 56, 57, 58, 59, 60, 61, 62, 63, 64, 65, 66, 67, 68, 69, 70, 71, 72, 73, 74, 75, 76, 77, 78, 79, 80, 81], [81])])
def qf.B15 : List Nat := [0, 1, 3, 7, 15, 31, 63, 127, 255, 511, 1023, 2047, 4095, 8191, 16383, 32767, 32767, 98303, 229375, 524287, 1048575, 2097151, 4194303, 8388607, 16777215, 33554431, 67108863, 134217727, 268435455, 536870911, 536870911, 1610612735, 3758096383, 8589934591, 17179869183, 34359738367, 68719476735, 68719476735, 206158430207, 481036337151, 1099511627775, 2199023255551, 4398046511103, 8796093022207, 17592186044415, 35184372088831, 70368744177663, 140737488355327, 281474976710655, 562949953421311, 1125899906842623, 2251799813685247, 4503599627370495, 9007199254740991, 18014398509481983, 36028797018963967, 72057594037927935, 144115188075855871, 288230376151711743, 576460752303423487, 1152921504606846975, 2305843009213693951, 4611686018427387903, 9223372036854775807, 18446744073709551615, 9223372036854775807, 73786976294838206463, 147573952589676412927, 295147905179352825855, 590295810358705651711, 1180591620717411303423, 2361183241434822606847, 4722366482869645213695, 9444732965739290427391, 18889465931478580854783, 37778931862957161709567, 37778931862957161709567, 113336795588871485128703, 264452523040700131966975, 604462909807314587353087, 1208925819614629174706175, 2417851639229258349412351, 4835703278458516698824703]
theorem qf.tab15 : rtab .any (opsOf Try.f10 15) = qf.T15 := by kernel_rfl
theorem qf.bits15 : waitsOk qf.T15.2 qf.B15 = true := by kernel_rfl
set_option maxHeartbeats 6400000 in
set_option maxRecDepth 100000 in
theorem qf.calls (k : Nat) (r : Bool) (w : World) (h : qf.f k = some r) : Calls Try.prog 10 #[] w fun e w' => e = .returned (.bool r) ∧ Below w.heap.size w w' := by
 have H0 := Lib.hid h
 clear h
 have hu_ := Try.underlying37
 have hus_ := Try.underlying54
 have hu5_ := Try.underlying5
 have hu9_ := Try.underlying9
 go_enter Try.func10, Try.ntmps10
 go_wp2_with (first | ((with_reducible refine gate_dst (N := 17) rfl ?_); refine Kd.R_lit k37 (w0 := w) w.heap.size 37 ?hg (N := 17) ?hd (xs := ([] : List (S37))) (inner := []) (ok := fun _ => True) (okp := fun _ => False) ?hr ?hp (fun _ hk => hk.elim) trivial (Below.refl _ _) (Nat.le_refl _) r17_ ?_; (case hd => rfl); (case hg => rfl); (case hr => first | (go_simp; done) | (go_simp; rfl)); (case hp => exact (Reps.none _ _)); intro v5 w5 ho hb hg_ hnew_; have HO5 := Aside0.mk ho; have HB5 := Aside0.mk hb; clear ho hb hg_ hnew_))
 go_loopg [1, 2] 9 (fun kq v1 v2 w' => ∃ (i : Nat), v2 = .int .i64 (i : Int) ∧ Aside0 (kq + i = 9) ∧ Aside0 (Kd.R k37 37 w' w.heap.size (fun _ => True) v1 (qf.ls.take i)) ∧ Aside0 (Below w.heap.size w w'))
 case atStart => exact ⟨0, rfl, ⟨r18_⟩, HO5, HB5⟩
 case round =>
  clear HO5 HB5
  obtain ⟨i, rfl, HI, HO, HB⟩ := hrel
  by_cases hlt : i < 9
  ·have hkg : ∃ k1, gk = k1 + 1 := ⟨gk - 1, by have := HI.out; omega⟩
   obtain ⟨k1, rfl⟩ := hkg
   have hmx : i < 9 := hlt
   go_wp2_with (first
    | ((with_reducible refine gate_dst (N := 26) rfl ?_); refine Kd.R_lit (Kd.int .u8) (w0 := w) w.heap.size 5 ?hg (N := 26) ?hd (xs := ([97 + (i : Int)] : List Int)) (inner := [.int .u8 (97 + (i : Int))]) (ok := fun _ => True) (okp := fun _ => False) ?hr ?hp (fun _ hk => hk.elim) trivial HB.out HB.out.size r17_ ?_; (case hd => rfl); (case hg => rfl); (case hr => first | (go_simp; done) | (go_simp; rfl)); (case hp => exact (Reps.one (show Kd.M (Kd.int .u8) _ _ _ (97 + (i : Int)) [.int .u8 (97 + (i : Int))] from rfl) (Reps.none _ _))); intro v26 w26 ho hb hg_ hnew_; obtain ⟨A26, c26, ev26⟩ := Kd.R_slice ho; subst ev26; have hcv : (convert 54 9 (.slice A26 1 c26)).run Try.prog w26 = .ok (.string (strOfNums [97 + (i : Int)])) w26 := Kd.C_string hus_ hu5_ hu9_ (c := c26) (Kd.R_reads' ho).2.2; have HB26 := Aside0.mk hb; have HO26 := Aside0.mk (Kd.R_grown HO.out hg_ (fun _ _ => by simp)); clear ho hb hg_ hnew_ HB HO)
    | ((with_reducible refine gate_builtin (b := .append) (xs := #[.tmp 22, .tmp 30]) rfl ?_); at_builtin; refine Kd.R_append k37 (w0 := w) w.heap.size rfl (.tmp 22) (.tmp 30) 22 37 (.agg #[(.string ⟨#[]⟩), (.int .u64 0), (.bool false), (.string ⟨#[]⟩)]) 48 rfl Try.underlying22 qf.info rfl r24_ r18_ u1 (qf.ls.take i) (qf.el i) [.string ((⟨#[107]⟩ : ByteArray) ++ strOfNums [97 + (i : Int)]), .int .u64 5, .bool false, .string ⟨#[118]⟩] (fun _ => True) (fun _ => False) rfl r25_ ?aP (fun _ hk => hk.elim) ?aF ?aO ?aB ?aS ?aL ?_; (case aP => exact k37_mkM _ _ _ (qf.el i)); (case aB => exact HB26.out); (case aF => exact (fun _ _ => trivial)); (case aO => exact HO26.out); (case aS => exact HB26.out.size); (case aL => simp [qf.ls]; omega); intro v31 w31 ho hb hg_ hat; rw [qf.take i hmx] at ho; have HOn := Aside0.mk ho; have HBn := Aside0.mk hb; clear ho hb hg_ hat HB26 HO26))
   go_roundg k1
   case measure => omega
   case rel => exact ⟨i + 1, by go_num, ⟨by have := HI.out; omega⟩, HOn, HBn⟩
  have hi : i = 9 := by have := HI.out; omega
  subst hi
  clear hlt HI
  replace HO : Aside0 (Kd.R k37 37 wr w.heap.size (fun _ => True) u1 qf.ls) := HO
  obtain ⟨A, c, ev⟩ := Kd.R_slice HO.out
  subst ev
  have HC := Aside0.mk (Kd.R_reads' HO.out)
  clear HO
  have h := H0.out
  clear H0
  unfold qf.f at h
  replace h := bs_ h
  obtain ⟨⟨s, e⟩, hb, h⟩ := h
  by_cases he : (s, e).2 = 0
  case neg => rw [if_neg he] at h; exact absurd h r17_
  rw [if_pos he] at h
  obtain rfl : e = 0 := he
  have HBD := Lib.hid hb
  clear hb
  replace h := bs_ h
  obtain ⟨⟨o, e⟩, ho, h⟩ := h
  cases o with
  | none => exact absurd h r17_
  | some t =>
  obtain ⟨s0, l, fl0, n0⟩ := t
  simp only at h
  by_cases he : e = 0
  case neg => rw [if_neg he] at h; exact absurd h r17_
  rw [if_pos he] at h
  subst he
  have HOP := Lib.hid ho
  clear ho
  replace h := bs_ h
  obtain ⟨⟨cs, e⟩, hc, h⟩ := h
  by_cases he : (cs, e).2 = 2
  case neg => rw [if_neg he] at h; exact absurd h r17_
  rw [if_pos he] at h
  obtain rfl : e = 2 := he
  have HBN := Lib.hid hc
  clear hc
  replace h := bs_ h
  obtain ⟨⟨u, e⟩, hu, h⟩ := h
  cases u with
  | some t => exact absurd h r17_
  | none =>
  simp only at h
  by_cases he : e = 2 ∧ 40 ≤ s.size ∧ s.size ≤ 140737488351232
  case neg => rw [if_neg he] at h; exact absurd h r17_
  rw [if_pos he] at h
  obtain ⟨rfl, h40, hmx⟩ := he
  have HOQ : Hid (qX.f k (s ++ (⟨#[63]⟩ : ByteArray)) = some (none, 2)) := Lib.hid hu
  have HMID := Lib.hid h
  clear hu h
  generalize wr = W0 at HC HB ⊢
  go_wp2_with (fail)
  refine (qh.calls k A c qf.ls s 0 _ HC.out.2.2 HC.out.2.1 HBD.out).mono ?_
  rintro e x1 ⟨rfl, hb⟩
  have HX1 := Aside0.mk hb
  clear hb HBD
  go_wp2_with (fail)
  refine (qX.calls k s (some (s0, l, fl0, n0)) 0 _ HOP.out).mono ?_
  rintro e x2 ⟨g, w0, rfl, hi, hb0, hsz, hb⟩
  have HI2 := Aside0.mk hi
  have HT2 := Aside0.mk hb0
  have HX2 := Aside0.mk (below_step HX1.out hb)
  have HZ : Hid (W0.heap.size ≤ w0.heap.size) := Lib.hid (Nat.le_trans HX1.out.size hsz)
  clear hi hb0 hsz hb HX1 HOP
  go_wp2_with (fail)
  refine (qh.calls k none 0 [] cs 2 _ (Kd.C_nil _ _) (Nat.le_refl _) HBN.out).mono ?_
  rintro e x3 ⟨rfl, hb⟩
  have HI3 := Aside0.mk (IsS82.below HI2.out hb)
  have HT3 := Aside0.mk (below_step HT2.out hb)
  have HX3 := Aside0.mk (below_step HX2.out hb)
  clear hb HI2 HT2 HX2 HBN
  go_wp2_with (fail)
  refine (qX.calls k (s ++ (⟨#[63]⟩ : ByteArray)) none 2 _ HOQ.out).mono ?_
  rintro e x4 ⟨rfl, hb⟩
  have HI4 := Aside0.mk (IsS82.below HI3.out hb)
  have HT4 := Aside0.mk (below_step HT3.out hb)
  have HX4 := Aside0.mk (below_step HX3.out hb)
  clear hb HI3 HT3 HX3 HOQ
  have hm := HMID.out
  clear HMID
  unfold qf.mid at hm
  replace hm := bs_ hm
  obtain ⟨⟨xa, xb, xc, xd, xe, s1, fl1, n1⟩, hx, hm⟩ := hm
  replace hm := bs_ hm
  obtain ⟨⟨ya, yb, yc, yd, ye, s2, fl2, n2⟩, hy, hm⟩ := hm
  replace hm := bs_ hm
  obtain ⟨⟨za, zb, zc, zd, va, vb, vc, vd, s3, fl3, n3⟩, hz, hm⟩ := hm
  simp only at hx hy hz hm
  by_cases hcc : qf.sm xa xb xc xd (qf.el 2) ∧ xe = true ∧ ye = false ∧ qf.sm za zb zc zd (qf.el 0) ∧ qf.sm va vb vc vd (qf.el 8)
  case neg => rw [if_neg hcc] at hm; exact absurd hm r17_
  rw [if_pos hcc] at hm
  obtain ⟨hc1, rfl, rfl, hc2, hc3⟩ := hcc
  have HGX := Lib.hid hx
  have HGY := Lib.hid hy
  have HEZ := Lib.hid hz
  have HC1 := Lib.hid hc1
  have HC2 := Lib.hid hc2
  have HC3 := Lib.hid hc3
  have HFN := Lib.hid hm
  clear hx hy hz hc1 hc2 hc3 hm
  go_wp2_with (fail)
  refine (qh1.calls k g s0 l fl0 n0 qf.kc 9 xa xb xc xd true s1 fl1 n1 w0 _ HI4.out HT4.out HGX.out).mono ?_
  rintro e x5 ⟨rfl, hi, hb, hk⟩
  have HI5 := Aside0.mk hi
  have HT5 := Aside0.mk hb
  have HX5 := Aside0.mk (HX4.out.trans (qf.bel2 HT4.out hb hk.1 HZ.out))
  clear hi hb hk HI4 HT4 HX4 HGX
  go_upto_region 13 with (fail)
  have BA6 := Aside0.mk (blk_new x5 (.cells #[.string xa, .int .u64 xb, .bool xc, .string xd] 37))
  have HI6 := Aside0.mk (IsS82.alloc HI5.out (.cells #[.string xa, .int .u64 xb, .bool xc, .string xd] 37))
  have HT6 := Aside0.mk (below_alloc HT5.out (.cells #[.string xa, .int .u64 xb, .bool xc, .string xd] 37))
  have HX6 := Aside0.mk (below_alloc HX5.out (.cells #[.string xa, .int .u64 xb, .bool xc, .string xd] 37))
  have HGL := Lib.hid (show g < x5.heap.size by obtain ⟨_, _, hb_, _⟩ := HI5.out; exact blk_lt hb_)
  clear HI5 HT5 HX5
  generalize (x5.alloc (.cells #[.string xa, .int .u64 xb, .bool xc, .string xd] 37)) = x6 at BA6 HI6 HT6 HX6 ⊢
  obtain ⟨ga, hga⟩ : ∃ ga, x5.heap.size = ga := ⟨_, rfl⟩
  rw [hga] at BA6 HGL ⊢
  clear hga
  have HGA : Hid (ga ≠ g) := Lib.hid (by have := HGL.out; omega)
  clear HGL
  go_wp2_with (fail)
  refine (qh1.calls k g s1 l fl1 n1 qf.kc 4 ya yb yc yd false s2 fl2 n2 w0 _ HI6.out HT6.out HGY.out).mono ?_
  rintro e x7 ⟨rfl, hi, hb, hk⟩
  have HI7 := Aside0.mk hi
  have HT7 := Aside0.mk hb
  have HX7 := Aside0.mk (HX6.out.trans (qf.bel2 HT6.out hb hk.1 HZ.out))
  have BA7 := Aside0.mk (hk.blk BA6.out HGA.out r17_)
  clear hi hb hk HI6 HT6 HX6 BA6 HGY
  go_upto_region 14 with (fail)
  have BA8 := Aside0.mk (blk_alloc BA7.out (.cells #[.string ya, .int .u64 yb, .bool yc, .string yd] 37))
  have HI8 := Aside0.mk (IsS82.alloc HI7.out (.cells #[.string ya, .int .u64 yb, .bool yc, .string yd] 37))
  have HT8 := Aside0.mk (below_alloc HT7.out (.cells #[.string ya, .int .u64 yb, .bool yc, .string yd] 37))
  have HX8 := Aside0.mk (below_alloc HX7.out (.cells #[.string ya, .int .u64 yb, .bool yc, .string yd] 37))
  clear HI7 HT7 HX7 BA7
  generalize (x7.alloc (.cells #[.string ya, .int .u64 yb, .bool yc, .string yd] 37)) = x8 at BA8 HI8 HT8 HX8 ⊢
  generalize x7.heap.size = gy
  go_wp2_with (fail)
  refine (qZ.calls k g s2 l fl2 n2 za zb zc zd va vb vc vd s3 fl3 n3 w0 _ HI8.out HT8.out HEZ.out).mono ?_
  rintro e x9 ⟨rfl, hi, hb, hk⟩
  have HI9 := Aside0.mk hi
  have HT9 := Aside0.mk hb
  have HX9 := Aside0.mk (HX8.out.trans (qf.bel2 HT8.out hb hk.1 HZ.out))
  have BA9 := Aside0.mk (hk.blk BA8.out HGA.out r17_)
  clear hi hb hk HI8 HT8 HX8 BA8 HEZ
  go_wp2_with (fail)
  obtain ⟨a1_, a2_, a3_, a4_⟩ := HC1.out
  subst a2_ a3_
  obtain ⟨b1_, b2_, b3_, b4_⟩ := HC2.out
  subst b2_ b3_
  obtain ⟨d1_, d2_, d3_, d4_⟩ := HC3.out
  subst d2_ d3_
  have u1 : (xa.toList == (qf.el 2).f0.toList) = true := beq_iff_eq.mpr a1_
  have u2 : (xd.toList == (qf.el 2).f3.toList) = true := beq_iff_eq.mpr a4_
  have u3 : (za.toList == (qf.el 0).f0.toList) = true := beq_iff_eq.mpr b1_
  have u4 : (zd.toList == (qf.el 0).f3.toList) = true := beq_iff_eq.mpr b4_
  have u5 : (va.toList == (qf.el 8).f0.toList) = true := beq_iff_eq.mpr d1_
  have u6 : (vd.toList == (qf.el 8).f3.toList) = true := beq_iff_eq.mpr d4_
  clear a1_ a4_ b1_ b4_ d1_ d4_ HC1 HC2 HC3
  have BB := Aside0.mk (blk_alloc (blk_new x9 (.cells #[.string za, .int .u64 (qf.el 0).f1, .bool (qf.el 0).f2, .string zd] 37)) (.cells #[.string va, .int .u64 (qf.el 8).f1, .bool (qf.el 8).f2, .string vd] 37))
  have BC0 := blk_new (x9.alloc (.cells #[.string za, .int .u64 (qf.el 0).f1, .bool (qf.el 0).f2, .string zd] 37)) (.cells #[.string va, .int .u64 (qf.el 8).f1, .bool (qf.el 8).f2, .string vd] 37)
  rw [World.size_alloc] at BC0
  have BC := Aside0.mk BC0
  clear BC0
  have BA := Aside0.mk (blk_alloc (blk_alloc BA9.out (.cells #[.string za, .int .u64 (qf.el 0).f1, .bool (qf.el 0).f2, .string zd] 37)) (.cells #[.string va, .int .u64 (qf.el 8).f1, .bool (qf.el 8).f2, .string vd] 37))
  have HI10 := Aside0.mk (IsS82.alloc (IsS82.alloc HI9.out (.cells #[.string za, .int .u64 (qf.el 0).f1, .bool (qf.el 0).f2, .string zd] 37)) (.cells #[.string va, .int .u64 (qf.el 8).f1, .bool (qf.el 8).f2, .string vd] 37))
  have HT10 := Aside0.mk (below_alloc (below_alloc HT9.out (.cells #[.string za, .int .u64 (qf.el 0).f1, .bool (qf.el 0).f2, .string zd] 37)) (.cells #[.string va, .int .u64 (qf.el 8).f1, .bool (qf.el 8).f2, .string vd] 37))
  have HX10 := Aside0.mk (below_alloc (below_alloc HX9.out (.cells #[.string za, .int .u64 (qf.el 0).f1, .bool (qf.el 0).f2, .string zd] 37)) (.cells #[.string va, .int .u64 (qf.el 8).f1, .bool (qf.el 8).f2, .string vd] 37))
  have HGB : Hid (x9.heap.size ≠ g ∧ x9.heap.size + 1 ≠ g) := Lib.hid (by obtain ⟨_, _, hb_, _⟩ := HI9.out; have := blk_lt hb_; omega)
  have HGW : Hid (w0.heap.size ≤ g) := Lib.hid (IsS82.ge HI9.out)
  clear HI9 HT9 HX9 BA9
  generalize ((x9.alloc (.cells #[.string za, .int .u64 (qf.el 0).f1, .bool (qf.el 0).f2, .string zd] 37)).alloc (.cells #[.string va, .int .u64 (qf.el 8).f1, .bool (qf.el 8).f2, .string vd] 37)) = x10 at BA BB BC HI10 HT10 HX10 ⊢
  obtain ⟨gb, hgb⟩ : ∃ gb, x9.heap.size = gb := ⟨_, rfl⟩
  obtain ⟨gc, hgc⟩ : ∃ gc, x9.heap.size + 1 = gc := ⟨_, rfl⟩
  rw [hgc] at BC HGB ⊢
  rw [hgb] at BB HGB ⊢
  clear hgb hgc
  have HLL : Hid (qf.ls.length = 9) := Lib.hid rfl
  obtain ⟨ad, ead, k0, k1, k2, k3⟩ := at_T37 HC.out.2.2 (2 : Int) r24_ r24_
  have hA := ead
  subst ead
  obtain ⟨ad2, e2, l0, l1, l2, l3⟩ := at_T37 HC.out.2.2 (0 : Int) r24_ r24_
  obtain rfl : ad = ad2 := Option.some.inj e2
  obtain ⟨ad3, e3, m0, m1, m2, m3⟩ := at_T37 HC.out.2.2 (8 : Int) r24_ r24_
  obtain rfl : ad = ad3 := Option.some.inj e3
  rw [show rd_T37 qf.ls 2 = qf.el 2 from rfl] at k0 k1 k2 k3
  rw [show rd_T37 qf.ls 0 = qf.el 0 from rfl] at l0 l1 l2 l3
  rw [show rd_T37 qf.ls 8 = qf.el 8 from rfl] at m0 m1 m2 m3
  rw [show Int.toNat 2 * 4 = 8 from rfl] at k0 k1 k2 k3
  rw [show Int.toNat 0 * 4 = 0 from rfl] at l0 l1 l2 l3
  rw [show Int.toNat 8 * 4 = 32 from rfl] at m0 m1 m2 m3
  clear e2 e3 hA
  have hne : ∀ {x : Addr} {z : Value}, W0.cell? x = some z → x.block ≠ g := fun {x z} h e => by have := World.block_lt_of_cell? W0 _ h; have := HZ.out; have := HGW.out; omega
  have mv : ∀ {x : Addr} {z : Value}, W0.cell? x = some z → x10.cell? x = some z ∧ x.block ≠ g := fun {x z} h => ⟨(HX10.out.cell (World.block_lt_of_cell? W0 _ h)).trans h, hne h⟩
  have FK := Aside0.mk (And.intro (mv k0) (And.intro (mv k1) (And.intro (mv k2) (mv k3))))
  have FL := Aside0.mk (And.intro (mv l0) (And.intro (mv l1) (And.intro (mv l2) (mv l3))))
  have FM := Aside0.mk (And.intro (mv m0) (And.intro (mv m1) (And.intro (mv m2) (mv m3))))
  clear k0 k1 k2 k3 l0 l1 l2 l3 m0 m1 m2 m3 hne mv
  have hf := HFN.out
  clear HFN
  unfold qf.fin at hf
  replace hf := bs_ hf
  obtain ⟨⟨f1, s4, fl4, n4⟩, q1, hf⟩ := hf
  by_cases z1 : f1 = 9
  case neg => rw [if_neg z1] at hf; exact absurd hf r17_
  rw [if_pos z1] at hf
  subst z1
  replace hf := bs_ hf
  obtain ⟨⟨f2, s5, fl5, n5⟩, q2, hf⟩ := hf
  by_cases z1 : f2 = 2
  case neg => rw [if_neg z1] at hf; exact absurd hf r17_
  rw [if_pos z1] at hf
  subst z1
  replace hf := bs_ hf
  obtain ⟨⟨f3, s6, fl6, n6⟩, q3, hf⟩ := hf
  by_cases z1 : f3 = 1
  case neg => rw [if_neg z1] at hf; exact absurd hf r17_
  rw [if_pos z1] at hf
  subst z1
  replace hf := bs_ hf
  obtain ⟨⟨f4, s7, fl7, n7⟩, q4, hf⟩ := hf
  by_cases z1 : f4 = 0
  case neg => rw [if_neg z1] at hf; exact absurd hf r17_
  rw [if_pos z1] at hf
  subst z1
  replace hf := bs_ hf
  obtain ⟨⟨la, s8, fl8, n8⟩, q5, hf⟩ := hf
  replace hf := bs_ hf
  obtain ⟨sm_, q6, hf⟩ := hf
  by_cases z1 : sm_ = true
  case neg => rw [if_neg z1] at hf; exact absurd hf r17_
  rw [if_pos z1] at hf
  subst z1
  replace hf := bs_ hf
  obtain ⟨⟨lf, s9, fl9, n9⟩, q7, hf⟩ := hf
  simp only at q1 q2 q3 q4 q5 q6 q7 hf
  by_cases z1 : lf.length = 2 ∧ 8 ≤ s.size ∧ s.size ≤ 140737488351232 ∧ (s.extract (s.size - 8) s.size).toList = [115, 99, 114, 101, 101, 48, 48, 49]
  case neg => rw [if_neg z1] at hf; exact absurd hf r17_
  rw [if_pos z1] at hf
  obtain rfl := Option.some.inj hf
  obtain ⟨z2, z3, z4, z5⟩ := z1
  have sl : ∀ W, (Instr.slice 9 (.string s) (some (.int .i64 (wrap64 ((s.size : Int) - 8)))) none none).run Try.prog W = .ok (.string (s.extract (s.size - 8) s.size)) W := fun W => by
   rw [show wrap64 ((s.size : Int) - 8) = (s.size : Int) - 8 by unfold wrap64; omega, run_slice_string_l W 9 s hu9_ .i64 _ r18_ r18_]
   congr 3; omega
  obtain ⟨ts, hts⟩ : ∃ t, s.extract (s.size - 8) s.size = t := ⟨_, rfl⟩
  rw [hts] at sl z5
  have u7 : (ts.toList == [115, 99, 114, 101, 101, 48, 48, 49]) = true := beq_iff_eq.mpr z5
  have u8 : ((lf.length : Int) == 2) = true := beq_iff_eq.mpr r18_
  have Q1 := Lib.hid q1
  have Q2 := Lib.hid q2
  have Q3 := Lib.hid q3
  have Q4 := Lib.hid q4
  have Q5 := Lib.hid q5
  have Q6 := Lib.hid q6
  have Q7 := Lib.hid q7
  clear q1 q2 q3 q4 q5 q6 q7 hf z5 hts hu9_ hus_ hu5_
  have i2_ : ((2 : Int) < (qf.ls.length : Int)) = True := eq_true (by rw [HLL.out]; decide)
  have i8_ : ((8 : Int) < (qf.ls.length : Int)) = True := eq_true (by rw [HLL.out]; decide)
  have i0_ : ((0 : Int) < (qf.ls.length : Int)) = True := eq_true (by rw [HLL.out]; decide)
  have j2_ : (2 < qf.ls.length) = True := eq_true (by rw [HLL.out]; decide)
  have j8_ : (8 < qf.ls.length) = True := eq_true (by rw [HLL.out]; decide)
  have j0_ : (0 < qf.ls.length) = True := eq_true (by rw [HLL.out]; decide)
  have h1x := Lib.hid (And.intro z2 (And.intro z3 z4))
  refine start_ (n := 83) (S := fun w' => ∀ (x : Addr) (z : Value), x10.cell? x = some z → x.block ≠ g → w'.cell? x = some z) (ds := []) #[N,N,N,N,N,N,N,N,N,N,N,N,N,N,N,N,N,N,N,N,N,N,N,N,N,N,N,N,N,N,N,N,N,N,N,N,N,N,N,N,N,N,N,N,N,N,N,N,N,N,N,N,N,N,N,N,N,N,N,N,N,N,N,N,N,N,N,N,N,N,N,N,N,N,N,N,N,N,N,N,N,N,N] r2_ rfl rfl (fun x z h _ => h) (fun hHeld => ?_)
  refine with_tabW qf.tab15 qf.bits15 (fun HT_ HW_ => ?_)
  have HI11 : Aside0 (IsS82 w0 x10.drew g s3 l fl3 n3) := ⟨IsS82.drew HI10.out⟩
  have HT11 : Aside0 (Below w0.heap.size w0 x10.drew) := ⟨below_drew1 HT10.out⟩
  have HX11 : Aside0 (Below W0.heap.size W0 x10.drew) := ⟨below_drew1 HX10.out⟩
  clear HI10 HT10 HX10
  generalize x10.drew = x11 at HI11 HT11 HX11 hHeld ⊢
  refine pu_ 0 (some 78) (mk_ 83 1) (any_of HT_.out r2_) ?_
  refine pu_ 1 (some 79) (mk_ 83 3) (any_of HT_.out r2_) ?_
  refine pu_ 2 (some 80) (mk_ 83 7) (any_of HT_.out r2_) ?_
  refine pu_ 3 (some 81) (mk_ 83 15) (any_of HT_.out r2_) ?_
  refine pu_ 4 (some 82) (mk_ 83 31) (any_of HT_.out r2_) ?_
  refine pu_ 5 (some 83) (mk_ 83 63) (any_of HT_.out r2_) ?_
  refine pu_ 6 (some 84) (mk_ 83 127) (any_of HT_.out r2_) ?_
  refine pu_ 7 (some 85) (mk_ 83 255) (any_of HT_.out r2_) ?_
  refine pu_ 8 (some 86) (mk_ 83 511) (any_of HT_.out r2_) ?_
  refine pu_ 9 (some 87) (mk_ 83 1023) (any_of HT_.out r2_) ?_
  refine pu_ 10 (some 88) (mk_ 83 2047) (any_of HT_.out r2_) ?_
  refine pu_ 11 (some 89) (mk_ 83 4095) (any_of HT_.out r2_) ?_
  refine pu_ 12 (some 90) (mk_ 83 8191) (any_of HT_.out r2_) ?_
  refine pu_ 13 (some 91) (mk_ 83 16383) (any_of HT_.out r2_) ?_
  refine pu_ 14 (some 92) (mk_ 83 32767) (any_of HT_.out r2_) ?_
  refine tk_ (v := ?_) 15 (some 93) (mk_ 83 65535) (take_ofW HT_.out HW_.out r2_) hHeld ?_ ?_
  rotate_left
  ·intro w' hS_
   have c0_ := hS_ _ _ ((blk_cell BA.out 0).trans rfl) HGA.out
   have c1_ := hS_ _ _ ((blk_cell BA.out 1).trans rfl) HGA.out
   have c2_ := hS_ _ _ ((blk_cell BA.out 2).trans rfl) HGA.out
   have c3_ := hS_ _ _ ((blk_cell BA.out 3).trans rfl) HGA.out
   go_simp
   with_reducible rfl
  refine pu_ 16 (some 94) (mk_ 83 131071) (any_of HT_.out r2_) ?_
  refine pu_ 17 (some 95) (mk_ 83 262143) (any_of HT_.out r2_) ?_
  refine tk_ (v := ?_) 18 (some 96) (mk_ 83 524287) (take_ofW HT_.out HW_.out r2_) hHeld ?_ ?_
  rotate_left
  ·intro w' hS_
   have c0_ := hS_ _ _ FK.out.1.1 FK.out.1.2
   have c1_ := hS_ _ _ FK.out.2.1.1 FK.out.2.1.2
   have c2_ := hS_ _ _ FK.out.2.2.1.1 FK.out.2.2.1.2
   have c3_ := hS_ _ _ FK.out.2.2.2.1 FK.out.2.2.2.2
   (simp [Addr.add] at c0_ c1_ c2_ c3_)
   go_simp
   with_reducible rfl
  refine pu_ 19 (some 97) (mk_ 83 1048575) (any_of HT_.out r2_) ?_
  refine pu_ 20 (some 98) (mk_ 83 2097151) (any_of HT_.out r2_) ?_
  refine pu_ 21 (some 99) (mk_ 83 4194303) (any_of HT_.out r2_) ?_
  refine pu_ 22 (some 100) (mk_ 83 8388607) (any_of HT_.out r2_) ?_
  refine pu_ 23 (some 101) (mk_ 83 16777215) (any_of HT_.out r2_) ?_
  refine pu_ 24 (some 102) (mk_ 83 33554431) (any_of HT_.out r2_) ?_
  refine pu_ 25 (some 103) (mk_ 83 67108863) (any_of HT_.out r2_) ?_
  refine pu_ 26 (some 104) (mk_ 83 134217727) (any_of HT_.out r2_) ?_
  refine pu_ 27 (some 105) (mk_ 83 268435455) (any_of HT_.out r2_) ?_
  refine pu_ 28 (some 106) (mk_ 83 536870911) (any_of HT_.out r2_) ?_
  refine tk_ (v := ?_) 29 (some 107) (mk_ 83 1073741823) (take_ofW HT_.out HW_.out r2_) hHeld ?_ ?_
  rotate_left
  ·intro w' hS_
   have c0_ := hS_ _ _ ((blk_cell BB.out 0).trans rfl) HGB.out.1
   have c1_ := hS_ _ _ ((blk_cell BB.out 1).trans rfl) HGB.out.1
   have c2_ := hS_ _ _ ((blk_cell BB.out 2).trans rfl) HGB.out.1
   have c3_ := hS_ _ _ ((blk_cell BB.out 3).trans rfl) HGB.out.1
   go_simp
   with_reducible rfl
  refine pu_ 30 (some 108) (mk_ 83 2147483647) (any_of HT_.out r2_) ?_
  refine pu_ 31 (some 109) (mk_ 83 4294967295) (any_of HT_.out r2_) ?_
  refine tk_ (v := ?_) 32 (some 110) (mk_ 83 8589934591) (take_ofW HT_.out HW_.out r2_) hHeld ?_ ?_
  rotate_left
  ·intro w' hS_
   have c0_ := hS_ _ _ FL.out.1.1 FL.out.1.2
   have c1_ := hS_ _ _ FL.out.2.1.1 FL.out.2.1.2
   have c2_ := hS_ _ _ FL.out.2.2.1.1 FL.out.2.2.1.2
   have c3_ := hS_ _ _ FL.out.2.2.2.1 FL.out.2.2.2.2
   (simp [Addr.add] at c0_ c1_ c2_ c3_)
   go_simp
   with_reducible rfl
  refine pu_ 33 (some 111) (mk_ 83 17179869183) (any_of HT_.out r2_) ?_
  refine pu_ 34 (some 112) (mk_ 83 34359738367) (any_of HT_.out r2_) ?_
  refine pu_ 35 (some 113) (mk_ 83 68719476735) (any_of HT_.out r2_) ?_
  refine tk_ (v := ?_) 36 (some 114) (mk_ 83 137438953471) (take_ofW HT_.out HW_.out r2_) hHeld ?_ ?_
  rotate_left
  ·intro w' hS_
   have c0_ := hS_ _ _ ((blk_cell BC.out 0).trans rfl) HGB.out.2
   have c1_ := hS_ _ _ ((blk_cell BC.out 1).trans rfl) HGB.out.2
   have c2_ := hS_ _ _ ((blk_cell BC.out 2).trans rfl) HGB.out.2
   have c3_ := hS_ _ _ ((blk_cell BC.out 3).trans rfl) HGB.out.2
   go_simp
   with_reducible rfl
  refine pu_ 37 (some 115) (mk_ 83 274877906943) (any_of HT_.out r2_) ?_
  refine pu_ 38 (some 116) (mk_ 83 549755813887) (any_of HT_.out r2_) ?_
  refine tk_ (v := ?_) 39 (some 117) (mk_ 83 1099511627775) (take_ofW HT_.out HW_.out r2_) hHeld ?_ ?_
  rotate_left
  ·intro w' hS_
   have c0_ := hS_ _ _ FM.out.1.1 FM.out.1.2
   have c1_ := hS_ _ _ FM.out.2.1.1 FM.out.2.1.2
   have c2_ := hS_ _ _ FM.out.2.2.1.1 FM.out.2.2.1.2
   have c3_ := hS_ _ _ FM.out.2.2.2.1 FM.out.2.2.2.2
   (simp [Addr.add] at c0_ c1_ c2_ c3_)
   go_simp
   with_reducible rfl
  refine pu_ 40 (some 118) (mk_ 83 2199023255551) (any_of HT_.out r2_) ?_
  refine pu_ 41 (some 119) (mk_ 83 4398046511103) (any_of HT_.out r2_) ?_
  refine pu_ 42 (some 120) (mk_ 83 8796093022207) (any_of HT_.out r2_) ?_
  refine pu_ 43 (some 121) (mk_ 83 17592186044415) (any_of HT_.out r2_) ?_
  refine one_ (i := 44) (N := some 122) (mk_ 83 35184372088831) rfl rfl (one_of HT_.out r2_) r24_ (fun K hK => ?_)
  refine goes_ Try.func25 r2_ rfl #[.pointer (some ⟨g, 0, none⟩)] r37_ rfl rfl r9_ ?_
  refine (qs1.calls g s3 l fl3 n3 9 s4 fl4 n4 w0 _ HI11.out HT11.out Q1.out).mono ?_
  rintro e x12 ⟨rfl, hi, hb, hk⟩
  refine ⟨_, rfl, ?_⟩

  have HI12 := Aside0.mk hi
  have HT12 := Aside0.mk hb
  have HX12 := Aside0.mk (HX11.out.trans (qf.bel2 HT11.out hb hk.1 HZ.out))
  refine hK.out _ _ (fun x z h hne => keep_cell hk (hHeld x z h hne) hne) (fun hHeld => ?_)
  clear hi hb hk hK K HI11 HT11 HX11
  refine nm_ (some 122) ?_
  refine pu_ 45 (some 123) (mk_ 83 70368744177663) (any_of HT_.out r2_) ?_
  refine pu_ 46 (some 124) (mk_ 83 140737488355327) (any_of HT_.out r2_) ?_
  refine pu_ 47 (some 125) (mk_ 83 281474976710655) (any_of HT_.out r2_) ?_
  refine pu_ 48 (some 126) (mk_ 83 562949953421311) (any_of HT_.out r2_) ?_
  refine one_ (i := 49) (N := some 127) (mk_ 83 1125899906842623) rfl rfl (one_of HT_.out r2_) r24_ (fun K hK => ?_)
  refine goes_ Try.func26 r2_ rfl #[.pointer (some ⟨g, 0, none⟩)] r37_ rfl rfl r9_ ?_
  refine (qn1.calls g s4 l fl4 n4 2 s5 fl5 n5 w0 _ HI12.out HT12.out Q2.out).mono ?_
  rintro e x13 ⟨rfl, hi, hb, hk⟩
  refine ⟨_, rfl, ?_⟩

  have HI13 := Aside0.mk hi
  have HT13 := Aside0.mk hb
  have HX13 := Aside0.mk (HX12.out.trans (qf.bel2 HT12.out hb hk.1 HZ.out))
  refine hK.out _ _ (fun x z h hne => keep_cell hk (hHeld x z h hne) hne) (fun hHeld => ?_)
  clear hi hb hk hK K HI12 HT12 HX12
  refine nm_ (some 127) ?_
  refine pu_ 50 (some 128) (mk_ 83 2251799813685247) (any_of HT_.out r2_) ?_
  refine pu_ 51 (some 129) (mk_ 83 4503599627370495) (any_of HT_.out r2_) ?_
  refine pu_ 52 (some 130) (mk_ 83 9007199254740991) (any_of HT_.out r2_) ?_
  refine pu_ 53 (some 131) (mk_ 83 18014398509481983) (any_of HT_.out r2_) ?_
  refine one_ (i := 54) (N := some 132) (mk_ 83 36028797018963967) rfl rfl (one_of HT_.out r2_) r24_ (fun K hK => ?_)
  refine goes_ Try.func20 r2_ rfl #[.pointer (some ⟨g, 0, none⟩), .string ⟨#[107, 99]⟩, .int .u64 9] r37_ rfl rfl r9_ ?_
  refine (qU.calls k g s5 l fl5 n5 qf.kc 9 1 s6 fl6 n6 w0 _ HI13.out HT13.out Q3.out).mono ?_
  rintro e x14 ⟨rfl, hi, hb, hk⟩
  refine ⟨_, rfl, ?_⟩

  have HI14 := Aside0.mk hi
  have HT14 := Aside0.mk hb
  have HX14 := Aside0.mk (HX13.out.trans (qf.bel2 HT13.out hb hk.1 HZ.out))
  refine hK.out _ _ (fun x z h hne => keep_cell hk (hHeld x z h hne) hne) (fun hHeld => ?_)
  clear hi hb hk hK K HI13 HT13 HX13
  refine nm_ (some 132) ?_
  refine pu_ 55 (some 133) (mk_ 83 72057594037927935) (any_of HT_.out r2_) ?_
  refine pu_ 56 (some 134) (mk_ 83 144115188075855871) (any_of HT_.out r2_) ?_
  refine pu_ 57 (some 135) (mk_ 83 288230376151711743) (any_of HT_.out r2_) ?_
  refine pu_ 58 (some 136) (mk_ 83 576460752303423487) (any_of HT_.out r2_) ?_
  refine one_ (i := 59) (N := some 137) (mk_ 83 1152921504606846975) rfl rfl (one_of HT_.out r2_) r24_ (fun K hK => ?_)
  refine goes_ Try.func20 r2_ rfl #[.pointer (some ⟨g, 0, none⟩), .string ⟨#[122]⟩, .int .u64 9] r37_ rfl rfl r9_ ?_
  refine (qU.calls k g s6 l fl6 n6 ⟨#[122]⟩ 9 0 s7 fl7 n7 w0 _ HI14.out HT14.out Q4.out).mono ?_
  rintro e x15 ⟨rfl, hi, hb, hk⟩
  refine ⟨_, rfl, ?_⟩

  have HI15 := Aside0.mk hi
  have HT15 := Aside0.mk hb
  have HX15 := Aside0.mk (HX14.out.trans (qf.bel2 HT14.out hb hk.1 HZ.out))
  refine hK.out _ _ (fun x z h hne => keep_cell hk (hHeld x z h hne) hne) (fun hHeld => ?_)
  clear hi hb hk hK K HI14 HT14 HX14
  refine nm_ (some 137) ?_
  refine pu_ 60 (some 138) (mk_ 83 2305843009213693951) (any_of HT_.out r2_) ?_
  refine pu_ 61 (some 139) (mk_ 83 4611686018427387903) (any_of HT_.out r2_) ?_
  refine pu_ 62 (some 140) (mk_ 83 9223372036854775807) (any_of HT_.out r2_) ?_
  refine pu_ 63 (some 141) (mk_ 83 18446744073709551615) (any_of HT_.out r2_) ?_
  refine pu_ 65 (some 143) (mk_ 83 55340232221128654847) (any_of HT_.out r2_) ?_
  refine one_ (i := 64) (N := some 142) (mk_ 83 73786976294838206463) rfl rfl (one_of HT_.out r2_) r24_ (fun K hK => ?_)
  refine goes_ Try.func22 r2_ rfl #[.pointer (some ⟨g, 0, none⟩)] r37_ rfl rfl r9_ ?_
  refine (qa1.calls k g s7 l fl7 n7 la s8 fl8 n8 w0 _ HI15.out HT15.out Q5.out).mono ?_
  rintro e x16 ⟨v0_, rfl, hr, hi, hb, hk⟩
  refine ⟨_, rfl, ?_⟩
  obtain ⟨AA, cA, eA⟩ := Kd.R_slice hr
  subst eA
  have HRA := Aside0.mk (Kd.R_reads' hr)
  clear hr
  have HI16 := Aside0.mk hi
  have HT16 := Aside0.mk hb
  have HX16 := Aside0.mk (HX15.out.trans (qf.bel2 HT15.out hb hk.1 HZ.out))
  refine hK.out _ _ (fun x z h hne => keep_cell hk (hHeld x z h hne) hne) (fun hHeld => ?_)
  clear hi hb hk hK K HI15 HT15 HX15
  refine nm_ (some 142) ?_
  refine one_ (i := 66) (N := some 144) (mk_ 83 147573952589676412927) rfl rfl (one_of HT_.out r2_) r24_ (fun K hK => ?_)
  refine goes_ Try.func14 r2_ rfl #[.slice AA la.length cA, .slice (some ad) qf.ls.length c] r37_ rfl rfl r9_ ?_
  refine (qH.calls k AA cA la (some ad) c qf.ls true _ HRA.out.2.2 HRA.out.2.1 (Kd.C_below HC.out.2.2 HX16.out) HC.out.2.1 Q6.out).mono ?_
  rintro e x17 ⟨rfl, hd⟩
  refine ⟨_, rfl, ?_⟩
  have hb0 := hd.below
  have hi := IsS82.below HI16.out hb0
  have hb := below_step HT16.out hb0
  have hk := KeepBut.of_below hb0 g none
  clear hb0 HRA
  have HI17 := Aside0.mk hi
  have HT17 := Aside0.mk hb
  have HX17 := Aside0.mk (HX16.out.trans (qf.bel2 HT16.out hb hk.1 HZ.out))
  refine hK.out _ _ (fun x z h hne => keep_cell hk (hHeld x z h hne) hne) (fun hHeld => ?_)
  clear hi hb hk hK K HI16 HT16 HX16
  refine nm_ (some 144) ?_
  refine pu_ 67 (some 145) (mk_ 83 295147905179352825855) (any_of HT_.out r2_) ?_
  refine pu_ 68 (some 146) (mk_ 83 590295810358705651711) (any_of HT_.out r2_) ?_
  refine pu_ 69 (some 147) (mk_ 83 1180591620717411303423) (any_of HT_.out r2_) ?_
  refine one_ (i := 70) (N := some 148) (mk_ 83 2361183241434822606847) rfl rfl (one_of HT_.out r2_) r24_ (fun K hK => ?_)
  refine goes_ Try.func23 r2_ rfl #[.pointer (some ⟨g, 0, none⟩), .string ⟨#[107, 104]⟩, .int .i64 9] r37_ rfl rfl r9_ ?_
  refine (qG.calls k g s8 l fl8 n8 ⟨#[107, 104]⟩ 9 lf s9 fl9 n9 w0 _ HI17.out HT17.out Q7.out).mono ?_
  rintro e x18 ⟨v0_, rfl, hr, hi, hb, hk⟩
  refine ⟨_, rfl, ?_⟩
  obtain ⟨AF, cF, eF, _⟩ := Kd.Q_slice hr
  subst eF
  clear hr
  have hmx8 := h1x.out.2.1
  have hmx9 := h1x.out.2.2
  have HI18 := Aside0.mk hi
  have HT18 := Aside0.mk hb
  have HX18 := Aside0.mk (HX17.out.trans (qf.bel2 HT17.out hb hk.1 HZ.out))
  refine hK.out _ _ (fun x z h hne => keep_cell hk (hHeld x z h hne) hne) (fun hHeld => ?_)
  clear hi hb hk hK K HI17 HT17 HX17
  refine nm_ (some 148) ?_
  refine pu_ 71 (some 149) (mk_ 83 4722366482869645213695) (any_of HT_.out r2_) ?_
  refine pu_ 72 (some 150) (mk_ 83 9444732965739290427391) (any_of HT_.out r2_) ?_
  refine pu_ 73 (some 151) (mk_ 83 18889465931478580854783) (any_of HT_.out r2_) ?_
  refine pu_ 74 (some 152) (mk_ 83 37778931862957161709567) (any_of HT_.out r2_) ?_
  refine pu_ 75 (some 153) (mk_ 83 75557863725914323419135) (any_of HT_.out r2_) ?_
  refine pu_ 76 (some 154) (mk_ 83 151115727451828646838271) (any_of HT_.out r2_) ?_
  refine pu_ 77 (some 155) (mk_ 83 302231454903657293676543) (any_of HT_.out r2_) ?_
  refine pu_ 78 (some 156) (mk_ 83 604462909807314587353087) (any_of HT_.out r2_) ?_
  refine pu_ 79 (some 157) (mk_ 83 1208925819614629174706175) (any_of HT_.out r2_) ?_
  refine pu_ 80 (some 158) (mk_ 83 2417851639229258349412351) (any_of HT_.out r2_) ?_
  refine pu_ 81 (some 159) (mk_ 83 4835703278458516698824703) (any_of HT_.out r2_) ?_
  refine pu_ 82 (some 0) (mk_ 83 9671406556917033397649407) (any_of HT_.out r2_) ?_
  refine done_ (done_of HT_.out r2_) ?_
  (try clear hHeld)
  (try clear hHeld)
  go_wp2
  go_ret
  exact ⟨rfl, below_step HB.out HX18.out⟩

end Go.Proofs.Ytgdkikkjaofbfaa.P
