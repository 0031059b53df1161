-- Printed by a program of this session's own (wip/tools/pprint.sh, over the kit's print, with given contracts): not typed by hand.
import Derived.Test.YtgdkikkjaofbfaaPx0
import Derived.Test.YtgdkikkjaofbfaaPx7
import Derived.Test.YtgdkikkjaofbfaaPx9
import Derived.Test.YtgdkikkjaofbfaaPx10
import Derived.Test.YtgdkikkjaofbfaaPx11
import Derived.Test.YtgdkikkjaofbfaaPx12
import Derived.Test.YtgdkikkjaofbfaaPx13
import Derived.Test.YtgdkikkjaofbfaaPx14
import Derived.Test.YtgdkikkjaofbfaaPx22
import Derived.Test.YtgdkikkjaofbfaaPx23
namespace Go.Proofs.Ytgdkikkjaofbfaa.P
open Go.RowKit Go.Proofs.YtgdkikkjaofbfaaW.PrintWords Go.Proofs.YtgdkikkjaofbfaaW.PrintLast Go.Proofs.YtgdkikkjaofbfaaW.PrintMore
attribute [local go_sem] max2_int min2_int max_two min_two max_three min_three max_four min_four   -- for this text's walks alone
set_option linter.unusedVariables false
set_option linter.unusedSimpArgs false
-- SQUEEZED4
-- SQUEEZED3

/-! ### qj: function 4 -/
-- needs NS37DS 16 18 21 24
def qj.sm (a0 : ByteArray) (a1 : Int) (a2 : Bool) (a3 : ByteArray) (x : S37) : Prop := a0.toList = x.f0.toList ∧ a1 = x.f1 ∧ a2 = x.f2 ∧ a3.toList = x.f3.toList
instance qj.sm_dec (a0 : ByteArray) (a1 : Int) (a2 : Bool) (a3 : ByteArray) (x : S37) : Decidable (qj.sm a0 a1 a2 a3 x) := by unfold qj.sm; exact inferInstance
abbrev qj.at (l : List (S37)) (j : Nat) : S37 := rd_T37 l (j : Int)
def qj.K3 (k : Nat) (l : List (S37)) (key : ByteArray) (n : Int) (H : List (S80)) (s : ByteArray) (fl : ByteArray) (nn : Int) : Option Bool :=
 (qa1.f k s H fl nn).bind fun a => (qH.f k a.1 l).bind fun m => if m = true then (qG.f k a.2.1 H a.2.2.1 a.2.2.2 key n).bind fun b => (qH.f k b.1 (qK.f l key n)).bind fun m => if m = true then
  (qs1.f b.2.1 H b.2.2.1 b.2.2.2).bind fun c => if c.1 = (l.length : Int) then (qn1.f c.2.1 H c.2.2.1 c.2.2.2).bind fun d => if d.1 = Int.tdiv ((l.length : Int) + 7) 8 then some true else none else none else none else none
def qj.K (k : Nat) (l : List (S37)) (F key : ByteArray) (seq n : Int) (t : ByteArray × List (S80) × ByteArray × Int) : Option Bool :=
 (qh1.f k t.1 t.2.1 t.2.2.1 t.2.2.2 key seq).bind fun x => if x.1.toList = (qx.f l key seq).1.toList ∧ x.2.1 = (qx.f l key seq).2.1 ∧ x.2.2.1 = (qx.f l key seq).2.2.1 ∧ x.2.2.2.1.toList = (qx.f l key seq).2.2.2.1.toList ∧ x.2.2.2.2.1 = (qx.f l key seq).2.2.2.2 then
  (qZ.f k x.2.2.2.2.2.1 t.2.1 x.2.2.2.2.2.2.1 x.2.2.2.2.2.2.2).bind fun z => if qj.sm z.1 z.2.1 z.2.2.1 z.2.2.2.1 (qj.at l 0) ∧ qj.sm z.2.2.2.2.1 z.2.2.2.2.2.1 z.2.2.2.2.2.2.1 z.2.2.2.2.2.2.2.1 (qj.at l (l.length - 1)) then
   (qU.f k z.2.2.2.2.2.2.2.2.1 t.2.1 z.2.2.2.2.2.2.2.2.2.1 z.2.2.2.2.2.2.2.2.2.2 key seq).bind fun c => (qj1.f k l F key seq).bind fun d => if c.1 = d then qj.K3 k l key n t.2.1 c.2.1 c.2.2.1 c.2.2.2 else none else none else none
def qj.two (k : Nat) (key : ByteArray) (seq n : Int) : Option (ByteArray × List (S80) × ByteArray × Int) × Int → Option (List (S37) × ByteArray) × Int → Option Bool
 | (none, e), (none, f) => if e = f then some true else none
 | (some t, e), (some r, f) => if e = f ∧ 0 < r.1.length ∧ r.1.length < 1000000 then qj.K k r.1 r.2 key seq n t else none
 | _, _ => none
def qj.f (k : Nat) (a0 a1 : ByteArray) (a2 a3 : Int) : Option Bool :=
 (qf.f k).bind fun t => if t = true then (if (16384 < (a0.size : Int)) ∨ (300 < (a1.size : Int)) then some true else (qX.f k a0).bind fun o => (qd1.f k a0).bind fun r => qj.two k a1 a2 a3 o r) else none
theorem qj.bel2 {B : Nat} {w0 a b : World} (h : Below w0.heap.size w0 a) (h2 : Below w0.heap.size w0 b) (hs : a.heap.size ≤ b.heap.size) (hB : B ≤ w0.heap.size) : Below B a b :=
 ⟨h2.os.trans h.os.symm, h2.tape.trans h.tape.symm, h2.output.trans h.output.symm, hs, fun k hk => (h2.block k r18_).trans (h.block k r18_).symm⟩
/-- What stands beside the table: boxes, and the reference's row. -/
structure qj.In (w w0 x : World) (g base : Nat) (A : Option Addr) (c : Nat) (l : List (S37)) (B : List (Nat × Obj)) : Prop where
 z : w.heap.size ≤ w0.heap.size
 g_ : g < x.heap.size
 t : Below w0.heap.size w0 x
 wx : Below w.heap.size w x
 b : ∀ p ∈ B, x.heap[p.1]? = some p.2 ∧ p.1 ≠ g
 r : Kd.R k37 37 x base (fun k => k ≠ g) (.slice A l.length c) l
section
variable {w w0 x x' : World} {g base : Nat} {A : Option Addr} {c : Nat} {l : List (S37)} {B : List (Nat × Obj)}
theorem qj.In.below (h : qj.In w w0 x g base A c l B) (hb : Below x.heap.size x x') : qj.In w w0 x' g base A c l B :=
 ⟨h.z, Nat.lt_of_lt_of_le h.g_ hb.size, below_step h.t hb, below_step h.wx hb, fun p hp => ⟨blk_below (h.b p hp).1 hb, (h.b p hp).2⟩, Kd.R_below h.r hb⟩
theorem qj.In.keep (h : qj.In w w0 x g base A c l B) (hb : Below w0.heap.size w0 x') (hk : KeepBut x x' g none) : qj.In w w0 x' g base A c l B :=
 ⟨h.z, Nat.lt_of_lt_of_le h.g_ hk.1, hb, h.wx.trans (qj.bel2 h.t hb hk.1 h.z), fun p hp => ⟨hk.blk (h.b p hp).1 (h.b p hp).2 r17_, (h.b p hp).2⟩, Kd.R_keep h.r hk (fun _ e => e)⟩
theorem qj.In.new (h : qj.In w w0 x g base A c l B) (cs : Array Value) (t : TypeId) : qj.In w w0 (x.alloc (.cells cs t)) g base A c l ((x.heap.size, .cells cs t) :: B) := by
 have h2 := h.below (below_alloc (Below.refl x.heap.size x) (.cells cs t))
 refine ⟨h2.z, h2.g_, h2.t, h2.wx, fun p hp => ?_, h2.r⟩
 rcases List.mem_cons.1 hp with rfl | hp
 ·exact ⟨blk_new x _, fun e => Nat.lt_irrefl _ (e ▸ h.g_)⟩
 ·exact h2.b p hp
theorem qj.In.row {ad : Addr} (h : qj.In w w0 x g base (some ad) c l B) (i : Nat) (hi : i < l.length) :
  x.cell? (ad.add (i * 4)) = some (.string (rd_T37 l (i : Int)).f0) ∧ x.cell? ⟨(ad.add (i * 4)).block, (ad.add (i * 4)).off + 1, none⟩ = some (.int .u64 (rd_T37 l (i : Int)).f1) ∧ x.cell? ⟨(ad.add (i * 4)).block, (ad.add (i * 4)).off + 2, none⟩ = some (.bool (rd_T37 l (i : Int)).f2) ∧ x.cell? ⟨(ad.add (i * 4)).block, (ad.add (i * 4)).off + 3, none⟩ = some (.string (rd_T37 l (i : Int)).f3) := by
 obtain ⟨ad2, e, c0, c1, c2, c3⟩ := at_T37 (Kd.R_reads' h.r).2.2 (i : Int) r18_ r18_
 obtain rfl : ad = ad2 := Option.some.inj e
 rw [Int.toNat_natCast] at c0 c1 c2 c3
 exact ⟨c0, c1, c2, c3⟩
theorem qj.In.mem (h : qj.In w w0 x g base A c l B) (n : Nat) (ob : Obj) (hm : (n, ob) ∈ B) : x.heap[n]? = some ob := (h.b _ hm).1
end
def qj.T14 : Bool × List (List Nat × List Nat) := (true, [([], []), ([], []), ([0, 1], [0, 1]), ([2], [2]), ([3], [3]), ([3], [3]), ([4, 5, 3], [3, 4, 5]), ([3, 6], [3, 6]), ([7, 3], [7]), ([8], [8]), ([8], [8]), ([8], [8]), ([9, 10, 11, 8, 8], [8, 9, 10, 11]), ([8], [8]), ([8], [8]), ([8], [8]), ([13, 14, 15, 12, 8], [8, 13, 14, 15]), ([12, 16, 8], [8, 12, 16]), ([8, 17], [8, 17]), ([18, 16], [18]), ([19], [19]), ([20, 19, 19], [19, 20]), ([19], [19]), ([22, 19], [19, 22]), ([23, 19], [19, 23]), ([24, 19], [19, 24]), ([21, 25, 21, 19], [19, 21, 25]), ([19, 26], [19, 26]), ([27, 26], [27]), ([28], [28]), ([28], [28]), ([28], [28]), ([29, 30, 31, 28, 28], [28, 29, 30, 31]), ([28], [28]), ([28], [28]), ([28], [28]), ([33, 34, 35, 32, 28], [28, 33, 34, 35]), ([32, 36, 36, 28], [28, 32, 36]), ([28, 37], [28, 37]), ([38, 37], [38]), ([39], [39]), ([39], [39]), ([41, 39], [39, 41]), ([42, 39], [39, 42]), ([43, 39], [39, 43]), ([44, 39], [39, 44]), ([45, 39], [39, 45]), ([40, 46, 39], [39, 40, 46]), ([39, 47], [39, 47]), ([48, 39], [48]), ([49], [49]), ([49], [49]), ([51, 49], [49, 51]), ([52, 49], [49, 52]), ([53, 49], [49, 53]), ([49], [49]), ([55, 49], [49, 55]), ([56, 49], [49, 56]), ([57, 49], [49, 57]), ([58, 49], [49, 58]), ([59, 49], [49, 59]), ([54, 60, 49], [49, 54, 60]), ([61, 49], [49, 61]), ([50, 62, 49], [49, 50, 62]), ([49, 63], [49, 63]), ([64, 49], [64]), ([65], [65]), ([66, 65, 65], [65, 66]), ([65], [65]), ([68, 65], [65, 68]), ([69, 65], [65, 69]), ([70, 65], [65, 70]), ([71, 65], [65, 71]), ([67, 72, 65], [65, 67, 72]), ([65, 73], [65, 73]), ([74, 67], [74]), ([75], [75]), ([76, 75, 75], [75, 76]), ([75], [75]), ([78, 75], [75, 78]), ([79, 75], [75, 79]), ([80, 75], [75, 80]), ([81, 75], [75, 81]), ([82, 75], [75, 82]), ([83, 75], [75, 83]), ([77, 84, 75], [75, 77, 84]), ([75, 85], [75, 85]), ([86, 77, 0, 1, 2, 3, 4, 5, 6, 7, 8, 9, 10, 11, 12, 13, 14, 15, 16, 17, 18, 19, 20, 21, 22, 23, 24, 25, 26, 27, 28, 29, 30, 31, 32, 33, 34, 35, 36, 37, 38, 39, 40, 41, 42, 43, 44, 45, 46, 47, 48, 49, 50, 51, 52, 53, 54, 55, 56, 57, 58, 59, 60, 61, 62, 63, 64, 65, 66, 67, 68, 69, 70, 71, 72, 73, 74, 75, 76, 77, 78, 79, 80, 81, 82, 83, 84, 85, 86], [86])])
def qj.B14 : List Nat := [0, 0, 3, 7, 15, 15, 63, 127, 255, 511, 511, 511, 4095, 511, 511, 511, 65535, 131071, 262143, 524287, 1048575, 2097151, 1048575, 5242879, 13631487, 30408703, 67108863, 134217727, 268435455, 536870911, 536870911, 536870911, 4294967295, 536870911, 536870911, 536870911, 68719476735, 137438953471, 274877906943, 549755813887, 1099511627775, 1099511627775, 3298534883327, 7696581394431, 16492674416639, 34084860461055, 69269232549887, 140737488355327, 281474976710655, 562949953421311, 1125899906842623, 1125899906842623, 3377699720527871, 7881299347898367, 16888498602639359, 1125899906842623, 37154696925806591, 109212290963734527, 253327479039590399, 541557855191302143, 1118018607494725631, 2304717109306851327, 4610560118520545279, 9223372036854775807, 18446744073709551615, 36893488147419103231, 73786976294838206463, 147573952589676412927, 73786976294838206463, 368934881474191032319, 959230691832896684031, 2139822312550307987455, 4501005553985130594303, 9444732965739290427391, 18889465931478580854783, 37778931862957161709567, 75557863725914323419135, 151115727451828646838271, 75557863725914323419135, 377789318629571617095679, 982252228436886204448767, 2191178048051515379154943, 4609029687280773728567295, 9444732965739290427391999, 19116139522656323825041407, 38685626227668133590597631, 77371252455336267181195263, 154742504910672534362390527]
theorem qj.tab14 : rtab .any (opsOf Try.f4 14) = qj.T14 := by kernel_rfl
theorem qj.bits14 : waitsOk qj.T14.2 qj.B14 = true := by kernel_rfl
set_option maxHeartbeats 6400000 in
set_option maxRecDepth 100000 in
theorem qj.calls (k : Nat) (a0 a1 : ByteArray) (a2 a3 : Int) (r : Bool) (w : World) (h : qj.f k a0 a1 a2 a3 = some r) :
  Calls Try.prog 4 #[.string a0, .string a1, .int .u64 a2, .int .i64 a3] w fun e w' => e = .returned (.bool r) ∧ Below w.heap.size w w' := by
 have hu_ := Try.underlying37
 unfold qj.f at h
 replace h := bs_ h
 obtain ⟨aw, ha, h⟩ := h
 by_cases he : aw = true
 case neg => rw [if_neg he] at h; exact absurd h r17_
 rw [if_pos he] at h
 subst he
 have HA := Lib.hid ha
 clear ha
 by_cases hc : (16384 < (a0.size : Int)) ∨ (300 < (a1.size : Int))
 ·rw [if_pos hc] at h
  obtain rfl := Option.some.inj h
  clear h
  by_cases h1 : 16384 < (a0.size : Int)
  ·have d1 : decide ((a0.size : Int) > 16384) = true := decide_eq_true h1
   clear hc h1
   go_enter Try.func4, Try.ntmps4
   go_wp2_with (fail)
   refine (qf.calls k true _ HA.out).mono ?_
   rintro e w1 ⟨rfl, hb⟩
   have HB1 := Aside0.mk hb
   clear hb
   go_wp2
   go_ret
   exact ⟨rfl, HB1.out⟩
  have d1 : decide ((a0.size : Int) > 16384) = false := decide_eq_false h1
  have d2 : decide ((a1.size : Int) > 300) = true := decide_eq_true (hc.resolve_left h1)
  clear hc h1
  go_enter Try.func4, Try.ntmps4
  go_wp2_with (fail)
  refine (qf.calls k true _ HA.out).mono ?_
  rintro e w1 ⟨rfl, hb⟩
  have HB1 := Aside0.mk hb
  clear hb
  go_wp2
  go_ret
  exact ⟨rfl, HB1.out⟩
 rw [if_neg hc] at h
 have d1 : decide ((a0.size : Int) > 16384) = false := decide_eq_false (fun e => hc (Or.inl e))
 have d2 : decide ((a1.size : Int) > 300) = false := decide_eq_false (fun e => hc (Or.inr e))
 clear hc
 replace h := bs_ h
 obtain ⟨⟨o, e⟩, ho, h⟩ := h
 replace h := bs_ h
 obtain ⟨⟨ro, f⟩, hr, h⟩ := h
 have HOP := Lib.hid ho
 have HRO := Lib.hid hr
 clear ho hr
 cases o with
 | none =>
  cases ro with
  | some t => exact absurd h (by simp [qj.two])
  | none =>
   simp only [qj.two] at h
   by_cases hef : e = f
   case neg => rw [if_neg hef] at h; exact absurd h r17_
   rw [if_pos hef] at h
   obtain rfl := Option.some.inj h
   subst hef
   clear h
   go_enter Try.func4, Try.ntmps4
   go_wp2_with (fail)
   refine (qf.calls k true _ HA.out).mono ?_
   rintro e_ w1 ⟨rfl, hb⟩
   have HB1 := Aside0.mk hb
   clear hb
   go_wp2_with (fail)
   refine (qX.calls k a0 none e _ HOP.out).mono ?_
   rintro e_ w2 ⟨rfl, hb⟩
   have HB2 := Aside0.mk (below_step HB1.out hb)
   clear hb HB1
   go_wp2_with (fail)
   refine (qd1.calls k a0 none e _ HRO.out).mono ?_
   rintro e_ w3 ⟨rfl, hb⟩
   have HB3 := Aside0.mk (below_step HB2.out hb)
   clear hb HB2
   go_wp2
   go_ret
   exact ⟨rfl, HB3.out⟩
 | some t =>
 cases ro with
 | none => exact absurd h (by simp [qj.two])
 | some rr =>
 obtain ⟨s0, hs0, fl0, n0⟩ := t
 obtain ⟨l, F⟩ := rr
 simp only [qj.two] at h
 by_cases hef : e = f ∧ 0 < l.length ∧ l.length < 1000000
 case neg => rw [if_neg hef] at h; exact absurd h r17_
 rw [if_pos hef] at h
 obtain ⟨rfl, hlen⟩ := hef
 have HMX := Lib.hid hlen
 clear hlen
 unfold qj.K at h
 replace h := bs_ h
 obtain ⟨⟨xa, xb, xc, xd, xe, s1, fl1, n1⟩, hx, h⟩ := h
 obtain ⟨⟨ya, yb, yc, yd, ye⟩, hy⟩ : ∃ p, qx.f l a1 a2 = p := ⟨_, rfl⟩
 rw [hy] at h
 simp only at hx h
 by_cases hcc : xa.toList = ya.toList ∧ xb = yb ∧ xc = yc ∧ xd.toList = yd.toList ∧ xe = ye
 case neg => rw [if_neg hcc] at h; exact absurd h r17_
 rw [if_pos hcc] at h
 obtain ⟨y1_, rfl, rfl, y2_, rfl⟩ := hcc
 have u1 : (xa.toList == ya.toList) = true := beq_iff_eq.mpr y1_
 have u2 : (xd.toList == yd.toList) = true := beq_iff_eq.mpr y2_
 clear y1_ y2_
 replace h := bs_ h
 obtain ⟨⟨za, zb, zc, zd, va, vb, vc, vd, s2, fl2, n2⟩, hz, h⟩ := h
 simp only at hz h
 by_cases hcc : qj.sm za zb zc zd (qj.at l 0) ∧ qj.sm va vb vc vd (qj.at l (l.length - 1))
 case neg => rw [if_neg hcc] at h; exact absurd h r17_
 rw [if_pos hcc] at h
 obtain ⟨hc1, hc2⟩ := hcc
 replace h := bs_ h
 obtain ⟨⟨co, s3, fl3, n3⟩, q3, h⟩ := h
 simp only at q3 h
 replace h := bs_ h
 obtain ⟨co2, q4, h⟩ := h
 by_cases hco : co = co2
 case neg => rw [if_neg hco] at h; exact absurd h r17_
 rw [if_pos hco] at h
 subst hco
 unfold qj.K3 at h
 replace h := bs_ h
 obtain ⟨⟨la, s4, fl4, n4⟩, q5, h⟩ := h
 simp only at q5 h
 replace h := bs_ h
 obtain ⟨sm_, q6, h⟩ := h
 by_cases z1 : sm_ = true
 case neg => rw [if_neg z1] at h; exact absurd h r17_
 rw [if_pos z1] at h
 subst z1
 replace h := bs_ h
 obtain ⟨⟨lf, s5, fl5, n5⟩, q7, h⟩ := h
 simp only at q7 h
 obtain ⟨lr, hlr⟩ : ∃ lr, qK.f l a1 a3 = lr := ⟨_, rfl⟩
 rw [hlr] at h
 replace h := bs_ h
 obtain ⟨sm_, q8, h⟩ := h
 by_cases z1 : sm_ = true
 case neg => rw [if_neg z1] at h; exact absurd h r17_
 rw [if_pos z1] at h
 subst z1
 replace h := bs_ h
 obtain ⟨⟨nl, s6, fl6, n6⟩, q9, h⟩ := h
 simp only at q9 h
 by_cases z1 : nl = (l.length : Int)
 case neg => rw [if_neg z1] at h; exact absurd h r17_
 rw [if_pos z1] at h
 subst z1
 replace h := bs_ h
 obtain ⟨⟨nb, s7, fl7, n7⟩, qa, h⟩ := h
 simp only at qa h
 by_cases z1 : nb = Int.tdiv ((l.length : Int) + 7) 8
 case neg => rw [if_neg z1] at h; exact absurd h r17_
 rw [if_pos z1] at h
 obtain rfl := Option.some.inj h
 subst z1
 have HGX := Lib.hid hx
 have HGY := Lib.hid hy
 have HEZ := Lib.hid hz
 have HC1 := Lib.hid hc1
 have HC2 := Lib.hid hc2
 have Q3 := Lib.hid q3
 have Q4 := Lib.hid q4
 have Q5 := Lib.hid q5
 have Q6 := Lib.hid q6
 have Q7 := Lib.hid q7
 have HLR := Lib.hid hlr
 have Q8 := Lib.hid q8
 have Q9 := Lib.hid q9
 have QA := Lib.hid qa
 clear hx hy hz hc1 hc2 q3 q4 q5 q6 q7 hlr q8 q9 qa h
 go_enter Try.func4, Try.ntmps4
 go_wp2_with (fail)
 refine (qf.calls k true _ HA.out).mono ?_
 rintro e_ w1 ⟨rfl, hb⟩
 have HX1 := Aside0.mk hb
 clear hb
 go_wp2_with (fail)
 refine (qX.calls k a0 (some (s0, hs0, fl0, n0)) e _ HOP.out).mono ?_
 rintro e_ x2 ⟨g, w0, rfl, hi, hb0, hsz, hb⟩
 have HI2 := Aside0.mk hi
 have HT2 := Aside0.mk hb0
 have HX2 := Aside0.mk (below_step HX1.out hb)
 have HZ : Hid (w.heap.size ≤ w0.heap.size) := Lib.hid (Nat.le_trans HX1.out.size hsz)
 clear hi hb0 hsz hb HX1 HOP
 go_wp2_with (fail)
 refine (qd1.calls k a0 (some (l, F)) e _ HRO.out).mono ?_
 rintro e_ x3 ⟨gr, A, c, rfl, hgr, hgb, hr, hb⟩
 have HGL := Lib.hid (show g < x2.heap.size by obtain ⟨_, _, hb_, _⟩ := HI2.out; exact blk_lt hb_)
 have HI3 := Aside0.mk (IsS82.below HI2.out hb)
 have IN3 : Aside0 (qj.In w w0 x3 g x2.heap.size A c l [(gr, .cells #[.slice A l.length c, .string F] 45 (0, 0))]) := ⟨⟨HZ.out, Nat.lt_of_lt_of_le HGL.out hb.size, below_step HT2.out hb, below_step HX2.out hb, fun p hp => by
  rw [List.mem_singleton] at hp
  subst hp
  exact ⟨hgb, Nat.ne_of_gt (Nat.lt_of_lt_of_le HGL.out hgr)⟩, Kd.R_mono (Kd.R_bound hr) (fun k hk => Nat.ne_of_gt (Nat.lt_of_lt_of_le HGL.out hk.2.1))⟩⟩
 clear hgr hgb hr hb HI2 HT2 HX2 HGL HRO
 generalize x2.heap.size = base at IN3
 go_wp2_with (fail)
 refine (qh1.calls k g s0 hs0 fl0 n0 a1 a2 xa xb xc xd xe s1 fl1 n1 w0 _ HI3.out IN3.out.t HGX.out).mono ?_
 rintro e_ x4 ⟨rfl, hi, hb, hk⟩
 have HI4 := Aside0.mk hi
 have IN4 := Aside0.mk (IN3.out.keep hb hk)
 clear hi hb hk HI3 IN3 HGX
 go_upto_region 12 with (fail)
 have HI5 := Aside0.mk (IsS82.alloc HI4.out (.cells #[.string xa, .int .u64 xb, .bool xc, .string xd] 37))
 have IN5 := Aside0.mk (IN4.out.new #[.string xa, .int .u64 xb, .bool xc, .string xd] 37)
 clear HI4 IN4
 generalize (x4.alloc (.cells #[.string xa, .int .u64 xb, .bool xc, .string xd] 37)) = x5 at HI5 IN5 ⊢
 generalize x4.heap.size = bx at IN5 ⊢
 go_wp2_with (fail)
 refine (screeref11_Table_Get.calls gr A c l F a1 a2 ya yd xb xc xe _ (IN5.out.mem gr (.cells #[.slice A l.length c, .string F] 45 (0, 0)) r17_) (Kd.R_reads' IN5.out.r).2.2 HMX.out.2 HGY.out).mono ?_
 rintro e_ x6 ⟨rfl, hb⟩
 have HI6 := Aside0.mk (IsS82.below HI5.out hb)
 have IN6 := Aside0.mk (IN5.out.below hb)
 clear hb HI5 IN5 HGY
 go_upto_region 13 with (fail)
 have HI7 := Aside0.mk (IsS82.alloc HI6.out (.cells #[.string ya, .int .u64 xb, .bool xc, .string yd] 37))
 have IN7 := Aside0.mk (IN6.out.new #[.string ya, .int .u64 xb, .bool xc, .string yd] 37)
 clear HI6 IN6
 generalize (x6.alloc (.cells #[.string ya, .int .u64 xb, .bool xc, .string yd] 37)) = x7 at HI7 IN7 ⊢
 generalize x6.heap.size = by_ at IN7 ⊢
 go_wp2_with (fail)
 refine (qZ.calls k g s1 hs0 fl1 n1 za zb zc zd va vb vc vd s2 fl2 n2 w0 _ HI7.out IN7.out.t HEZ.out).mono ?_
 rintro e_ x8 ⟨rfl, hi, hb, hk⟩
 have HI8 := Aside0.mk hi
 have IN8 := Aside0.mk (IN7.out.keep hb hk)
 clear hi hb hk HI7 IN7 HEZ
 have HI9 := Aside0.mk (IsS82.alloc (IsS82.alloc HI8.out (.cells #[.string za, .int .u64 zb, .bool zc, .string zd] 37)) (.cells #[.string va, .int .u64 vb, .bool vc, .string vd] 37))
 have IN9 := Aside0.mk ((IN8.out.new #[.string za, .int .u64 zb, .bool zc, .string zd] 37).new #[.string va, .int .u64 vb, .bool vc, .string vd] 37)
 clear HI8 IN8
 have fx0_ : ((x8.alloc (.cells #[.string za, .int .u64 zb, .bool zc, .string zd] 37)).alloc (.cells #[.string va, .int .u64 vb, .bool vc, .string vd] 37)).cell? ⟨bx, 0, none⟩ = some (.string xa) := (blk_cell (IN9.out.mem bx (.cells #[.string xa, .int .u64 xb, .bool xc, .string xd] 37) r17_) 0).trans rfl
 have fx1_ : ((x8.alloc (.cells #[.string za, .int .u64 zb, .bool zc, .string zd] 37)).alloc (.cells #[.string va, .int .u64 vb, .bool vc, .string vd] 37)).cell? ⟨bx, 1, none⟩ = some (.int .u64 xb) := (blk_cell (IN9.out.mem bx (.cells #[.string xa, .int .u64 xb, .bool xc, .string xd] 37) r17_) 1).trans rfl
 have fx2_ : ((x8.alloc (.cells #[.string za, .int .u64 zb, .bool zc, .string zd] 37)).alloc (.cells #[.string va, .int .u64 vb, .bool vc, .string vd] 37)).cell? ⟨bx, 2, none⟩ = some (.bool xc) := (blk_cell (IN9.out.mem bx (.cells #[.string xa, .int .u64 xb, .bool xc, .string xd] 37) r17_) 2).trans rfl
 have fx3_ : ((x8.alloc (.cells #[.string za, .int .u64 zb, .bool zc, .string zd] 37)).alloc (.cells #[.string va, .int .u64 vb, .bool vc, .string vd] 37)).cell? ⟨bx, 3, none⟩ = some (.string xd) := (blk_cell (IN9.out.mem bx (.cells #[.string xa, .int .u64 xb, .bool xc, .string xd] 37) r17_) 3).trans rfl
 have fy0_ : ((x8.alloc (.cells #[.string za, .int .u64 zb, .bool zc, .string zd] 37)).alloc (.cells #[.string va, .int .u64 vb, .bool vc, .string vd] 37)).cell? ⟨by_, 0, none⟩ = some (.string ya) := (blk_cell (IN9.out.mem by_ (.cells #[.string ya, .int .u64 xb, .bool xc, .string yd] 37) r17_) 0).trans rfl
 have fy1_ : ((x8.alloc (.cells #[.string za, .int .u64 zb, .bool zc, .string zd] 37)).alloc (.cells #[.string va, .int .u64 vb, .bool vc, .string vd] 37)).cell? ⟨by_, 1, none⟩ = some (.int .u64 xb) := (blk_cell (IN9.out.mem by_ (.cells #[.string ya, .int .u64 xb, .bool xc, .string yd] 37) r17_) 1).trans rfl
 have fy2_ : ((x8.alloc (.cells #[.string za, .int .u64 zb, .bool zc, .string zd] 37)).alloc (.cells #[.string va, .int .u64 vb, .bool vc, .string vd] 37)).cell? ⟨by_, 2, none⟩ = some (.bool xc) := (blk_cell (IN9.out.mem by_ (.cells #[.string ya, .int .u64 xb, .bool xc, .string yd] 37) r17_) 2).trans rfl
 have fy3_ : ((x8.alloc (.cells #[.string za, .int .u64 zb, .bool zc, .string zd] 37)).alloc (.cells #[.string va, .int .u64 vb, .bool vc, .string vd] 37)).cell? ⟨by_, 3, none⟩ = some (.string yd) := (blk_cell (IN9.out.mem by_ (.cells #[.string ya, .int .u64 xb, .bool xc, .string yd] 37) r17_) 3).trans rfl
 go_upto_region 14 with (fail)
 clear fx0_ fx1_ fx2_ fx3_ fy0_ fy1_ fy2_ fy3_
 generalize ((x8.alloc (.cells #[.string za, .int .u64 zb, .bool zc, .string zd] 37)).alloc (.cells #[.string va, .int .u64 vb, .bool vc, .string vd] 37)) = x9 at HI9 IN9 ⊢
 rw [World.size_alloc] at IN9
 obtain ⟨gz, hgz⟩ : ∃ gz, x8.heap.size = gz := ⟨_, rfl⟩
 obtain ⟨gv, hgv⟩ : ∃ gv, x8.heap.size + 1 = gv := ⟨_, rfl⟩
 rw [hgv] at IN9 ⊢
 rw [hgz] at IN9 ⊢
 clear hgz hgv
 have hAA : ∃ ad, A = some ad := by
  obtain ⟨ad, ead, _⟩ := at_T37 (Kd.R_reads' IN9.out.r).2.2 (((0 : Nat) : Int)) r18_ (by have := HMX.out.1; omega)
  exact ⟨ad, ead⟩
 obtain ⟨ad, rfl⟩ := hAA
 have hc1 := HC1.out
 have hc2 := HC2.out
 clear HC1 HC2
 unfold qj.at at hc1 hc2
 obtain ⟨b1_, b2_, b3_, b4_⟩ := hc1
 subst b2_ b3_
 obtain ⟨d1_, d2_, d3_, d4_⟩ := hc2
 subst d2_ d3_
 have u3 : (za.toList == (rd_T37 l ((0 : Nat) : Int)).f0.toList) = true := beq_iff_eq.mpr b1_
 have u4 : (zd.toList == (rd_T37 l ((0 : Nat) : Int)).f3.toList) = true := beq_iff_eq.mpr b4_
 have u5 : (va.toList == (rd_T37 l ((l.length - 1 : Nat) : Int)).f0.toList) = true := beq_iff_eq.mpr d1_
 have u6 : (vd.toList == (rd_T37 l ((l.length - 1 : Nat) : Int)).f3.toList) = true := beq_iff_eq.mpr d4_
 clear b1_ b4_ d1_ d4_
 generalize hp0 : rd_T37 l ((0 : Nat) : Int) = p0 at u3 u4 IN9
 generalize hpn : rd_T37 l ((l.length - 1 : Nat) : Int) = pn at u5 u6 IN9
 have HP0 := Lib.hid hp0
 have HPN := Lib.hid hpn
 clear hp0 hpn
 obtain ⟨pa, pb, pc, pd⟩ := p0
 obtain ⟨qa, qb, qc, qd⟩ := pn
 simp only at u3 u4 u5 u6 IN9
 have hlen := HMX.out.1
 have hmx := HMX.out.2
 have i0_ : ((0 : Int) < (l.length : Int)) = True := eq_true r18_
 have j0_ : (0 < l.length) = True := eq_true hlen
 have in_ : (((l.length - 1 : Nat) : Int) < (l.length : Int)) = True := eq_true r18_
 have jn_ : (l.length - 1 < l.length) = True := eq_true r18_
 have wn_ : wrap64 ((l.length : Int) - 1) = ((l.length - 1 : Nat) : Int) := by unfold wrap64; omega
 have w7_ : wrap64 ((l.length : Int) + 7) = (l.length : Int) + 7 := by unfold wrap64; omega
 have wd_ : wrap64 (Int.tdiv ((l.length : Int) + 7) 8) = Int.tdiv ((l.length : Int) + 7) 8 := by rw [Int.tdiv_eq_ediv_of_nonneg r18_]; unfold wrap64; omega
 clear hlen hmx
 refine start_ (n := 88) (S := fun w' => qj.In w w0 w' g base (some ad) c l [(gv, .cells #[.string va, .int .u64 qb, .bool qc, .string vd] 37 (0, 0)), (gz, .cells #[.string za, .int .u64 pb, .bool pc, .string zd] 37 (0, 0)), (by_, .cells #[.string ya, .int .u64 xb, .bool xc, .string yd] 37 (0, 0)), (bx, .cells #[.string xa, .int .u64 xb, .bool xc, .string xd] 37 (0, 0)), (gr, .cells #[.slice (some ad) l.length c, .string F] 45 (0, 0))]) (ds := []) #[N,N,N,N,N,N,N,N,N,N,N,N,N,N,N,N,N,N,N,N,N,N,N,N,N,N,N,N,N,N,N,N,N,N,N,N,N,N,N,N,N,N,N,N,N,N,N,N,N,N,N,N,N,N,N,N,N,N,N,N,N,N,N,N,N,N,N,N,N,N,N,N,N,N,N,N,N,N,N,N,N,N,N,N,N,N,N,N] r2_ rfl rfl (IN9.out.below (below_drew1 (Below.refl _ _))) (fun hHeld => ?_)
 refine with_tabW qj.tab14 qj.bits14 (fun HT_ HW_ => ?_)
 have HI10 : Aside0 (IsS82 w0 x9.drew g s2 hs0 fl2 n2) := ⟨IsS82.drew HI9.out⟩
 clear HI9 IN9
 generalize x9.drew = x10 at HI10 hHeld ⊢
 refine tk_ (v := ?_) 0 (some 70) (mk_ 88 1) (take_ofW HT_.out HW_.out r2_) hHeld ?_ ?_
 rotate_left
 ·intro w' hS_
  have c0_ := (blk_cell (hS_.mem bx (.cells #[.string xa, .int .u64 xb, .bool xc, .string xd] 37 (0, 0)) r17_) 0).trans rfl
  have c1_ := (blk_cell (hS_.mem bx (.cells #[.string xa, .int .u64 xb, .bool xc, .string xd] 37 (0, 0)) r17_) 1).trans rfl
  have c2_ := (blk_cell (hS_.mem bx (.cells #[.string xa, .int .u64 xb, .bool xc, .string xd] 37 (0, 0)) r17_) 2).trans rfl
  have c3_ := (blk_cell (hS_.mem bx (.cells #[.string xa, .int .u64 xb, .bool xc, .string xd] 37 (0, 0)) r17_) 3).trans rfl
  go_simp
  with_reducible rfl
 refine tk_ (v := ?_) 1 (some 71) (mk_ 88 3) (take_ofW HT_.out HW_.out r2_) hHeld ?_ ?_
 rotate_left
 ·intro w' hS_
  have c0_ := (blk_cell (hS_.mem by_ (.cells #[.string ya, .int .u64 xb, .bool xc, .string yd] 37 (0, 0)) r17_) 0).trans rfl
  have c1_ := (blk_cell (hS_.mem by_ (.cells #[.string ya, .int .u64 xb, .bool xc, .string yd] 37 (0, 0)) r17_) 1).trans rfl
  have c2_ := (blk_cell (hS_.mem by_ (.cells #[.string ya, .int .u64 xb, .bool xc, .string yd] 37 (0, 0)) r17_) 2).trans rfl
  have c3_ := (blk_cell (hS_.mem by_ (.cells #[.string ya, .int .u64 xb, .bool xc, .string yd] 37 (0, 0)) r17_) 3).trans rfl
  go_simp
  with_reducible rfl
 refine pu_ 2 (some 72) (mk_ 88 7) (any_of HT_.out r2_) ?_
 refine pu_ 3 (some 73) (mk_ 88 15) (any_of HT_.out r2_) ?_
 refine pu_ 4 (some 74) (mk_ 88 31) (any_of HT_.out r2_) ?_
 refine pu_ 5 (some 75) (mk_ 88 63) (any_of HT_.out r2_) ?_
 refine pu_ 6 (some 76) (mk_ 88 127) (any_of HT_.out r2_) ?_
 refine pu_ 7 (some 77) (mk_ 88 255) (any_of HT_.out r2_) ?_
 refine pu_ 8 (some 78) (mk_ 88 511) (any_of HT_.out r2_) ?_
 refine pu_ 9 (some 79) (mk_ 88 1023) (any_of HT_.out r2_) ?_
 refine pu_ 10 (some 80) (mk_ 88 2047) (any_of HT_.out r2_) ?_
 refine pu_ 11 (some 81) (mk_ 88 4095) (any_of HT_.out r2_) ?_
 refine pu_ 13 (some 83) (mk_ 88 12287) (any_of HT_.out r2_) ?_
 refine pu_ 14 (some 84) (mk_ 88 28671) (any_of HT_.out r2_) ?_
 refine pu_ 15 (some 85) (mk_ 88 61439) (any_of HT_.out r2_) ?_
 refine one_ (i := 12) (N := some 82) (mk_ 88 65535) rfl rfl (one_of HT_.out r2_) r24_ (fun K hK => ?_)
 refine goes_ Try.func20 r2_ rfl #[.pointer (some ⟨g, 0, none⟩), .string a1, .int .u64 a2] r37_ rfl rfl r9_ ?_
 refine (qU.calls k g s2 hs0 fl2 n2 a1 a2 co s3 fl3 n3 w0 _ HI10.out hHeld.t Q3.out).mono ?_
 rintro e_ x11 ⟨rfl, hi, hb, hk⟩
 refine ⟨_, rfl, ?_⟩
 have HI11 := Aside0.mk hi
 refine hK.out _ _ (hHeld.keep hb hk) (fun hHeld => ?_)
 clear hi hb hk hK K HI10
 refine nm_ (some 82) ?_
 refine one_ (i := 16) (N := some 86) (mk_ 88 131071) rfl rfl (one_of HT_.out r2_) r24_ (fun K hK => ?_)
 refine goes_ Try.func21 r2_ rfl #[.pointer (some ⟨gr, 0, none⟩), .string a1, .int .u64 a2] r37_ rfl rfl r9_ ?_
 refine (qj1.calls k gr (some ad) c l F a1 a2 co _ (hHeld.mem gr (.cells #[.slice (some ad) l.length c, .string F] 45 (0, 0)) r17_) (Kd.R_reads' hHeld.r).2.2 HMX.out.2 HMX.out.1 Q4.out).mono ?_
 rintro e_ x12 ⟨rfl, hb⟩
 refine ⟨_, rfl, ?_⟩
 have HI12 := Aside0.mk (IsS82.below HI11.out hb)
 refine hK.out _ _ (hHeld.below hb) (fun hHeld => ?_)
 clear hb hK K HI11
 refine nm_ (some 86) ?_
 refine pu_ 17 (some 87) (mk_ 88 262143) (any_of HT_.out r2_) ?_
 refine pu_ 18 (some 88) (mk_ 88 524287) (any_of HT_.out r2_) ?_
 refine pu_ 19 (some 89) (mk_ 88 1048575) (any_of HT_.out r2_) ?_
 refine pu_ 20 (some 90) (mk_ 88 2097151) (any_of HT_.out r2_) ?_
 refine pu_ 22 (some 92) (mk_ 88 6291455) (any_of HT_.out r2_) ?_
 refine pu_ 23 (some 93) (mk_ 88 14680063) (any_of HT_.out r2_) ?_
 refine pu_ 24 (some 94) (mk_ 88 31457279) (any_of HT_.out r2_) ?_
 refine tk_ (v := ?_) 25 (some 95) (mk_ 88 65011711) (take_ofW HT_.out HW_.out r2_) hHeld ?_ ?_
 rotate_left
 ·intro w' hS_
  have c0_ := (blk_cell (hS_.mem gr (.cells #[.slice (some ad) l.length c, .string F] 45 (0, 0)) r17_) 0).trans rfl
  go_simp
  with_reducible rfl
 refine one_ (i := 21) (N := some 91) (mk_ 88 67108863) rfl rfl (one_of HT_.out r2_) r24_ (fun K hK => ?_)
 refine goes_ Try.func22 r2_ rfl #[.pointer (some ⟨g, 0, none⟩)] r37_ rfl rfl r9_ ?_
 refine (qa1.calls k g s3 hs0 fl3 n3 la s4 fl4 n4 w0 _ HI12.out hHeld.t Q5.out).mono ?_
 rintro e_ x13 ⟨v0_, rfl, hr, hi, hb, hk⟩
 refine ⟨_, rfl, ?_⟩
 obtain ⟨AA, cA, eA⟩ := Kd.R_slice hr
 subst eA
 have HRA := Aside0.mk (Kd.R_reads' hr)
 clear hr
 have HI13 := Aside0.mk hi
 refine hK.out _ _ (hHeld.keep hb hk) (fun hHeld => ?_)
 clear hi hb hk hK K HI12
 refine nm_ (some 91) ?_
 refine one_ (i := 26) (N := some 96) (mk_ 88 134217727) rfl rfl (one_of HT_.out r2_) r24_ (fun K hK => ?_)
 refine goes_ Try.func14 r2_ rfl #[.slice AA la.length cA, .slice (some ad) l.length c] r37_ rfl rfl r9_ ?_
 refine (qH.calls k AA cA la (some ad) c l true _ HRA.out.2.2 HRA.out.2.1 (Kd.R_reads' hHeld.r).2.2 (Kd.R_reads' hHeld.r).2.1 Q6.out).mono ?_
 rintro e_ x14 ⟨rfl, hd⟩
 refine ⟨_, rfl, ?_⟩
 have hb := hd.below
 clear hd HRA
 have HI14 := Aside0.mk (IsS82.below HI13.out hb)
 refine hK.out _ _ (hHeld.below hb) (fun hHeld => ?_)
 clear hb hK K HI13
 refine nm_ (some 96) ?_
 refine pu_ 27 (some 97) (mk_ 88 268435455) (any_of HT_.out r2_) ?_
 refine pu_ 28 (some 98) (mk_ 88 536870911) (any_of HT_.out r2_) ?_
 refine pu_ 29 (some 99) (mk_ 88 1073741823) (any_of HT_.out r2_) ?_
 refine pu_ 30 (some 100) (mk_ 88 2147483647) (any_of HT_.out r2_) ?_
 refine pu_ 31 (some 101) (mk_ 88 4294967295) (any_of HT_.out r2_) ?_
 refine pu_ 33 (some 103) (mk_ 88 12884901887) (any_of HT_.out r2_) ?_
 refine pu_ 34 (some 104) (mk_ 88 30064771071) (any_of HT_.out r2_) ?_
 refine pu_ 35 (some 105) (mk_ 88 64424509439) (any_of HT_.out r2_) ?_
 refine one_ (i := 32) (N := some 102) (mk_ 88 68719476735) rfl rfl (one_of HT_.out r2_) r24_ (fun K hK => ?_)
 refine goes_ Try.func23 r2_ rfl #[.pointer (some ⟨g, 0, none⟩), .string a1, .int .i64 a3] r37_ rfl rfl r9_ ?_
 refine (qG.calls k g s4 hs0 fl4 n4 a1 a3 lf s5 fl5 n5 w0 _ HI14.out hHeld.t Q7.out).mono ?_
 rintro e_ x15 ⟨v0_, rfl, hr, hi, hb, hk⟩
 refine ⟨_, rfl, ?_⟩
 obtain ⟨AF, cF, eF, _⟩ := Kd.Q_slice hr
 subst eF
 have HRF := Aside0.mk (Kd.Q_reads' hr)
 clear hr
 have HI15 := Aside0.mk hi
 refine hK.out _ _ (hHeld.keep hb hk) (fun hHeld => ?_)
 clear hi hb hk hK K HI14
 refine nm_ (some 102) ?_
 refine one_ (i := 36) (N := some 106) (mk_ 88 137438953471) rfl rfl (one_of HT_.out r2_) r24_ (fun K hK => ?_)
 refine goes_ Try.func24 r2_ rfl #[.pointer (some ⟨gr, 0, none⟩), .string a1, .int .i64 a3] r37_ rfl rfl r9_ ?_
 refine (screeref11_Table_From.calls gr (some ad) c l F a1 a3 lr _ (hHeld.mem gr (.cells #[.slice (some ad) l.length c, .string F] 45 (0, 0)) r17_) (Kd.R_reads' hHeld.r).2.2 HMX.out.2 HLR.out).mono ?_
 rintro e_ x16 ⟨v0_, rfl, hr, hb⟩
 refine ⟨_, rfl, ?_⟩
 obtain ⟨AR, cR, eR⟩ := Kd.R_slice hr
 subst eR
 have HRR := Aside0.mk (Kd.R_reads' hr)
 have HRG := Aside0.mk (Kd.C_below HRF.out.2.2 hb)
 clear hr
 have HI16 := Aside0.mk (IsS82.below HI15.out hb)
 refine hK.out _ _ (hHeld.below hb) (fun hHeld => ?_)
 clear hb hK K HI15
 refine nm_ (some 106) ?_
 refine one_ (i := 37) (N := some 107) (mk_ 88 274877906943) rfl rfl (one_of HT_.out r2_) r24_ (fun K hK => ?_)
 refine goes_ Try.func14 r2_ rfl #[.slice AF lf.length cF, .slice AR lr.length cR] r37_ rfl rfl r9_ ?_
 refine (qH.calls k AF cF lf AR cR lr true _ HRG.out HRF.out.2.1 HRR.out.2.2 HRR.out.2.1 Q8.out).mono ?_
 rintro e_ x17 ⟨rfl, hd⟩
 refine ⟨_, rfl, ?_⟩
 have hb := hd.below
 clear hd HRF HRR HRG
 have HI17 := Aside0.mk (IsS82.below HI16.out hb)
 refine hK.out _ _ (hHeld.below hb) (fun hHeld => ?_)
 clear hb hK K HI16
 refine nm_ (some 107) ?_
 refine pu_ 38 (some 108) (mk_ 88 549755813887) (any_of HT_.out r2_) ?_
 refine pu_ 39 (some 109) (mk_ 88 1099511627775) (any_of HT_.out r2_) ?_
 refine tk_ (v := ?_) 40 (some 110) (mk_ 88 2199023255551) (take_ofW HT_.out HW_.out r2_) hHeld ?_ ?_
 rotate_left
 ·intro w' hS_
  have c0_ := (blk_cell (hS_.mem gz (.cells #[.string za, .int .u64 pb, .bool pc, .string zd] 37 (0, 0)) r17_) 0).trans rfl
  have c1_ := (blk_cell (hS_.mem gz (.cells #[.string za, .int .u64 pb, .bool pc, .string zd] 37 (0, 0)) r17_) 1).trans rfl
  have c2_ := (blk_cell (hS_.mem gz (.cells #[.string za, .int .u64 pb, .bool pc, .string zd] 37 (0, 0)) r17_) 2).trans rfl
  have c3_ := (blk_cell (hS_.mem gz (.cells #[.string za, .int .u64 pb, .bool pc, .string zd] 37 (0, 0)) r17_) 3).trans rfl
  go_simp
  with_reducible rfl
 refine pu_ 41 (some 111) (mk_ 88 4398046511103) (any_of HT_.out r2_) ?_
 refine pu_ 42 (some 112) (mk_ 88 8796093022207) (any_of HT_.out r2_) ?_
 refine pu_ 43 (some 113) (mk_ 88 17592186044415) (any_of HT_.out r2_) ?_
 refine tk_ (v := ?_) 44 (some 114) (mk_ 88 35184372088831) (take_ofW HT_.out HW_.out r2_) hHeld ?_ ?_
 rotate_left
 ·intro w' hS_
  have c0_ := (blk_cell (hS_.mem gr (.cells #[.slice (some ad) l.length c, .string F] 45 (0, 0)) r17_) 0).trans rfl
  go_simp
  with_reducible rfl
 refine pu_ 45 (some 115) (mk_ 88 70368744177663) (any_of HT_.out r2_) ?_
 refine tk_ (v := ?_) 46 (some 116) (mk_ 88 140737488355327) (take_ofW HT_.out HW_.out r2_) hHeld ?_ ?_
 rotate_left
 ·intro w' hS_
  obtain ⟨c0_, c1_, c2_, c3_⟩ := hS_.row 0 (by have := HMX.out.1; omega)
  rw [HP0.out] at c0_ c1_ c2_ c3_
  (try simp [Addr.add] at c0_ c1_ c2_ c3_)
  go_simp
  with_reducible rfl
 refine pu_ 47 (some 117) (mk_ 88 281474976710655) (any_of HT_.out r2_) ?_
 refine pu_ 48 (some 118) (mk_ 88 562949953421311) (any_of HT_.out r2_) ?_
 refine pu_ 49 (some 119) (mk_ 88 1125899906842623) (any_of HT_.out r2_) ?_
 refine tk_ (v := ?_) 50 (some 120) (mk_ 88 2251799813685247) (take_ofW HT_.out HW_.out r2_) hHeld ?_ ?_
 rotate_left
 ·intro w' hS_
  have c0_ := (blk_cell (hS_.mem gv (.cells #[.string va, .int .u64 qb, .bool qc, .string vd] 37 (0, 0)) r17_) 0).trans rfl
  have c1_ := (blk_cell (hS_.mem gv (.cells #[.string va, .int .u64 qb, .bool qc, .string vd] 37 (0, 0)) r17_) 1).trans rfl
  have c2_ := (blk_cell (hS_.mem gv (.cells #[.string va, .int .u64 qb, .bool qc, .string vd] 37 (0, 0)) r17_) 2).trans rfl
  have c3_ := (blk_cell (hS_.mem gv (.cells #[.string va, .int .u64 qb, .bool qc, .string vd] 37 (0, 0)) r17_) 3).trans rfl
  go_simp
  with_reducible rfl
 refine pu_ 51 (some 121) (mk_ 88 4503599627370495) (any_of HT_.out r2_) ?_
 refine pu_ 52 (some 122) (mk_ 88 9007199254740991) (any_of HT_.out r2_) ?_
 refine pu_ 53 (some 123) (mk_ 88 18014398509481983) (any_of HT_.out r2_) ?_
 refine tk_ (v := ?_) 54 (some 124) (mk_ 88 36028797018963967) (take_ofW HT_.out HW_.out r2_) hHeld ?_ ?_
 rotate_left
 ·intro w' hS_
  have c0_ := (blk_cell (hS_.mem gr (.cells #[.slice (some ad) l.length c, .string F] 45 (0, 0)) r17_) 0).trans rfl
  go_simp
  with_reducible rfl
 refine pu_ 55 (some 125) (mk_ 88 72057594037927935) (any_of HT_.out r2_) ?_
 refine pu_ 56 (some 126) (mk_ 88 144115188075855871) (any_of HT_.out r2_) ?_
 refine pu_ 57 (some 127) (mk_ 88 288230376151711743) (any_of HT_.out r2_) ?_
 refine tk_ (v := ?_) 58 (some 128) (mk_ 88 576460752303423487) (take_ofW HT_.out HW_.out r2_) hHeld ?_ ?_
 rotate_left
 ·intro w' hS_
  have c0_ := (blk_cell (hS_.mem gr (.cells #[.slice (some ad) l.length c, .string F] 45 (0, 0)) r17_) 0).trans rfl
  go_simp
  with_reducible rfl
 refine pu_ 59 (some 129) (mk_ 88 1152921504606846975) (any_of HT_.out r2_) ?_
 refine pu_ 60 (some 130) (mk_ 88 2305843009213693951) (any_of HT_.out r2_) ?_
 refine pu_ 61 (some 131) (mk_ 88 4611686018427387903) (any_of HT_.out r2_) ?_
 refine tk_ (v := ?_) 62 (some 132) (mk_ 88 9223372036854775807) (take_ofW HT_.out HW_.out r2_) hHeld ?_ ?_
 rotate_left
 ·intro w' hS_
  obtain ⟨c0_, c1_, c2_, c3_⟩ := hS_.row (l.length - 1) (by have := HMX.out.1; omega)
  rw [HPN.out] at c0_ c1_ c2_ c3_
  go_simp
  with_reducible rfl
 refine pu_ 63 (some 133) (mk_ 88 18446744073709551615) (any_of HT_.out r2_) ?_
 refine pu_ 64 (some 134) (mk_ 88 36893488147419103231) (any_of HT_.out r2_) ?_
 refine pu_ 65 (some 135) (mk_ 88 73786976294838206463) (any_of HT_.out r2_) ?_
 refine pu_ 66 (some 136) (mk_ 88 147573952589676412927) (any_of HT_.out r2_) ?_
 refine pu_ 68 (some 138) (mk_ 88 442721857769029238783) (any_of HT_.out r2_) ?_
 refine pu_ 69 (some 139) (mk_ 88 1033017668127734890495) (any_of HT_.out r2_) ?_
 refine pu_ 70 (some 140) (mk_ 88 2213609288845146193919) (any_of HT_.out r2_) ?_
 refine tk_ (v := ?_) 71 (some 141) (mk_ 88 4574792530279968800767) (take_ofW HT_.out HW_.out r2_) hHeld ?_ ?_
 rotate_left
 ·intro w' hS_
  have c0_ := (blk_cell (hS_.mem gr (.cells #[.slice (some ad) l.length c, .string F] 45 (0, 0)) r17_) 0).trans rfl
  go_simp
  with_reducible rfl
 refine pu_ 72 (some 142) (mk_ 88 9297159013149614014463) (any_of HT_.out r2_) ?_
 refine one_ (i := 67) (N := some 137) (mk_ 88 9444732965739290427391) rfl rfl (one_of HT_.out r2_) r24_ (fun K hK => ?_)
 refine goes_ Try.func25 r2_ rfl #[.pointer (some ⟨g, 0, none⟩)] r37_ rfl rfl r9_ ?_
 refine (qs1.calls g s5 hs0 fl5 n5 (l.length : Int) s6 fl6 n6 w0 _ HI17.out hHeld.t Q9.out).mono ?_
 rintro e_ x18 ⟨rfl, hi, hb, hk⟩
 refine ⟨_, rfl, ?_⟩
 have HI18 := Aside0.mk hi
 refine hK.out _ _ (hHeld.keep hb hk) (fun hHeld => ?_)
 clear hi hb hk hK K HI17
 refine nm_ (some 137) ?_
 refine pu_ 73 (some 143) (mk_ 88 18889465931478580854783) (any_of HT_.out r2_) ?_
 refine pu_ 74 (some 144) (mk_ 88 37778931862957161709567) (any_of HT_.out r2_) ?_
 refine pu_ 75 (some 145) (mk_ 88 75557863725914323419135) (any_of HT_.out r2_) ?_
 refine pu_ 76 (some 146) (mk_ 88 151115727451828646838271) (any_of HT_.out r2_) ?_
 refine pu_ 78 (some 148) (mk_ 88 453347182355485940514815) (any_of HT_.out r2_) ?_
 refine pu_ 79 (some 149) (mk_ 88 1057810092162800527867903) (any_of HT_.out r2_) ?_
 refine pu_ 80 (some 150) (mk_ 88 2266735911777429702574079) (any_of HT_.out r2_) ?_
 refine tk_ (v := ?_) 81 (some 151) (mk_ 88 4684587551006688051986431) (take_ofW HT_.out HW_.out r2_) hHeld ?_ ?_
 rotate_left
 ·intro w' hS_
  have c0_ := (blk_cell (hS_.mem gr (.cells #[.slice (some ad) l.length c, .string F] 45 (0, 0)) r17_) 0).trans rfl
  go_simp
  with_reducible rfl
 refine pu_ 82 (some 152) (mk_ 88 9520290829465204750811135) (any_of HT_.out r2_) ?_
 refine pu_ 83 (some 153) (mk_ 88 19191697386382238148460543) (any_of HT_.out r2_) ?_
 refine pu_ 84 (some 154) (mk_ 88 38534510500216304943759359) (any_of HT_.out r2_) ?_
 refine one_ (i := 77) (N := some 147) (mk_ 88 38685626227668133590597631) rfl rfl (one_of HT_.out r2_) r24_ (fun K hK => ?_)
 refine goes_ Try.func26 r2_ rfl #[.pointer (some ⟨g, 0, none⟩)] r37_ rfl rfl r9_ ?_
 refine (qn1.calls g s6 hs0 fl6 n6 (Int.tdiv ((l.length : Int) + 7) 8) s7 fl7 n7 w0 _ HI18.out hHeld.t QA.out).mono ?_
 rintro e_ x19 ⟨rfl, hi, hb, hk⟩
 refine ⟨_, rfl, ?_⟩
 have HI19 := Aside0.mk hi
 refine hK.out _ _ (hHeld.keep hb hk) (fun hHeld => ?_)
 clear hi hb hk hK K HI18
 refine nm_ (some 147) ?_
 refine pu_ 85 (some 155) (mk_ 88 77371252455336267181195263) (any_of HT_.out r2_) ?_
 refine pu_ 86 (some 156) (mk_ 88 154742504910672534362390527) (any_of HT_.out r2_) ?_
 refine pu_ 87 (some 8) (mk_ 88 309485009821345068724781055) (any_of HT_.out r2_) ?_
 have HXZ := Aside0.mk hHeld.wx
 refine done_ (done_of HT_.out r2_) ?_
 (try clear hHeld)
 (try clear hHeld)
 go_wp2
 go_ret
 exact ⟨rfl, HXZ.out⟩

end Go.Proofs.Ytgdkikkjaofbfaa.P
