-- Printed by a program of this session's own (wip/tools/pprint.sh, over the kit's print, with given contracts): not typed by hand.
import Derived.Test.YtgdkikkjaofbfaaPx0
import Derived.Test.YtgdkikkjaofbfaaPx7
import Derived.Test.YtgdkikkjaofbfaaPx9
import Derived.Test.YtgdkikkjaofbfaaPx10
namespace Go.Proofs.Ytgdkikkjaofbfaa.P
open Go.RowKit Go.Proofs.YtgdkikkjaofbfaaW.PrintWords Go.Proofs.YtgdkikkjaofbfaaW.PrintLast Go.Proofs.YtgdkikkjaofbfaaW.PrintMore
attribute [local go_sem] max2_int min2_int max_two min_two max_three min_three max_four min_four   -- for this text's walks alone
set_option linter.unusedVariables false
set_option linter.unusedSimpArgs false
-- SQUEEZED4
-- SQUEEZED3

/-! ### qZ: function 19 -/
def qZ.f (k : Nat) (s0_0 : ByteArray) (s0_1 : List (S80)) (s0_2 : ByteArray) (s0_3 : Int) : Option (ByteArray × Int × Bool × ByteArray × ByteArray × Int × Bool × ByteArray × ByteArray × ByteArray × Int) := (qa1.f k s0_0 s0_1 s0_2 s0_3).bind fun bt176 => (if 0 < (bt176.1.length : Int) then (if 0 ≤ (wrap64 ((bt176.1.length : Int) - 1)) then (if (wrap64 ((bt176.1.length : Int) - 1)) < (bt176.1.length : Int) then (some ((rd_T37 bt176.1 0).f0, (rd_T37 bt176.1 0).f1, (rd_T37 bt176.1 0).f2, (rd_T37 bt176.1 0).f3, (rd_T37 bt176.1 (wrap64 ((bt176.1.length : Int) - 1))).f0, (rd_T37 bt176.1 (wrap64 ((bt176.1.length : Int) - 1))).f1, (rd_T37 bt176.1 (wrap64 ((bt176.1.length : Int) - 1))).f2, (rd_T37 bt176.1 (wrap64 ((bt176.1.length : Int) - 1))).f3, bt176.2.1, bt176.2.2.1, bt176.2.2.2)) else (none)) else (none)) else (none))
theorem qZ.mono : ∀ a0 a1 a2 a3 k, LeO (qZ.f k a0 a1 a2 a3) (qZ.f (k + 1) a0 a1 a2 a3) := by
 intro a0 a1 a2 a3 k
 unfold qZ.f
 repeat' first
   | (with_reducible exact LeO.refl _)
   | (with_reducible exact LeO.none _)
   | (with_reducible refine LeO.ite ?_ ?_)
   | (with_reducible refine LeO.bind ?_ (fun _ => ?_))
   | exact qa1.mono _ _ _ _ _
   | exact LeO.none _
   | refine LeO.ite ?_ ?_
   | refine LeO.bind ?_ (fun _ => ?_)
def qZ.T2 : Bool × List (List Nat × List Nat) := (true, [([], []), ([0], [0]), ([1], [1]), ([], []), ([], []), ([4], [4]), ([5], [5]), ([3, 6], [3, 6]), ([7], [7]), ([2, 0, 1, 2], [2]), ([8, 9, 0, 1, 2, 3, 4, 5, 6, 7, 8, 9], [8])])
def qZ.B2 : List Nat := [0, 1, 3, 0, 0, 16, 48, 120, 248, 7, 1023]
theorem qZ.tab2 : rtab .any (opsOf Try.f19 2) = qZ.T2 := by kernel_rfl
theorem qZ.bits2 : waitsOk qZ.T2.2 qZ.B2 = true := by kernel_rfl
set_option maxHeartbeats 8000000 in
set_option maxRecDepth 100000 in
theorem qZ.calls (k : Nat) (g : Nat) (s0_0 : ByteArray) (s0_1 : List (S80)) (s0_2 : ByteArray) (s0_3 : Int) (r1 : ByteArray) (r2 : Int) (r3 : Bool) (r4 : ByteArray) (r5 : ByteArray) (r6 : Int) (r7 : Bool) (r8 : ByteArray) (r9 : ByteArray) (r10 : ByteArray) (r11 : Int) (w0 w : World) (hI : IsS82 w0 w g s0_0 s0_1 s0_2 s0_3) (hB : Below w0.heap.size w0 w) (h : qZ.f k s0_0 s0_1 s0_2 s0_3 = some (r1, r2, r3, r4, r5, r6, r7, r8, r9, r10, r11)) :
  Calls Try.prog 19 #[.pointer (some ⟨g, 0, none⟩)] w fun e w' => e = .returned (.tuple #[.agg #[.string r1, .int .u64 r2, .bool r3, .string r4], .agg #[.string r5, .int .u64 r6, .bool r7, .string r8]]) ∧ IsS82 w0 w' g r9 s0_1 r10 r11 ∧ Below w0.heap.size w0 w' ∧ KeepBut w w' g none := by
 have hu37 := Try.underlying37
 have HI0 := Aside0.mk hI
 have HK := Aside0.mk (KeepBut.refl w g none)
 have HL := Aside0.mk hB.size
 clear hI
 have HW0 := Aside0.mk hB.size
 have HB := Aside0.mk hB
 clear hB
 have H : ((qa1.f k s0_0 s0_1 s0_2 s0_3).bind fun bt176 => (if 0 < (bt176.1.length : Int) then (if 0 ≤ (wrap64 ((bt176.1.length : Int) - 1)) then (if (wrap64 ((bt176.1.length : Int) - 1)) < (bt176.1.length : Int) then (some ((rd_T37 bt176.1 0).f0, (rd_T37 bt176.1 0).f1, (rd_T37 bt176.1 0).f2, (rd_T37 bt176.1 0).f3, (rd_T37 bt176.1 (wrap64 ((bt176.1.length : Int) - 1))).f0, (rd_T37 bt176.1 (wrap64 ((bt176.1.length : Int) - 1))).f1, (rd_T37 bt176.1 (wrap64 ((bt176.1.length : Int) - 1))).f2, (rd_T37 bt176.1 (wrap64 ((bt176.1.length : Int) - 1))).f3, bt176.2.1, bt176.2.2.1, bt176.2.2.2)) else (none)) else (none)) else (none))) = some (r1, r2, r3, r4, r5, r6, r7, r8, r9, r10, r11) := h
 clear h
 replace H := bs_ H
 obtain ⟨⟨t176, t179, t180, t181⟩, A20, H⟩ := H
 try dsimp only at H
 have A2 := Aside0.mk A20
 clear A20
 by_cases c3 : 0 < (t176.length : Int)
 rotate_left
 ·rw [if_neg c3] at H
  exact absurd H r17_
 rw [if_pos c3] at H
 have c3b0 := decide_eq_true c3
 have c3b1 : decide (0 < t176.length) = true := decide_eq_true r18_
 clear c3
 obtain ⟨ji4, hji4⟩ : ∃ j_ : Int, (wrap64 ((t176.length : Int) - 1)) = j_ := ⟨_, rfl⟩
 replace H : (if 0 ≤ (ji4) then (if (ji4) < (t176.length : Int) then (some ((rd_T37 t176 0).f0, (rd_T37 t176 0).f1, (rd_T37 t176 0).f2, (rd_T37 t176 0).f3, (rd_T37 t176 (ji4)).f0, (rd_T37 t176 (ji4)).f1, (rd_T37 t176 (ji4)).f2, (rd_T37 t176 (ji4)).f3, t179, t180, t181)) else (none)) else (none)) = some (r1, r2, r3, r4, r5, r6, r7, r8, r9, r10, r11) := by first | (rw [hji4] at H; exact H) | (simp only [hji4] at H ⊢; exact H)
 (try rw [hji4])
 (try rw [hji4] at A2)
 have hji4w : (IntKind.i64.wrap ((t176.length : Int) - 1)) = ji4 := (i64_w _).trans hji4
 by_cases c5 : 0 ≤ (ji4)
 rotate_left
 ·rw [if_neg c5] at H
  exact absurd H r17_
 rw [if_pos c5] at H
 have c5b0 := decide_eq_true c5
 clear c5
 by_cases c6 : (ji4) < (t176.length : Int)
 rotate_left
 ·rw [if_neg c6] at H
  exact absurd H r17_
 rw [if_pos c6] at H
 have c6b0 := decide_eq_true c6
 clear c6
 simp only [Option.some.injEq, Prod.mk.injEq] at H
 obtain ⟨rfl, rfl, rfl, rfl, rfl, rfl, rfl, rfl, rfl, rfl, rfl⟩ := H
 go_enter Try.func19, Try.ntmps19
 try go_wp2_with (first | ((with_reducible refine gate_dst (N := 2) rfl ?_); refine box_event ?hg (N := 2) ?hd (cs := #[.string (⟨#[]⟩ : ByteArray), .int .u64 0, .bool false, .string (⟨#[]⟩ : ByteArray)]) (t := 37) ?hr ?_; (case hd => rfl); (case hg => rfl); (case hr => first | (go_simp; done) | (go_simp; rfl)); intro gb174 hg w7 hbox hb; replace HB := Aside0.mk (below_step r8_ hb); have BK174 := Aside0.mk (hbox); have GW174 := Aside0.mk ((by rw [hg]; exact (keep_size (w := w) (g := g) (row := none) r3_) : w.heap.size ≤ gb174)); have GE174 := Aside0.mk ((Nat.le_trans HW0.out (by rw [hg]; exact (keep_size (w := w) (g := g) (row := none) r3_) : w.heap.size ≤ gb174) : w0.heap.size ≤ gb174)); replace HK := Aside0.mk (KeepBut.trans r3_ (KeepBut.of_below hb g none) (.inl rfl)); have NB0_174 := Aside0.mk ((by rw [hg]; exact Nat.ne_of_lt (IsS82.lt (show IsS82 w0 _ g s0_0 s0_1 s0_2 s0_3 from by repeat (first | (with_reducible first | exact HI0.out | apply IsS82.alloc | apply IsS82.drewN | apply IsS82.drew | apply IsS82.set_0 | apply IsS82.set_2 | apply IsS82.set_3) | exact HI0.out))) : g ≠ gb174)); have NB174_0 := Aside0.mk ((by rw [hg]; exact Nat.ne_of_gt (IsS82.lt (show IsS82 w0 _ g s0_0 s0_1 s0_2 s0_3 from by repeat (first | (with_reducible first | exact HI0.out | apply IsS82.alloc | apply IsS82.drewN | apply IsS82.drew | apply IsS82.set_0 | apply IsS82.set_2 | apply IsS82.set_3) | exact HI0.out))) : gb174 ≠ g)); replace HI0 := Aside0.mk (IsS82.below r6_ hb); clear hb hbox hg) | ((with_reducible refine gate_dst (N := 3) rfl ?_); refine box_event ?hg (N := 3) ?hd (cs := #[.string (⟨#[]⟩ : ByteArray), .int .u64 0, .bool false, .string (⟨#[]⟩ : ByteArray)]) (t := 37) ?hr ?_; (case hd => rfl); (case hg => rfl); (case hr => first | (go_simp; done) | (go_simp; rfl)); intro gb175 hg w8 hbox hb; replace HB := Aside0.mk (below_step (by repeat (first | (with_reducible first | exact HB.out | apply below_alloc | apply pw_below_drewN | apply below_drew1 | refine below_set ?_ (IsS82.ge HI0.out) | refine below_set ?_ GE174.out) | exact HB.out)) hb); have BK175 := Aside0.mk (hbox); have GW175 := Aside0.mk ((by rw [hg]; exact (keep_size (w := w) (g := g) (row := none) r36_) : w.heap.size ≤ gb175)); have GE175 := Aside0.mk ((Nat.le_trans HW0.out (by rw [hg]; exact (keep_size (w := w) (g := g) (row := none) r36_) : w.heap.size ≤ gb175) : w0.heap.size ≤ gb175)); replace HK := Aside0.mk (KeepBut.trans r36_ (KeepBut.of_below hb g none) (.inl rfl)); have NB174_175 := Aside0.mk ((by rw [hg]; exact Nat.ne_of_lt (blk_lt (g := gb174) (o := .cells #[.string (⟨#[]⟩ : ByteArray), .int .u64 0, .bool false, .string (⟨#[]⟩ : ByteArray)] 37 (0, 0)) r29_) : gb174 ≠ gb175)); have NB175_174 := Aside0.mk ((by rw [hg]; exact Nat.ne_of_gt (blk_lt (g := gb174) (o := .cells #[.string (⟨#[]⟩ : ByteArray), .int .u64 0, .bool false, .string (⟨#[]⟩ : ByteArray)] 37 (0, 0)) r29_) : gb175 ≠ gb174)); replace BK174 := Aside0.mk (blk_below (g := gb174) (o := .cells #[.string (⟨#[]⟩ : ByteArray), .int .u64 0, .bool false, .string (⟨#[]⟩ : ByteArray)] 37 (0, 0)) r29_ hb); have NB0_175 := Aside0.mk ((by rw [hg]; exact Nat.ne_of_lt (IsS82.lt (show IsS82 w0 _ g s0_0 s0_1 s0_2 s0_3 from by repeat (first | (with_reducible first | exact HI0.out | apply IsS82.alloc | apply IsS82.drewN | apply IsS82.drew | apply IsS82.set_0 | apply IsS82.set_2 | apply IsS82.set_3 | refine IsS82.far ?_ NB0_174.out _) | exact HI0.out))) : g ≠ gb175)); have NB175_0 := Aside0.mk ((by rw [hg]; exact Nat.ne_of_gt (IsS82.lt (show IsS82 w0 _ g s0_0 s0_1 s0_2 s0_3 from by repeat (first | (with_reducible first | exact HI0.out | apply IsS82.alloc | apply IsS82.drewN | apply IsS82.drew | apply IsS82.set_0 | apply IsS82.set_2 | apply IsS82.set_3 | refine IsS82.far ?_ NB0_174.out _) | exact HI0.out))) : gb175 ≠ g)); replace HI0 := Aside0.mk (IsS82.below (by repeat (first | (with_reducible first | exact HI0.out | apply IsS82.alloc | apply IsS82.drewN | apply IsS82.drew | apply IsS82.set_0 | apply IsS82.set_2 | apply IsS82.set_3 | refine IsS82.far ?_ NB0_174.out _) | exact HI0.out)) hb); clear hb hbox hg) | ((with_reducible refine gate_callee (f := 22) rfl ?_); refine goesL_ (some 6) rfl rfl Try.func22 r2_ rfl #[.pointer (some ⟨g, 0, none⟩)] rfl hA_ ?_; (with_reducible refine (qa1.calls k g s0_0 s0_1 s0_2 s0_3 t176 t179 t180 t181 w0 _ ?side1 ?side2 A2.out).mono ?_); (case side1 => repeat (first | (with_reducible first | exact HI0.out | apply IsS82.alloc | apply IsS82.drewN | apply IsS82.drew | apply IsS82.set_0 | apply IsS82.set_2 | apply IsS82.set_3 | refine IsS82.far ?_ NB0_174.out _ | refine IsS82.far ?_ NB0_175.out _) | exact HI0.out)); (case side2 => repeat (first | (with_reducible first | exact HB.out | apply below_alloc | apply pw_below_drewN | apply below_drew1 | refine below_set ?_ (IsS82.ge HI0.out) | refine below_set ?_ GE174.out | refine below_set ?_ GE175.out) | exact HB.out)); rintro e w9 ⟨v177, rfl, ho0, hi, hb, hk⟩; refine ⟨_, rfl, ?_⟩; have HO178 := Aside0.mk (Kd.R_lower (Kd.R_newB (Kd.R_newB ho0 (g := gb174) (o := .cells #[.string (⟨#[]⟩ : ByteArray), .int .u64 0, .bool false, .string (⟨#[]⟩ : ByteArray)] 37 (0, 0)) r29_) (g := gb175) (o := .cells #[.string (⟨#[]⟩ : ByteArray), .int .u64 0, .bool false, .string (⟨#[]⟩ : ByteArray)] 37 (0, 0)) (by (with_reducible repeat (first | refine blk_drewN ?_ _ | refine blk_drew ?_ | refine blk_alloc ?_ _)); exact BK175.out)) (keep_size (w := w) (g := g) (row := none) r31_)); replace BK174 := Aside0.mk (KeepBut.blk hk (g' := gb174) (o := .cells #[.string (⟨#[]⟩ : ByteArray), .int .u64 0, .bool false, .string (⟨#[]⟩ : ByteArray)] 37 (0, 0)) r29_ NB174_0.out r17_); replace BK175 := Aside0.mk (KeepBut.blk hk (g' := gb175) (o := .cells #[.string (⟨#[]⟩ : ByteArray), .int .u64 0, .bool false, .string (⟨#[]⟩ : ByteArray)] 37 (0, 0)) (by (with_reducible repeat (first | refine blk_drewN ?_ _ | refine blk_drew ?_ | refine blk_alloc ?_ _)); exact BK175.out) NB175_0.out r17_); replace HK := Aside0.mk (KeepBut.trans r31_ hk (.inl rfl)); replace HB := Aside0.mk (hb); replace HI0 := Aside0.mk (hi); clear hb hk hi ho0 A2))
 replace HO178 := Aside0.mk (Kd.R_drew HO178.out)
 replace BK174 := Aside0.mk (blk_drew BK174.out)
 replace BK175 := Aside0.mk (blk_drew BK175.out)
 replace HI0 := Aside0.mk (IsS82.drew HI0.out)
 replace HK := Aside0.mk (keep_drew HK.out)
 replace HB := Aside0.mk (below_drew1 HB.out)
 obtain ⟨Ao11, co11, eo11⟩ := Kd.R_slice HO178.out
 (first | subst eo11 | (injection eo11 with f1_ f2_ f3_; have f4_ := f1_.symm; have f5_ := f3_.symm; clear f1_ f2_ f3_; subst f4_; subst f5_))
 have p182 : 0 ≤ (0 : Int) := r18_
 have q182 : 0 < (t176.length : Int) := of_decide_eq_true as_
 obtain ⟨ad182, e182, hx182_0, hx182_1, hx182_2, hx182_3⟩ := at_T37 (Kd.R_reads' HO178.out).2.2 0 p182 q182
 cases e182
 have qi182 : (0 < t176.length) = True := eq_true r18_
 (try rw [show ((0 : Int)).toNat = 0 from rfl] at hx182_0)
 (try rw [show 0 * 4 = 0 from rfl] at hx182_0)
 (try rw [Addr.add_zero'] at hx182_0)
 (try rw [show ((0 : Int)).toNat = 0 from rfl] at hx182_1)
 (try rw [show 0 * 4 = 0 from rfl] at hx182_1)
 (try rw [Addr.add_zero'] at hx182_1)
 (try rw [show ((0 : Int)).toNat = 0 from rfl] at hx182_2)
 (try rw [show 0 * 4 = 0 from rfl] at hx182_2)
 (try rw [Addr.add_zero'] at hx182_2)
 (try rw [show ((0 : Int)).toNat = 0 from rfl] at hx182_3)
 (try rw [show 0 * 4 = 0 from rfl] at hx182_3)
 (try rw [Addr.add_zero'] at hx182_3)
 replace p182 := eq_true p182
 replace q182 := eq_true q182
 have p183 : 0 ≤ ((ji4) : Int) := of_decide_eq_true as_
 have q183 : (ji4) < (t176.length : Int) := of_decide_eq_true as_
 obtain ⟨ad183, e183, hx183_0, hx183_1, hx183_2, hx183_3⟩ := at_T37 (Kd.R_reads' HO178.out).2.2 (ji4) p183 q183
 obtain rfl : ad182 = ad183 := (by injection e183)
 replace p183 := eq_true p183
 replace q183 := eq_true q183
 refine start_ (n := 11) (S := fun w' => w'.cell? ad182 = some (.string ((rd_T37 t176 0).f0)) ∧ w'.cell? ⟨ad182.block, ad182.off + 1, none⟩ = some (.int .u64 ((rd_T37 t176 0).f1)) ∧ w'.cell? ⟨ad182.block, ad182.off + 2, none⟩ = some (.bool ((rd_T37 t176 0).f2)) ∧ w'.cell? ⟨ad182.block, ad182.off + 3, none⟩ = some (.string ((rd_T37 t176 0).f3)) ∧ w'.cell? (ad182.add (((ji4)).toNat * 4)) = some (.string ((rd_T37 t176 (ji4)).f0)) ∧ w'.cell? ⟨(ad182.add (((ji4)).toNat * 4)).block, (ad182.add (((ji4)).toNat * 4)).off + 1, none⟩ = some (.int .u64 ((rd_T37 t176 (ji4)).f1)) ∧ w'.cell? ⟨(ad182.add (((ji4)).toNat * 4)).block, (ad182.add (((ji4)).toNat * 4)).off + 2, none⟩ = some (.bool ((rd_T37 t176 (ji4)).f2)) ∧ w'.cell? ⟨(ad182.add (((ji4)).toNat * 4)).block, (ad182.add (((ji4)).toNat * 4)).off + 3, none⟩ = some (.string ((rd_T37 t176 (ji4)).f3))) (ds := []) #[N,N,N,N,N,N,N,N,N,N,N] r2_ rfl rfl ⟨hx182_0, hx182_1, hx182_2, hx182_3, hx183_0, hx183_1, hx183_2, hx183_3⟩ (fun hHeld => ?_); refine with_tabW qZ.tab2 qZ.bits2 (fun HT_ HW_ => ?_)
 generalize w9.drew = w10 at HO178 BK174 BK175 HI0 HK HB hx182_0 hx182_1 hx182_2 hx182_3 hx183_0 hx183_1 hx183_2 hx183_3 hHeld ⊢
 refine pu_ 0 (some 7) #[Y,N,N,N,N,N,N,N,N,N,N] (any_of HT_.out r2_) ?_
 refine pu_ 1 (some 8) #[Y,Y,N,N,N,N,N,N,N,N,N] (any_of HT_.out r2_) ?_
 refine pu_ 3 (some 10) #[Y,Y,N,Y,N,N,N,N,N,N,N] (any_of HT_.out r2_) ?_
 refine pu_ 4 (some 11) #[Y,Y,N,Y,Y,N,N,N,N,N,N] (any_of HT_.out r2_) ?_
 refine pu_ 5 (some 12) #[Y,Y,N,Y,Y,Y,N,N,N,N,N] (any_of HT_.out r2_) ?_
 refine pu_ 6 (some 13) #[Y,Y,N,Y,Y,Y,Y,N,N,N,N] (any_of HT_.out r2_) ?_
 refine pu_ 7 (some 14) #[Y,Y,N,Y,Y,Y,Y,Y,N,N,N] (any_of HT_.out r2_) ?_
 refine tk_ (v := ?_) 2 (some 9) #[Y,Y,Y,Y,Y,Y,Y,Y,N,N,N] (take_ofW HT_.out HW_.out r2_) hHeld ?_ ?_
 rotate_left
 ·rintro w' ⟨s0, s1, s2, s3, s4, s5, s6, s7⟩
  go_simp
  with_reducible rfl
 refine tk_ (v := ?_) 8 (some 15) #[Y,Y,Y,Y,Y,Y,Y,Y,Y,N,N] (take_ofW HT_.out HW_.out r2_) hHeld ?_ ?_
 rotate_left
 ·rintro w' ⟨s0, s1, s2, s3, s4, s5, s6, s7⟩
  go_simp
  with_reducible rfl
 refine one_ (i := 9) (N := none) #[Y,Y,Y,Y,Y,Y,Y,Y,Y,Y,N] rfl rfl (one_of HT_.out r2_) r24_ (fun K hK => ?_)
 have hs12 : w10.cell? ⟨gb174, 0, none⟩ = some (.string (⟨#[]⟩ : ByteArray)) := (blk_cell BK174.out 0).trans rfl
 have hfs12 := blk_frozen BK174.out 0
 have hns12_1 := NB175_174.out
 have hms12_1 := NB174_175.out
 have hs13 : w10.cell? ⟨gb174, 1, none⟩ = some (.int .u64 0) := (blk_cell BK174.out 1).trans rfl
 have hfs13 := blk_frozen BK174.out 1
 have hns13_1 := NB175_174.out
 have hms13_1 := NB174_175.out
 have hs14 : w10.cell? ⟨gb174, 2, none⟩ = some (.bool false) := (blk_cell BK174.out 2).trans rfl
 have hfs14 := blk_frozen BK174.out 2
 have hns14_1 := NB175_174.out
 have hms14_1 := NB174_175.out
 have hs15 : w10.cell? ⟨gb174, 3, none⟩ = some (.string (⟨#[]⟩ : ByteArray)) := (blk_cell BK174.out 3).trans rfl
 have hfs15 := blk_frozen BK174.out 3
 have hns15_1 := NB175_174.out
 have hms15_1 := NB174_175.out
 refine skip_ (w1 := ?_) r37_ rfl ?_ ?_
 rotate_left
 ·go_simp
  rfl
 refine hK.out _ _ ⟨((cell_far (p := ⟨gb174, _, none⟩) r0_ _).trans (((cell_far (p := ⟨gb174, _, none⟩) r0_ _).trans (((cell_far (p := ⟨gb174, _, none⟩) r0_ _).trans (((cell_far (p := ⟨gb174, _, none⟩) r0_ _).trans (hHeld.1)))))))), ((cell_far (p := ⟨gb174, _, none⟩) r0_ _).trans (((cell_far (p := ⟨gb174, _, none⟩) r0_ _).trans (((cell_far (p := ⟨gb174, _, none⟩) r0_ _).trans (((cell_far (p := ⟨gb174, _, none⟩) r0_ _).trans (hHeld.2.1)))))))), ((cell_far (p := ⟨gb174, _, none⟩) r0_ _).trans (((cell_far (p := ⟨gb174, _, none⟩) r0_ _).trans (((cell_far (p := ⟨gb174, _, none⟩) r0_ _).trans (((cell_far (p := ⟨gb174, _, none⟩) r0_ _).trans (hHeld.2.2.1)))))))), ((cell_far (p := ⟨gb174, _, none⟩) r0_ _).trans (((cell_far (p := ⟨gb174, _, none⟩) r0_ _).trans (((cell_far (p := ⟨gb174, _, none⟩) r0_ _).trans (((cell_far (p := ⟨gb174, _, none⟩) r0_ _).trans (hHeld.2.2.2.1)))))))), ((cell_far (p := ⟨gb174, _, none⟩) r0_ _).trans (((cell_far (p := ⟨gb174, _, none⟩) r0_ _).trans (((cell_far (p := ⟨gb174, _, none⟩) r0_ _).trans (((cell_far (p := ⟨gb174, _, none⟩) r0_ _).trans (hHeld.2.2.2.2.1)))))))), ((cell_far (p := ⟨gb174, _, none⟩) r0_ _).trans (((cell_far (p := ⟨gb174, _, none⟩) r0_ _).trans (((cell_far (p := ⟨gb174, _, none⟩) r0_ _).trans (((cell_far (p := ⟨gb174, _, none⟩) r0_ _).trans (hHeld.2.2.2.2.2.1)))))))), ((cell_far (p := ⟨gb174, _, none⟩) r0_ _).trans (((cell_far (p := ⟨gb174, _, none⟩) r0_ _).trans (((cell_far (p := ⟨gb174, _, none⟩) r0_ _).trans (((cell_far (p := ⟨gb174, _, none⟩) r0_ _).trans (hHeld.2.2.2.2.2.2.1)))))))), ((cell_far (p := ⟨gb174, _, none⟩) r0_ _).trans (((cell_far (p := ⟨gb174, _, none⟩) r0_ _).trans (((cell_far (p := ⟨gb174, _, none⟩) r0_ _).trans (((cell_far (p := ⟨gb174, _, none⟩) r0_ _).trans (hHeld.2.2.2.2.2.2.2))))))))⟩ (fun hHeld => ?_)
 clear hK K
 refine one_ (i := 10) (N := none) #[Y,Y,Y,Y,Y,Y,Y,Y,Y,Y,Y] rfl rfl (one_of HT_.out r2_) r24_ (fun K hK => ?_)
 have hs16 : w10.cell? ⟨gb175, 0, none⟩ = some (.string (⟨#[]⟩ : ByteArray)) := (blk_cell BK175.out 0).trans rfl
 have hfs16 := blk_frozen BK175.out 0
 have hns16_0 := NB174_175.out
 have hms16_0 := NB175_174.out
 have hs17 : w10.cell? ⟨gb175, 1, none⟩ = some (.int .u64 0) := (blk_cell BK175.out 1).trans rfl
 have hfs17 := blk_frozen BK175.out 1
 have hns17_0 := NB174_175.out
 have hms17_0 := NB175_174.out
 have hs18 : w10.cell? ⟨gb175, 2, none⟩ = some (.bool false) := (blk_cell BK175.out 2).trans rfl
 have hfs18 := blk_frozen BK175.out 2
 have hns18_0 := NB174_175.out
 have hms18_0 := NB175_174.out
 have hs19 : w10.cell? ⟨gb175, 3, none⟩ = some (.string (⟨#[]⟩ : ByteArray)) := (blk_cell BK175.out 3).trans rfl
 have hfs19 := blk_frozen BK175.out 3
 have hns19_0 := NB174_175.out
 have hms19_0 := NB175_174.out
 refine skip_ (w1 := ?_) r37_ rfl ?_ ?_
 rotate_left
 ·go_simp
  rfl
 refine hK.out _ _ ⟨((cell_far (p := ⟨gb175, _, none⟩) r1_ _).trans (((cell_far (p := ⟨gb175, _, none⟩) r1_ _).trans (((cell_far (p := ⟨gb175, _, none⟩) r1_ _).trans (((cell_far (p := ⟨gb175, _, none⟩) r1_ _).trans (hHeld.1)))))))), ((cell_far (p := ⟨gb175, _, none⟩) r1_ _).trans (((cell_far (p := ⟨gb175, _, none⟩) r1_ _).trans (((cell_far (p := ⟨gb175, _, none⟩) r1_ _).trans (((cell_far (p := ⟨gb175, _, none⟩) r1_ _).trans (hHeld.2.1)))))))), ((cell_far (p := ⟨gb175, _, none⟩) r1_ _).trans (((cell_far (p := ⟨gb175, _, none⟩) r1_ _).trans (((cell_far (p := ⟨gb175, _, none⟩) r1_ _).trans (((cell_far (p := ⟨gb175, _, none⟩) r1_ _).trans (hHeld.2.2.1)))))))), ((cell_far (p := ⟨gb175, _, none⟩) r1_ _).trans (((cell_far (p := ⟨gb175, _, none⟩) r1_ _).trans (((cell_far (p := ⟨gb175, _, none⟩) r1_ _).trans (((cell_far (p := ⟨gb175, _, none⟩) r1_ _).trans (hHeld.2.2.2.1)))))))), ((cell_far (p := ⟨gb175, _, none⟩) r1_ _).trans (((cell_far (p := ⟨gb175, _, none⟩) r1_ _).trans (((cell_far (p := ⟨gb175, _, none⟩) r1_ _).trans (((cell_far (p := ⟨gb175, _, none⟩) r1_ _).trans (hHeld.2.2.2.2.1)))))))), ((cell_far (p := ⟨gb175, _, none⟩) r1_ _).trans (((cell_far (p := ⟨gb175, _, none⟩) r1_ _).trans (((cell_far (p := ⟨gb175, _, none⟩) r1_ _).trans (((cell_far (p := ⟨gb175, _, none⟩) r1_ _).trans (hHeld.2.2.2.2.2.1)))))))), ((cell_far (p := ⟨gb175, _, none⟩) r1_ _).trans (((cell_far (p := ⟨gb175, _, none⟩) r1_ _).trans (((cell_far (p := ⟨gb175, _, none⟩) r1_ _).trans (((cell_far (p := ⟨gb175, _, none⟩) r1_ _).trans (hHeld.2.2.2.2.2.2.1)))))))), ((cell_far (p := ⟨gb175, _, none⟩) r1_ _).trans (((cell_far (p := ⟨gb175, _, none⟩) r1_ _).trans (((cell_far (p := ⟨gb175, _, none⟩) r1_ _).trans (((cell_far (p := ⟨gb175, _, none⟩) r1_ _).trans (hHeld.2.2.2.2.2.2.2))))))))⟩ (fun hHeld => ?_)
 clear hK K
 refine done_ (done_of HT_.out r2_) ?_
 (try clear hHeld)
 try go_wp2
 refine bodyPost_ret (results_cc rfl _ _ gb174 gb175 37 37 #[.string ((rd_T37 t176 0).f0), .int .u64 ((rd_T37 t176 0).f1), .bool ((rd_T37 t176 0).f2), .string ((rd_T37 t176 0).f3)] #[.string ((rd_T37 t176 (ji4)).f0), .int .u64 ((rd_T37 t176 (ji4)).f1), .bool ((rd_T37 t176 (ji4)).f2), .string ((rd_T37 t176 (ji4)).f3)] (0, 0) (0, 0) _ _ rfl (by (with_reducible repeat (first | refine blk_drewN ?_ _ | refine blk_drew ?_ | refine blk_alloc ?_ _)); refine blk_far ?_ NB174_175.out _; (with_reducible repeat (first | refine blk_drewN ?_ _ | refine blk_drew ?_ | refine blk_alloc ?_ _)); refine blk_far ?_ NB174_175.out _; (with_reducible repeat (first | refine blk_drewN ?_ _ | refine blk_drew ?_ | refine blk_alloc ?_ _)); refine blk_far ?_ NB174_175.out _; (with_reducible repeat (first | refine blk_drewN ?_ _ | refine blk_drew ?_ | refine blk_alloc ?_ _)); refine blk_far ?_ NB174_175.out _; (with_reducible repeat (first | refine blk_drewN ?_ _ | refine blk_drew ?_ | refine blk_alloc ?_ _)); refine blk_put (cs := #[.string ((rd_T37 t176 0).f0), .int .u64 ((rd_T37 t176 0).f1), .bool ((rd_T37 t176 0).f2), .string (⟨#[]⟩ : ByteArray)]) ?_ 3 _ rfl; (with_reducible repeat (first | refine blk_drewN ?_ _ | refine blk_drew ?_ | refine blk_alloc ?_ _)); refine blk_put (cs := #[.string ((rd_T37 t176 0).f0), .int .u64 ((rd_T37 t176 0).f1), .bool false, .string (⟨#[]⟩ : ByteArray)]) ?_ 2 _ rfl; (with_reducible repeat (first | refine blk_drewN ?_ _ | refine blk_drew ?_ | refine blk_alloc ?_ _)); refine blk_put (cs := #[.string ((rd_T37 t176 0).f0), .int .u64 0, .bool false, .string (⟨#[]⟩ : ByteArray)]) ?_ 1 _ rfl; (with_reducible repeat (first | refine blk_drewN ?_ _ | refine blk_drew ?_ | refine blk_alloc ?_ _)); refine blk_put (cs := #[.string (⟨#[]⟩ : ByteArray), .int .u64 0, .bool false, .string (⟨#[]⟩ : ByteArray)]) ?_ 0 _ rfl; (with_reducible repeat (first | refine blk_drewN ?_ _ | refine blk_drew ?_ | refine blk_alloc ?_ _)); exact BK174.out) Try.underlying37 rfl r2_ rfl (by (with_reducible repeat (first | refine blk_drewN ?_ _ | refine blk_drew ?_ | refine blk_alloc ?_ _)); refine blk_put (cs := #[.string ((rd_T37 t176 (ji4)).f0), .int .u64 ((rd_T37 t176 (ji4)).f1), .bool ((rd_T37 t176 (ji4)).f2), .string (⟨#[]⟩ : ByteArray)]) ?_ 3 _ rfl; (with_reducible repeat (first | refine blk_drewN ?_ _ | refine blk_drew ?_ | refine blk_alloc ?_ _)); refine blk_put (cs := #[.string ((rd_T37 t176 (ji4)).f0), .int .u64 ((rd_T37 t176 (ji4)).f1), .bool false, .string (⟨#[]⟩ : ByteArray)]) ?_ 2 _ rfl; (with_reducible repeat (first | refine blk_drewN ?_ _ | refine blk_drew ?_ | refine blk_alloc ?_ _)); refine blk_put (cs := #[.string ((rd_T37 t176 (ji4)).f0), .int .u64 0, .bool false, .string (⟨#[]⟩ : ByteArray)]) ?_ 1 _ rfl; (with_reducible repeat (first | refine blk_drewN ?_ _ | refine blk_drew ?_ | refine blk_alloc ?_ _)); refine blk_put (cs := #[.string (⟨#[]⟩ : ByteArray), .int .u64 0, .bool false, .string (⟨#[]⟩ : ByteArray)]) ?_ 0 _ rfl; (with_reducible repeat (first | refine blk_drewN ?_ _ | refine blk_drew ?_ | refine blk_alloc ?_ _)); refine blk_far ?_ NB175_174.out _; (with_reducible repeat (first | refine blk_drewN ?_ _ | refine blk_drew ?_ | refine blk_alloc ?_ _)); refine blk_far ?_ NB175_174.out _; (with_reducible repeat (first | refine blk_drewN ?_ _ | refine blk_drew ?_ | refine blk_alloc ?_ _)); refine blk_far ?_ NB175_174.out _; (with_reducible repeat (first | refine blk_drewN ?_ _ | refine blk_drew ?_ | refine blk_alloc ?_ _)); refine blk_far ?_ NB175_174.out _; (with_reducible repeat (first | refine blk_drewN ?_ _ | refine blk_drew ?_ | refine blk_alloc ?_ _)); exact BK175.out) Try.underlying37 rfl r2_) rfl ?_
 exact ⟨by first | rfl | (simp [errW_none, errW_some] <;> rfl) | (simp (disch := omega) only [← i64_w, IntWalk.i64_in]; rfl) | (simp only [← hji4]; first | rfl | (simp [errW_none, errW_some] <;> rfl)) | (simp [*, errW_none, errW_some] <;> rfl), by repeat (first | (with_reducible first | exact HI0.out | apply IsS82.alloc | apply IsS82.drewN | apply IsS82.drew | apply IsS82.set_0 | apply IsS82.set_2 | apply IsS82.set_3 | refine IsS82.far ?_ NB0_174.out _ | refine IsS82.far ?_ NB0_175.out _) | exact HI0.out), by repeat (first | (with_reducible first | exact HB.out | apply below_alloc | apply pw_below_drewN | apply below_drew1 | refine below_set ?_ (IsS82.ge HI0.out) | refine below_set ?_ GE174.out | refine below_set ?_ GE175.out) | exact HB.out), r31_⟩

/-! ### qG: function 23 -/
def qG.l0 : Nat → ByteArray → Int → List (S37) → ByteArray → List (S80) → ByteArray → Int → Option ((List (S37)) × ByteArray × ByteArray × Int)
 | 0, _, _, _, _, _, _, _ => none
 | k + 1, x1, x2, x7, x1000, x1001, x1002, x1003 => if (x7.length : Int) > 0 then (if 0 < (x7.length : Int) then (if (Op.bytesLess (((rd_T37 x7 0).f0).toList) x1.toList) = true then (if 1 ≤ (x7.length : Int) then (qG.l0 k x1 x2 (x7.drop (1 : Int).toNat) x1000 x1001 x1002 x1003) else (none)) else (if 0 ≤ (mn (mx x2 0) (x7.length : Int)) then (if (mn (mx x2 0) (x7.length : Int)) ≤ (x7.length : Int) then (some ((x7.take ((mn (mx x2 0) (x7.length : Int)) : Int).toNat), x1000, x1002, x1003)) else (none)) else (none))) else (none)) else (if 0 ≤ (mn (mx x2 0) (x7.length : Int)) then (if (mn (mx x2 0) (x7.length : Int)) ≤ (x7.length : Int) then (some ((x7.take ((mn (mx x2 0) (x7.length : Int)) : Int).toNat), x1000, x1002, x1003)) else (none)) else (none))
def qG.f (k : Nat) (s0_0 : ByteArray) (s0_1 : List (S80)) (s0_2 : ByteArray) (s0_3 : Int) (a1 : ByteArray) (a2 : Int) : Option ((List (S37)) × ByteArray × ByteArray × Int) := (qv.f k s0_0 s0_1 s0_2 s0_3 a1 18446744073709551615).bind fun bt184 => ((qy.f k bt184.2.1 s0_1 bt184.2.2.1 bt184.2.2.2 bt184.1).bind fun bt188 => (qG.l0 k a1 a2 bt188.1 bt188.2.1 s0_1 bt188.2.2.1 bt188.2.2.2))
theorem qG.mono_l : ∀ k, (∀ y0 y1 y2 y3 y4 y5 y6, LeO (qG.l0 k y0 y1 y2 y3 y4 y5 y6) (qG.l0 (k + 1) y0 y1 y2 y3 y4 y5 y6))
 | 0 => fun _ _ _ _ _ _ _ r h => by simp [qG.l0] at h
 | k + 1 => by
  have ih0 := qG.mono_l k
  ·intro y0 y1 y2 y3 y4 y5 y6
   unfold qG.l0
   repeat' first
   | (with_reducible exact ih0 _ _ _ _ _ _ _)
   | (with_reducible exact LeO.refl _)
   | (with_reducible exact LeO.none _)
   | (with_reducible refine LeO.ite ?_ ?_)
   | (with_reducible refine LeO.bind ?_ (fun _ => ?_))
   | exact ih0 _ _ _ _ _ _ _
   | exact qv.mono _ _ _ _ _ _ _
   | exact qy.mono _ _ _ _ _ _
   | exact LeO.none _
   | refine LeO.ite ?_ ?_
   | refine LeO.bind ?_ (fun _ => ?_)
theorem qG.mono : ∀ a0 a1 a2 a3 a4 a5 k, LeO (qG.f k a0 a1 a2 a3 a4 a5) (qG.f (k + 1) a0 a1 a2 a3 a4 a5) := by
 intro a0 a1 a2 a3 a4 a5 k
 have ih0 := qG.mono_l k
 unfold qG.f
 repeat' first
   | (with_reducible exact ih0 _ _ _ _ _ _ _)
   | (with_reducible exact LeO.refl _)
   | (with_reducible exact LeO.none _)
   | (with_reducible refine LeO.ite ?_ ?_)
   | (with_reducible refine LeO.bind ?_ (fun _ => ?_))
   | exact ih0 _ _ _ _ _ _ _
   | exact qv.mono _ _ _ _ _ _ _
   | exact qy.mono _ _ _ _ _ _
   | exact LeO.none _
   | refine LeO.ite ?_ ?_
   | refine LeO.bind ?_ (fun _ => ?_)
set_option maxHeartbeats 8000000 in
set_option maxRecDepth 100000 in
theorem qG.calls (k : Nat) (g : Nat) (s0_0 : ByteArray) (s0_1 : List (S80)) (s0_2 : ByteArray) (s0_3 : Int) (a1 : ByteArray) (a2 : Int) (r1 : List (S37)) (r2 : ByteArray) (r3 : ByteArray) (r4 : Int) (w0 w : World) (hI : IsS82 w0 w g s0_0 s0_1 s0_2 s0_3) (hB : Below w0.heap.size w0 w) (h : qG.f k s0_0 s0_1 s0_2 s0_3 a1 a2 = some (r1, r2, r3, r4)) :
  Calls Try.prog 23 #[.pointer (some ⟨g, 0, none⟩), .string a1, .int .i64 a2] w fun e w' => ∃ v0_ : Value, e = .returned (v0_) ∧ Kd.Q k37 37 w' w.heap.size (fun _ => True) v0_ r1 ∧ IsS82 w0 w' g r2 s0_1 r3 r4 ∧ Below w0.heap.size w0 w' ∧ KeepBut w w' g none := by
 have HI0 := Aside0.mk hI
 have HK := Aside0.mk (KeepBut.refl w g none)
 have HL := Aside0.mk hB.size
 clear hI
 have HW0 := Aside0.mk hB.size
 have HB := Aside0.mk hB
 clear hB
 have H : ((qv.f k s0_0 s0_1 s0_2 s0_3 a1 18446744073709551615).bind fun bt184 => ((qy.f k bt184.2.1 s0_1 bt184.2.2.1 bt184.2.2.2 bt184.1).bind fun bt188 => (qG.l0 k a1 a2 bt188.1 bt188.2.1 s0_1 bt188.2.2.1 bt188.2.2.2))) = some (r1, r2, r3, r4) := h
 clear h
 replace H := bs_ H
 obtain ⟨⟨t184, t185, t186, t187⟩, A40, H⟩ := H
 try dsimp only at H
 have A4 := Aside0.mk A40
 clear A40
 replace H := bs_ H
 obtain ⟨⟨t188, t191, t192, t193⟩, A50, H⟩ := H
 try dsimp only at H
 have A5 := Aside0.mk A50
 clear A50
 have H' := Aside0.mk H
 clear H
 go_enter Try.func23, Try.ntmps23
 go_wp2_with (first | ((with_reducible refine gate_callee (f := 47) rfl ?_); refine goesL_ (some 11) rfl rfl Try.func47 r2_ rfl #[.pointer (some ⟨g, 0, none⟩), .string a1, .int .u64 18446744073709551615] rfl hA_ ?_; (with_reducible refine (qv.calls k g s0_0 s0_1 s0_2 s0_3 a1 18446744073709551615 t184 t185 t186 t187 w0 _ ?side1 ?side2 A4.out).mono ?_); (case side1 => repeat (first | (with_reducible first | exact HI0.out | apply IsS82.alloc | apply IsS82.drewN | apply IsS82.drew | apply IsS82.set_0 | apply IsS82.set_2 | apply IsS82.set_3) | exact HI0.out)); (case side2 => repeat (first | (with_reducible first | exact HB.out | apply below_alloc | apply pw_below_drewN | apply below_drew1 | refine below_set ?_ (IsS82.ge HI0.out)) | exact HB.out)); rintro e w6 ⟨rfl, hi, hb, hk⟩; refine ⟨_, rfl, ?_⟩; replace HK := Aside0.mk (KeepBut.trans r3_ hk (.inl rfl)); replace HB := Aside0.mk (hb); replace HI0 := Aside0.mk (hi); clear hb hk hi A4) | ((with_reducible refine gate_callee (f := 52) rfl ?_); refine goesL_ (some 12) rfl rfl Try.func52 r2_ rfl #[.pointer (some ⟨g, 0, none⟩), .int .i64 t184] rfl hA_ ?_; (with_reducible refine (qy.calls k g t185 s0_1 t186 t187 t184 t188 t191 t192 t193 w0 _ ?side1 ?side2 A5.out).mono ?_); (case side1 => repeat (first | (with_reducible first | exact HI0.out | apply IsS82.alloc | apply IsS82.drewN | apply IsS82.drew | apply IsS82.set_0 | apply IsS82.set_2 | apply IsS82.set_3) | exact HI0.out)); (case side2 => repeat (first | (with_reducible first | exact HB.out | apply below_alloc | apply pw_below_drewN | apply below_drew1 | refine below_set ?_ (IsS82.ge HI0.out)) | exact HB.out)); rintro e w7 ⟨v189, rfl, ho0, hi, hb, hk⟩; refine ⟨_, rfl, ?_⟩; have HO190 := Aside0.mk (Kd.R_lower ho0 (keep_size (w := w) (g := g) (row := none) r3_)); replace HK := Aside0.mk (KeepBut.trans r3_ hk (.inl rfl)); replace HB := Aside0.mk (hb); replace HI0 := Aside0.mk (hi); clear hb hk hi ho0 A5))
 go_loopg [7] k (fun kq v7 w' => ∃ (x7_1 : List (S37)), Aside0 (qG.l0 kq a1 a2 x7_1 t191 s0_1 t192 t193 = some (r1, r2, r3, r4)) ∧ Aside0 (kq ≤ k) ∧ Aside0 (Kd.Q k37 37 w' w.heap.size (fun _ => True) v7 x7_1) ∧ Aside0 (IsS82 w0 w' g t191 s0_1 t192 t193) ∧ Aside0 (KeepBut w w' g none) ∧ Aside0 (Below w0.heap.size w0 w'))
 case atStart => exact ⟨(t188), H', ⟨Nat.le_refl _⟩, ⟨Kd.Q_of_R (by (with_reducible repeat (first | apply Kd.R_alloc | apply Kd.R_drewN | apply Kd.R_drew)); exact HO190.out)⟩, ⟨r6_⟩, ⟨r3_⟩, ⟨r8_⟩⟩
 case round =>
  clear H'
  obtain ⟨x7_1, HA, HK1, HO_7, HI0, HK, HB⟩ := hrel
  cases gk with
  | zero => exact absurd HA.out (by simp [qG.l0])
  | succ k1 =>
   have H := HA.out
   clear HA
   simp only [qG.l0] at H
   by_cases c8 : (x7_1.length : Int) > 0
   rotate_left
   ·rw [if_neg c8] at H
    have c8b0 : decide (0 < (x7_1.length : Int)) = false := decide_eq_false c8
    have c8b1 : decide (0 < x7_1.length) = false := decide_eq_false r18_
    clear c8
    obtain ⟨ji20, hji20⟩ : ∃ j_ : Int, (mx a2 0) = j_ := ⟨_, rfl⟩
    replace H : (if 0 ≤ (mn (ji20) (x7_1.length : Int)) then (if (mn (ji20) (x7_1.length : Int)) ≤ (x7_1.length : Int) then (some ((x7_1.take ((mn (ji20) (x7_1.length : Int)) : Int).toNat), t191, t192, t193)) else (none)) else (none)) = some (r1, r2, r3, r4) := by first | (rw [hji20] at H; exact H) | (simp only [hji20] at H ⊢; exact H)
    (try rw [hji20])
    have hji20_ : (if a2 < 0 then 0 else a2) = ji20 := hji20
    obtain ⟨ji21, hji21⟩ : ∃ j_ : Int, (mn (ji20) (x7_1.length : Int)) = j_ := ⟨_, rfl⟩
    replace H : (if 0 ≤ (ji21) then (if (ji21) ≤ (x7_1.length : Int) then (some ((x7_1.take ((ji21) : Int).toNat), t191, t192, t193)) else (none)) else (none)) = some (r1, r2, r3, r4) := by first | (rw [hji21] at H; exact H) | (simp only [hji21] at H ⊢; exact H)
    (try rw [hji21])
    have hji21_ : (if (x7_1.length : Int) < (ji20) then (x7_1.length : Int) else (ji20)) = ji21 := hji21
    by_cases c22 : 0 ≤ (ji21)
    rotate_left
    ·rw [if_neg c22] at H
     exact absurd H r17_
    rw [if_pos c22] at H
    have c22b0 := eq_true c22
    have c22b1 : decide (0 ≤ (ji21)) = true := decide_eq_true c22
    clear c22
    by_cases c23 : (ji21) ≤ (x7_1.length : Int)
    rotate_left
    ·rw [if_neg c23] at H
     exact absurd H r17_
    rw [if_pos c23] at H
    have c23b0 := eq_true c23
    have c23b1 : decide ((ji21) ≤ (x7_1.length : Int)) = true := decide_eq_true c23
    clear c23
    obtain ⟨y201, hy201⟩ : ∃ y_ : List (S37), y_ = (x7_1.take ((ji21) : Int).toNat) := ⟨_, rfl⟩
    replace H : (some (y201, t191, t192, t193)) = some (r1, r2, r3, r4) := by first | (rw [hy201]; with_reducible exact H) | (have H2_ := (Option.bind_some _ _).symm.trans H; rw [hy201]; with_reducible exact H2_) | (have H2_ := (Option.bind_some _ _).symm.trans H; with_reducible exact H2_) | with_reducible exact H | (rw [hy201]; exact H) | exact H
    have Ny201 := Aside0.mk hy201
    clear hy201
    simp only [Option.some.injEq, Prod.mk.injEq] at H
    obtain ⟨rfl, rfl, rfl, rfl⟩ := H
    obtain ⟨Ao24, co24, eo24, _⟩ := Kd.Q_slice HO_7.out
    subst eo24
    have q25 : ((ji21) : Int) ≤ ((x7_1.length : Int) : Int) := of_decide_eq_true as_
    obtain ⟨i025, hi025, _, hsz25, _⟩ := info_parts info37
    have hcut25 := cut_to (P := Try.prog) 22 37 .i64 Try.underlying22 hi025 Ao24 x7_1.length co24 (ji21) (of_decide_eq_true as_) q25 (Kd.Q_reads' HO_7.out).2.1
    have hr25 := Kd.Q_take (m := ((ji21) : Int).toNat) HO_7.out r18_
    have hy25 : y201.length = ((ji21) : Int).toNat := (by rw [Ny201.out, List.length_take]; omega)
    rw [← Ny201.out] at hr25
    rw [← hy25] at hr25 hcut25
    clear hy25 hi025 hsz25 HO_7
    have HO203 := Aside0.mk hr25
    clear hr25
    replace q25 := eq_true q25
    go_wp2
    go_ret
    exact ⟨_, by first | rfl | (simp [errW_none, errW_some] <;> rfl) | (simp (disch := omega) only [← i64_w, IntWalk.i64_in]; rfl) | (simp only [← hji20, ← hji21]; first | rfl | (simp [errW_none, errW_some] <;> rfl)) | (simp [*, errW_none, errW_some] <;> rfl), by (with_reducible repeat (first | apply Kd.Q_alloc | apply Kd.Q_drewN | apply Kd.Q_drew)); exact HO203.out, r6_, r8_, r3_⟩
   rw [if_pos c8] at H
   have c8b0 : decide (0 < (x7_1.length : Int)) = true := decide_eq_true c8
   have c8b1 : decide (0 < x7_1.length) = true := decide_eq_true r18_
   clear c8
   by_cases c9 : 0 < (x7_1.length : Int)
   rotate_left
   ·rw [if_neg c9] at H
    exact absurd H r17_
   rw [if_pos c9] at H
   have c9b0 := decide_eq_true c9
   have c9b1 : decide (0 < x7_1.length) = true := decide_eq_true r18_
   clear c9
   by_cases c10 : (Op.bytesLess (((rd_T37 x7_1 0).f0).toList) a1.toList) = true
   ·rw [if_pos c10] at H
    have c10b0 : (Op.bytesLess (((rd_T37 x7_1 0).f0).toList) a1.toList) = true := c10
    clear c10
    by_cases c11 : 1 ≤ (x7_1.length : Int)
    rotate_left
    ·rw [if_neg c11] at H
     exact absurd H r17_
    rw [if_pos c11] at H
    have c11b0 := eq_true c11
    have c11b1 : decide (1 ≤ (x7_1.length : Int)) = true := decide_eq_true c11
    clear c11
    obtain ⟨y195, hy195⟩ : ∃ y_ : List (S37), y_ = (x7_1.drop (1 : Int).toNat) := ⟨_, rfl⟩
    replace H : (qG.l0 k1 a1 a2 y195 t191 s0_1 t192 t193) = some (r1, r2, r3, r4) := by first | (rw [hy195]; with_reducible exact H) | (have H2_ := (Option.bind_some _ _).symm.trans H; rw [hy195]; with_reducible exact H2_) | (have H2_ := (Option.bind_some _ _).symm.trans H; with_reducible exact H2_) | with_reducible exact H | (rw [hy195]; exact H) | exact H
    have Ny195 := Aside0.mk hy195
    clear hy195
    have H' := Aside0.mk H
    clear H
    obtain ⟨Ao12, co12, eo12, _⟩ := Kd.Q_slice HO_7.out
    subst eo12
    have p194 : 0 ≤ (0 : Int) := r18_
    have q194 : 0 < (x7_1.length : Int) := of_decide_eq_true as_
    obtain ⟨ad194, e194, hx194_0, hx194_1, hx194_2, hx194_3⟩ := at_T37 (Kd.Q_reads' HO_7.out).2.2 0 p194 q194
    cases e194
    have qi194 : (0 < x7_1.length) = True := eq_true r18_
    (try rw [show ((0 : Int)).toNat = 0 from rfl] at hx194_0)
    (try rw [show 0 * 4 = 0 from rfl] at hx194_0)
    (try rw [Addr.add_zero'] at hx194_0)
    (try rw [show ((0 : Int)).toNat = 0 from rfl] at hx194_1)
    (try rw [show 0 * 4 = 0 from rfl] at hx194_1)
    (try rw [Addr.add_zero'] at hx194_1)
    (try rw [show ((0 : Int)).toNat = 0 from rfl] at hx194_2)
    (try rw [show 0 * 4 = 0 from rfl] at hx194_2)
    (try rw [Addr.add_zero'] at hx194_2)
    (try rw [show ((0 : Int)).toNat = 0 from rfl] at hx194_3)
    (try rw [show 0 * 4 = 0 from rfl] at hx194_3)
    (try rw [Addr.add_zero'] at hx194_3)
    replace p194 := eq_true p194
    replace q194 := eq_true q194
    have q13 : (1 : Int) ≤ ((x7_1.length : Int) : Int) := of_decide_eq_true as_
    obtain ⟨i013, hi013, _, hsz13, _⟩ := info_parts info37
    have hcut13 := cut_from (P := Try.prog) 22 37 .i64 Try.underlying22 hi013 4 hsz13 (some ad194) x7_1.length co12 1 r18_ q13
    have hr13 := Kd.Q_drop (k := (1 : Int).toNat) HO_7.out r18_
    obtain ⟨A13, hA13⟩ : ∃ A1, A1 = (if co12 = (1 : Int).toNat then (some ad194) else ((some ad194) : Option Addr).map (·.add ((1 : Int).toNat * 4))) := ⟨_, rfl⟩
    obtain ⟨c13, hc13⟩ : ∃ c1, c1 = co12 - (1 : Int).toNat := ⟨_, rfl⟩
    have hy13 : y195.length = x7_1.length - (1 : Int).toNat := (by rw [Ny195.out, List.length_drop])
    rw [← Ny195.out] at hr13
    rw [← hy13, ← hA13, ← hc13] at hcut13
    replace hr13 : Kd.Q k37 37 wr w.heap.size (fun _ => True) (.slice A13 y195.length c13) y195 := (by rw [hA13, hc13, hy13]; exact hr13)
    have HE13 : Aside0 ((Value.slice A13 y195.length c13).ownBlock = (.slice (some ad194) x7_1.length co12 : Value).ownBlock) := ⟨by rw [hA13]; split <;> (cases ((some ad194) : Option Addr) <;> rfl)⟩
    clear hy13 hi013 hsz13 HO_7 hA13 hc13
    have HO197 := Aside0.mk hr13
    clear hr13
    replace q13 := eq_true q13
    go_wp2
    go_roundg k1
    case measure => have := HK1.out; omega
    case rel => exact ⟨(y195), hH_, ⟨by have := HK1.out; omega⟩, ⟨by (with_reducible repeat (first | apply Kd.Q_alloc | apply Kd.Q_drewN | apply Kd.Q_drew)); exact HO197.out⟩, ⟨r6_⟩, ⟨r3_⟩, ⟨r8_⟩⟩
   rw [if_neg c10] at H
   have c10b0 : (Op.bytesLess (((rd_T37 x7_1 0).f0).toList) a1.toList) = false := by simpa using c10
   clear c10
   obtain ⟨ji14, hji14⟩ : ∃ j_ : Int, (mx a2 0) = j_ := ⟨_, rfl⟩
   replace H : (if 0 ≤ (mn (ji14) (x7_1.length : Int)) then (if (mn (ji14) (x7_1.length : Int)) ≤ (x7_1.length : Int) then (some ((x7_1.take ((mn (ji14) (x7_1.length : Int)) : Int).toNat), t191, t192, t193)) else (none)) else (none)) = some (r1, r2, r3, r4) := by first | (rw [hji14] at H; exact H) | (simp only [hji14] at H ⊢; exact H)
   (try rw [hji14])
   have hji14_ : (if a2 < 0 then 0 else a2) = ji14 := hji14
   obtain ⟨ji15, hji15⟩ : ∃ j_ : Int, (mn (ji14) (x7_1.length : Int)) = j_ := ⟨_, rfl⟩
   replace H : (if 0 ≤ (ji15) then (if (ji15) ≤ (x7_1.length : Int) then (some ((x7_1.take ((ji15) : Int).toNat), t191, t192, t193)) else (none)) else (none)) = some (r1, r2, r3, r4) := by first | (rw [hji15] at H; exact H) | (simp only [hji15] at H ⊢; exact H)
   (try rw [hji15])
   have hji15_ : (if (x7_1.length : Int) < (ji14) then (x7_1.length : Int) else (ji14)) = ji15 := hji15
   by_cases c16 : 0 ≤ (ji15)
   rotate_left
   ·rw [if_neg c16] at H
    exact absurd H r17_
   rw [if_pos c16] at H
   have c16b0 := eq_true c16
   have c16b1 : decide (0 ≤ (ji15)) = true := decide_eq_true c16
   clear c16
   by_cases c17 : (ji15) ≤ (x7_1.length : Int)
   rotate_left
   ·rw [if_neg c17] at H
    exact absurd H r17_
   rw [if_pos c17] at H
   have c17b0 := eq_true c17
   have c17b1 : decide ((ji15) ≤ (x7_1.length : Int)) = true := decide_eq_true c17
   clear c17
   obtain ⟨y198, hy198⟩ : ∃ y_ : List (S37), y_ = (x7_1.take ((ji15) : Int).toNat) := ⟨_, rfl⟩
   replace H : (some (y198, t191, t192, t193)) = some (r1, r2, r3, r4) := by first | (rw [hy198]; with_reducible exact H) | (have H2_ := (Option.bind_some _ _).symm.trans H; rw [hy198]; with_reducible exact H2_) | (have H2_ := (Option.bind_some _ _).symm.trans H; with_reducible exact H2_) | with_reducible exact H | (rw [hy198]; exact H) | exact H
   have Ny198 := Aside0.mk hy198
   clear hy198
   simp only [Option.some.injEq, Prod.mk.injEq] at H
   obtain ⟨rfl, rfl, rfl, rfl⟩ := H
   obtain ⟨Ao18, co18, eo18, _⟩ := Kd.Q_slice HO_7.out
   subst eo18
   have p194 : 0 ≤ (0 : Int) := r18_
   have q194 : 0 < (x7_1.length : Int) := of_decide_eq_true as_
   obtain ⟨ad194, e194, hx194_0, hx194_1, hx194_2, hx194_3⟩ := at_T37 (Kd.Q_reads' HO_7.out).2.2 0 p194 q194
   cases e194
   have qi194 : (0 < x7_1.length) = True := eq_true r18_
   (try rw [show ((0 : Int)).toNat = 0 from rfl] at hx194_0)
   (try rw [show 0 * 4 = 0 from rfl] at hx194_0)
   (try rw [Addr.add_zero'] at hx194_0)
   (try rw [show ((0 : Int)).toNat = 0 from rfl] at hx194_1)
   (try rw [show 0 * 4 = 0 from rfl] at hx194_1)
   (try rw [Addr.add_zero'] at hx194_1)
   (try rw [show ((0 : Int)).toNat = 0 from rfl] at hx194_2)
   (try rw [show 0 * 4 = 0 from rfl] at hx194_2)
   (try rw [Addr.add_zero'] at hx194_2)
   (try rw [show ((0 : Int)).toNat = 0 from rfl] at hx194_3)
   (try rw [show 0 * 4 = 0 from rfl] at hx194_3)
   (try rw [Addr.add_zero'] at hx194_3)
   replace p194 := eq_true p194
   replace q194 := eq_true q194
   have q19 : ((ji15) : Int) ≤ ((x7_1.length : Int) : Int) := of_decide_eq_true as_
   obtain ⟨i019, hi019, _, hsz19, _⟩ := info_parts info37
   have hcut19 := cut_to (P := Try.prog) 22 37 .i64 Try.underlying22 hi019 (some ad194) x7_1.length co18 (ji15) (of_decide_eq_true as_) q19 (Kd.Q_reads' HO_7.out).2.1
   have hr19 := Kd.Q_take (m := ((ji15) : Int).toNat) HO_7.out r18_
   have hy19 : y198.length = ((ji15) : Int).toNat := (by rw [Ny198.out, List.length_take]; omega)
   rw [← Ny198.out] at hr19
   rw [← hy19] at hr19 hcut19
   clear hy19 hi019 hsz19 HO_7
   have HO200 := Aside0.mk hr19
   clear hr19
   replace q19 := eq_true q19
   go_wp2
   go_ret
   exact ⟨_, by first | rfl | (simp [errW_none, errW_some] <;> rfl) | (simp (disch := omega) only [← i64_w, IntWalk.i64_in]; rfl) | (simp only [← hji14, ← hji15]; first | rfl | (simp [errW_none, errW_some] <;> rfl)) | (simp [*, errW_none, errW_some] <;> rfl), by (with_reducible repeat (first | apply Kd.Q_alloc | apply Kd.Q_drewN | apply Kd.Q_drew)); exact HO200.out, r6_, r8_, r3_⟩

/-! ### qs1: function 25 -/
def qs1.f (s0_0 : ByteArray) (s0_1 : List (S80)) (s0_2 : ByteArray) (s0_3 : Int) : Option (Int × ByteArray × ByteArray × Int) := some (s0_3, s0_0, s0_2, s0_3)
set_option maxHeartbeats 8000000 in
set_option maxRecDepth 100000 in
theorem qs1.calls (g : Nat) (s0_0 : ByteArray) (s0_1 : List (S80)) (s0_2 : ByteArray) (s0_3 : Int) (r1 : Int) (r2 : ByteArray) (r3 : ByteArray) (r4 : Int) (w0 w : World) (hI : IsS82 w0 w g s0_0 s0_1 s0_2 s0_3) (hB : Below w0.heap.size w0 w) (h : qs1.f s0_0 s0_1 s0_2 s0_3 = some (r1, r2, r3, r4)) :
  Calls Try.prog 25 #[.pointer (some ⟨g, 0, none⟩)] w fun e w' => e = .returned (.int .i64 r1) ∧ IsS82 w0 w' g r2 s0_1 r3 r4 ∧ Below w0.heap.size w0 w' ∧ KeepBut w w' g none := by
 have HI0 := Aside0.mk hI
 have HK := Aside0.mk (KeepBut.refl w g none)
 have HL := Aside0.mk hB.size
 clear hI
 have HW0 := Aside0.mk hB.size
 have HB := Aside0.mk hB
 clear hB
 have H : (some (s0_3, s0_0, s0_2, s0_3)) = some (r1, r2, r3, r4) := h
 clear h
 simp only [Option.some.injEq, Prod.mk.injEq] at H
 obtain ⟨rfl, rfl, rfl, rfl⟩ := H
 obtain ⟨ASz2_1, cSz2_1, HGz2, hgz2, HSz2_1⟩ := HI0.out
 have hcz2_0 := cellS82_0 HGz2
 have hcz2_1 := cellS82_1 HGz2
 have hcz2_2 := cellS82_2 HGz2
 have hcz2_3 := cellS82_3 HGz2
 have hfz2_0 := blk_frozen HGz2 0
 have hfz2_2 := blk_frozen HGz2 2
 have hfz2_3 := blk_frozen HGz2 3
 clear HGz2 hgz2
 go_enter Try.func25, Try.ntmps25
 go_wp2
 go_ret
 exact ⟨rf_, r6_, r8_, r3_⟩

/-! ### qn1: function 26 -/
def qn1.f (s0_0 : ByteArray) (s0_1 : List (S80)) (s0_2 : ByteArray) (s0_3 : Int) : Option (Int × ByteArray × ByteArray × Int) := some ((s0_1.length : Int), s0_0, s0_2, s0_3)
set_option maxHeartbeats 8000000 in
set_option maxRecDepth 100000 in
theorem qn1.calls (g : Nat) (s0_0 : ByteArray) (s0_1 : List (S80)) (s0_2 : ByteArray) (s0_3 : Int) (r1 : Int) (r2 : ByteArray) (r3 : ByteArray) (r4 : Int) (w0 w : World) (hI : IsS82 w0 w g s0_0 s0_1 s0_2 s0_3) (hB : Below w0.heap.size w0 w) (h : qn1.f s0_0 s0_1 s0_2 s0_3 = some (r1, r2, r3, r4)) :
  Calls Try.prog 26 #[.pointer (some ⟨g, 0, none⟩)] w fun e w' => e = .returned (.int .i64 r1) ∧ IsS82 w0 w' g r2 s0_1 r3 r4 ∧ Below w0.heap.size w0 w' ∧ KeepBut w w' g none := by
 have HI0 := Aside0.mk hI
 have HK := Aside0.mk (KeepBut.refl w g none)
 have HL := Aside0.mk hB.size
 clear hI
 have HW0 := Aside0.mk hB.size
 have HB := Aside0.mk hB
 clear hB
 have H : (some ((s0_1.length : Int), s0_0, s0_2, s0_3)) = some (r1, r2, r3, r4) := h
 clear h
 simp only [Option.some.injEq, Prod.mk.injEq] at H
 obtain ⟨rfl, rfl, rfl, rfl⟩ := H
 obtain ⟨ASz2_1, cSz2_1, HGz2, hgz2, HSz2_1⟩ := HI0.out
 have hcz2_0 := cellS82_0 HGz2
 have hcz2_1 := cellS82_1 HGz2
 have hcz2_2 := cellS82_2 HGz2
 have hcz2_3 := cellS82_3 HGz2
 have hfz2_0 := blk_frozen HGz2 0
 have hfz2_2 := blk_frozen HGz2 2
 have hfz2_3 := blk_frozen HGz2 3
 clear HGz2 hgz2
 go_enter Try.func26, Try.ntmps26
 go_wp2
 go_ret
 exact ⟨rf_, r6_, r8_, r3_⟩

end Go.Proofs.Ytgdkikkjaofbfaa.P
