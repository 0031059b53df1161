-- Printed by a program of this session's own (wip/tools/pprint.sh, over the kit's print, with given contracts): not typed by hand.
import Derived.Test.YtgdkikkjaofbfaaPx0
import Derived.Test.YtgdkikkjaofbfaaPx7
import Derived.Test.YtgdkikkjaofbfaaPx10
namespace Go.Proofs.Ytgdkikkjaofbfaa.P
open Go.RowKit Go.Proofs.YtgdkikkjaofbfaaW.PrintWords Go.Proofs.YtgdkikkjaofbfaaW.PrintLast Go.Proofs.YtgdkikkjaofbfaaW.PrintMore
attribute [local go_sem] max2_int min2_int max_two min_two max_three min_three max_four min_four   -- for this text's walks alone
set_option linter.unusedVariables false
set_option linter.unusedSimpArgs false
-- SQUEEZED4
-- SQUEEZED3

/-! ### qU: function 20 -/
-- needs 47 49
def qU.f (k : Nat) (s0_0 : ByteArray) (s0_1 : List (S80)) (s0_2 : ByteArray) (s0_3 : Int) (a1 : ByteArray) (a2 : Int) : Option (Int × ByteArray × ByteArray × Int) :=
 (qg1.f k s0_2 a1).bind fun m => if m = true then (if s0_1.length ≤ 1000 then (qv.search s0_1 a1 a2 1001 0 s0_1.length).bind fun r => some (if r = s0_1.length then 0 else 1, s0_0, s0_2, s0_3) else none) else some (0, s0_0, s0_2, s0_3)
theorem qU.mono : ∀ a0 a1 a2 a3 a4 a5 k, LeO (qU.f k a0 a1 a2 a3 a4 a5) (qU.f (k + 1) a0 a1 a2 a3 a4 a5) := fun _ _ _ _ _ _ _ => LeO.bind (qg1.mono _ _ _) (fun _ => LeO.refl _)
set_option maxHeartbeats 3200000 in
set_option maxRecDepth 100000 in
theorem qU.callsB (k : Nat) (g : Nat) (s0_0 : ByteArray) (s0_1 : List (S80)) (s0_2 : ByteArray) (s0_3 : Int) (a1 : ByteArray) (a2 : Int) (r1 : Int) (m : Bool) (r : Nat) (w0 w : World) (hI : IsS82 w0 w g s0_0 s0_1 s0_2 s0_3) (hB : Below w0.heap.size w0 w) (hm : qg1.f k s0_2 a1 = some m) (hf : m = true → s0_1.length ≤ 1000 ∧ qv.search s0_1 a1 a2 1001 0 s0_1.length = some r) (hr : r1 = if m = true ∧ r ≠ s0_1.length then 1 else 0) :
  Calls Try.prog 20 #[.pointer (some ⟨g, 0, none⟩), .string a1, .int .u64 a2] w fun e w' => e = .returned (.int .i64 r1) ∧ Below w.heap.size w w' := by
 obtain ⟨A, c, htb, htg, hC⟩ := hI
 have HM := Lib.hid hm
 have HF := Lib.hid hf
 have HR := Lib.hid hr
 have HI : Aside0 (IsS82 w0 w g s0_0 s0_1 s0_2 s0_3) := ⟨⟨A, c, htb, htg, hC⟩⟩
 have HB := Aside0.mk hB
 have BT := Aside0.mk htb
 have HMX := Lib.hid (Kd.C_max hC)
 clear hB hm hf hr htb htg hC
 go_enter Try.func20, Try.ntmps20
 go_wp2_with (fail)
 refine start_ (n := 19) (S := fun w' => w'.cell? ⟨g, 2, none⟩ = some (.string s0_2) ∧ w'.cell? ⟨g, 1, none⟩ = some (.slice A s0_1.length c)) (ds := []) #[N,N,N,N,N,N,N,N,N,N,N,N,N,N,N,N,N,N,N] r2_ rfl rfl ⟨(blk_cell BT.out 2).trans rfl, (blk_cell BT.out 1).trans rfl⟩ (fun hHeld => ?_)
 have HB1 : Aside0 (Below w0.heap.size w0 w.drew) := ⟨below_drew1 HB.out⟩
 have HW1 : Aside0 (Below w.heap.size w w.drew) := ⟨below_drew (Below.refl _ _)⟩
 have HI1 : Aside0 (IsS82 w0 w.drew g s0_0 s0_1 s0_2 s0_3) := ⟨IsS82.drew HI.out⟩
 clear HB HI BT
 generalize w.drew = w1 at HB1 HW1 HI1 hHeld ⊢
 refine pu_ 0 (some 7) (mk_ 19 1) r2_ ?_
 refine pu_ 1 (some 8) (mk_ 19 3) r2_ ?_
 refine pu_ 2 (some 9) (mk_ 19 7) r2_ ?_
 refine pu_ 4 (some 11) (mk_ 19 23) r2_ ?_
 refine tk_ (v := ?_) 3 (some 10) (mk_ 19 31) r2_ hHeld ?_ ?_
 rotate_left
 ·rintro w' ⟨s0, s1⟩
  go_simp
  with_reducible rfl
 refine one_ (i := 5) (N := some 12) (mk_ 19 63) rfl rfl r2_ r24_ (fun K hK => ?_)
 refine goes_ Try.func49 r2_ rfl #[.string s0_2, .string a1] r37_ rfl rfl r9_ ?_
 refine (qg1.calls k s0_2 a1 m _ HM.out).mono ?_
 rintro e w2 ⟨rfl, hb⟩
 refine ⟨_, rfl, ?_⟩
 have HB2 := Aside0.mk (below_step HB1.out hb)
 have HW2 := Aside0.mk (below_step HW1.out hb)
 have HI2 := Aside0.mk (IsS82.below HI1.out hb)
 obtain ⟨h0_, h1_⟩ := hHeld
 have kp : ∀ {x : Addr} {z : Value}, w1.cell? x = some z → w2.cell? x = some z := fun h => (hb.cell (World.block_lt_of_cell? w1 _ h)).trans h
 refine hK.out _ _ ⟨kp h0_, kp h1_⟩ (fun hHeld => ?_)
 clear hK K h0_ h1_ kp hb HB1 HW1 HI1
 refine nm_ (some 12) ?_
 cases m with
 | false =>
  refine pu_ 6 (some 13) (mk_ 19 127) r2_ ?_
  refine pu_ 7 (some 14) (mk_ 19 255) r2_ ?_
  refine pure_ (i := 8) (N := some 15) (v := undef) (a' := ?_) (mk_ 19 511) rfl rfl r2_ (fun _ _ _ h => h) (Or.inr ⟨r37_, rfl⟩) ?_ ?_
  rotate_left
  ·simp only [Act.put, sp_, i64_w, i32_w]
   rfl
  refine pure_ (i := 9) (N := some 16) (v := undef) (a' := ?_) (mk_ 19 1023) rfl rfl r2_ (fun _ _ _ h => h) (Or.inr ⟨r37_, rfl⟩) ?_ ?_
  rotate_left
  ·simp only [Act.put, sp_, i64_w, i32_w]
   rfl
  refine pure_ (i := 10) (N := some 17) (v := undef) (a' := ?_) (mk_ 19 2047) rfl rfl r2_ (fun _ _ _ h => h) (Or.inr ⟨r37_, rfl⟩) ?_ ?_
  rotate_left
  ·simp only [Act.put, sp_, i64_w, i32_w]
   rfl
  refine pure_ (i := 11) (N := some 18) (v := undef) (a' := ?_) (mk_ 19 4095) rfl rfl r2_ (fun _ _ _ h => h) (Or.inr ⟨r37_, rfl⟩) ?_ ?_
  rotate_left
  ·simp only [Act.put, sp_, i64_w, i32_w]
   rfl
  refine pure_ (i := 12) (N := some 19) (v := undef) (a' := ?_) (mk_ 19 8191) rfl rfl r2_ (fun _ _ _ h => h) (Or.inr ⟨r37_, rfl⟩) ?_ ?_
  rotate_left
  ·simp only [Act.put, sp_, i64_w, i32_w]
   rfl
  refine pure_ (i := 13) (N := some 20) (v := undef) (a' := ?_) (mk_ 19 16383) rfl rfl r2_ (fun _ _ _ h => h) (Or.inr ⟨r37_, rfl⟩) ?_ ?_
  rotate_left
  ·simp only [Act.put, sp_, i64_w, i32_w]
   rfl
  refine pure_ (i := 14) (N := some 21) (v := undef) (a' := ?_) (mk_ 19 32767) rfl rfl r2_ (fun _ _ _ h => h) (Or.inr ⟨r37_, rfl⟩) ?_ ?_
  rotate_left
  ·simp only [Act.put, sp_, i64_w, i32_w]
   rfl
  refine pure_ (i := 15) (N := some 22) (v := undef) (a' := ?_) (mk_ 19 65535) rfl rfl r2_ (fun _ _ _ h => h) (Or.inr ⟨r37_, rfl⟩) ?_ ?_
  rotate_left
  ·simp only [Act.put, sp_, i64_w, i32_w]
   rfl
  refine pure_ (i := 16) (N := some 23) (v := undef) (a' := ?_) (mk_ 19 131071) rfl rfl r2_ (fun _ _ _ h => h) (Or.inr ⟨r37_, rfl⟩) ?_ ?_
  rotate_left
  ·simp only [Act.put, sp_, i64_w, i32_w]
   rfl
  refine pure_ (i := 17) (N := some 24) (v := undef) (a' := ?_) (mk_ 19 262143) rfl rfl r2_ (fun _ _ _ h => h) (Or.inr ⟨r37_, rfl⟩) ?_ ?_
  rotate_left
  ·simp only [Act.put, sp_, i64_w, i32_w]
   rfl
  refine pu_ 18 (some 25) (mk_ 19 524287) r2_ ?_
  refine done_ r2_ ?_
  (try clear hHeld)
  (try clear hHeld)
  have hr := HR.out
  rw [if_neg r17_] at hr
  subst hr
  go_wp2
  go_ret
  exact ⟨rfl, HW2.out⟩
 | true =>
  have HFF := Lib.hid (HF.out rfl)
  have hmx := HMX.out
  refine pu_ 6 (some 13) (mk_ 19 127) r2_ ?_
  refine pu_ 7 (some 14) (mk_ 19 255) r2_ ?_
  refine pu_ 8 (some 15) (mk_ 19 511) r2_ ?_
  refine pu_ 9 (some 16) (mk_ 19 1023) r2_ ?_
  refine pu_ 10 (some 17) (mk_ 19 2047) r2_ ?_
  refine pu_ 12 (some 19) (mk_ 19 6143) r2_ ?_
  refine pu_ 13 (some 20) (mk_ 19 14335) r2_ ?_
  refine pu_ 14 (some 21) (mk_ 19 30719) r2_ ?_
  refine tk_ (v := ?_) 15 (some 22) (mk_ 19 63487) r2_ hHeld ?_ ?_
  rotate_left
  ·rintro w' ⟨s0, s1⟩
   go_simp
   with_reducible rfl
  refine pu_ 16 (some 23) (mk_ 19 129023) r2_ ?_
  refine one_ (i := 11) (N := some 18) (mk_ 19 131071) rfl rfl r2_ r24_ (fun K hK => ?_)
  refine goes_ Try.func47 r2_ rfl #[.pointer (some ⟨g, 0, none⟩), .string a1, .int .u64 a2] r37_ rfl rfl r9_ ?_
  refine (qv.callsB g s0_0 s0_1 s0_2 s0_3 a1 a2 r w0 _ HI2.out HB2.out HFF.out.1 HFF.out.2).mono ?_
  rintro e w3 ⟨rfl, hb⟩
  refine ⟨_, rfl, ?_⟩
  have HB3 := Aside0.mk (below_step HB2.out hb)
  have HW3 := Aside0.mk (below_step HW2.out hb)
  have HI3 := Aside0.mk (IsS82.below HI2.out hb)
  obtain ⟨h0_, h1_⟩ := hHeld
  have kp : ∀ {x : Addr} {z : Value}, w2.cell? x = some z → w3.cell? x = some z := fun h => (hb.cell (World.block_lt_of_cell? w2 _ h)).trans h
  refine hK.out _ _ ⟨kp h0_, kp h1_⟩ (fun hHeld => ?_)
  clear hK K h0_ h1_ kp hb HB2 HW2 HI2
  refine nm_ (some 18) ?_
  by_cases hre : r = s0_1.length
  case pos =>
   have e1_ : ((r : Int) == (s0_1.length : Int)) = true := beq_iff_eq.mpr r18_
   have hr := HR.out
   rw [if_neg (by simp [hre])] at hr
   subst hr
   refine pu_ 17 (some 24) (mk_ 19 262143) r2_ ?_
   refine pu_ 18 (some 25) (mk_ 19 524287) r2_ ?_
   refine done_ r2_ ?_
   (try clear hHeld)
   (try clear hHeld)
   go_wp2
   go_ret
   exact ⟨rfl, HW3.out⟩
  have e1_ : ((r : Int) == (s0_1.length : Int)) = false := beq_eq_false_iff_ne.mpr r18_
  have hr := HR.out
  rw [if_pos ⟨rfl, hre⟩] at hr
  subst hr
  refine pu_ 17 (some 24) (mk_ 19 262143) r2_ ?_
  refine pu_ 18 (some 25) (mk_ 19 524287) r2_ ?_
  refine done_ r2_ ?_
  (try clear hHeld)
  (try clear hHeld)
  go_wp2
  go_ret
  exact ⟨rfl, HW3.out⟩
theorem qU.calls (k : Nat) (g : Nat) (s0_0 : ByteArray) (s0_1 : List (S80)) (s0_2 : ByteArray) (s0_3 : Int) (a1 : ByteArray) (a2 : Int) (r1 : Int) (r2 : ByteArray) (r3 : ByteArray) (r4 : Int) (w0 w : World) (hI : IsS82 w0 w g s0_0 s0_1 s0_2 s0_3) (hB : Below w0.heap.size w0 w) (h : qU.f k s0_0 s0_1 s0_2 s0_3 a1 a2 = some (r1, r2, r3, r4)) :
  Calls Try.prog 20 #[.pointer (some ⟨g, 0, none⟩), .string a1, .int .u64 a2] w fun e w' => e = .returned (.int .i64 r1) ∧ IsS82 w0 w' g r2 s0_1 r3 r4 ∧ Below w0.heap.size w0 w' ∧ KeepBut w w' g none := by
 unfold qU.f at h
 replace h := bs_ h
 obtain ⟨m, hm, h⟩ := h
 have fin : ∀ {r : Nat}, (m = true → s0_1.length ≤ 1000 ∧ qv.search s0_1 a1 a2 1001 0 s0_1.length = some r) → (if m = true ∧ r ≠ s0_1.length then (1 : Int) else 0, s0_0, s0_2, s0_3) = (r1, r2, r3, r4) → Calls Try.prog 20 #[.pointer (some ⟨g, 0, none⟩), .string a1, .int .u64 a2] w fun e w' => e = .returned (.int .i64 r1) ∧ IsS82 w0 w' g r2 s0_1 r3 r4 ∧ Below w0.heap.size w0 w' ∧ KeepBut w w' g none := by
  intro r hf he
  simp only [Prod.mk.injEq] at he
  obtain ⟨he, rfl, rfl, rfl⟩ := he
  refine (qU.callsB k g s0_0 s0_1 s0_2 s0_3 a1 a2 r1 m r w0 w hI hB hm hf he.symm).mono ?_
  rintro e w' ⟨rfl, hb⟩
  exact ⟨rfl, IsS82.below hI hb, below_step hB hb, KeepBut.of_below hb g none⟩
 cases m with
 | false =>
  rw [if_neg r17_] at h
  exact fin (r := 0) (fun e => by simp at e) (by rw [if_neg r17_]; exact Option.some.inj h)
 | true =>
  rw [if_pos rfl] at h
  by_cases hl : s0_1.length ≤ 1000
  case neg => rw [if_neg hl] at h; exact absurd h r17_
  rw [if_pos hl] at h
  replace h := bs_ h
  obtain ⟨r, hs, h⟩ := h
  refine fin (r := r) (fun _ => ⟨hl, hs⟩) ?_
  rw [← Option.some.inj h]
  by_cases hre : r = s0_1.length
  ·rw [if_neg (by simp [hre]), if_pos hre]
  rw [if_pos ⟨rfl, hre⟩, if_neg hre]

/-! ### qr1: function 74 -/
def qr1.f (a0_0 : ByteArray) (a0_1 : Int) (a0_2 : Bool) (a0_3 : ByteArray) (a1 : ByteArray) (a2 : Int) : Option (Bool) := if (Op.bytesLess a0_0.toList a1.toList) = true then (some true) else (if a0_0.toList = a1.toList then (some (decide (a0_1 > a2))) else (some false))
set_option maxHeartbeats 8000000 in
set_option maxRecDepth 100000 in
theorem qr1.calls (a0_0 : ByteArray) (a0_1 : Int) (a0_2 : Bool) (a0_3 : ByteArray) (a1 : ByteArray) (a2 : Int) (r : Bool) (w : World) (h : qr1.f a0_0 a0_1 a0_2 a0_3 a1 a2 = some r) :
  Calls Try.prog 74 #[.agg #[.string a0_0, .int .u64 a0_1, .bool a0_2, .string a0_3], .string a1, .int .u64 a2] w fun e w' => e = .returned (.bool r) ∧ Below w.heap.size w w' := by
 have hu37 := Try.underlying37
 have HB := Aside0.mk (Below.refl w.heap.size w)
 have H : (if (Op.bytesLess a0_0.toList a1.toList) = true then (some true) else (if a0_0.toList = a1.toList then (some (decide (a0_1 > a2))) else (some false))) = some r := h
 clear h
 by_cases c4 : (Op.bytesLess a0_0.toList a1.toList) = true
 ·rw [if_pos c4] at H
  have c4b0 : (Op.bytesLess a0_0.toList a1.toList) = true := c4
  clear c4
  obtain rfl := Option.some.inj H
  go_enter Try.func74, Try.ntmps74
  go_wp2_with (first | ((with_reducible refine gate_dst (N := 3) rfl ?_); refine box_event ?hg (N := 3) ?hd (cs := #[.string a0_0, .int .u64 a0_1, .bool a0_2, .string a0_3]) (t := 37) ?hr ?_; (case hd => rfl); (case hg => rfl); (case hr => first | (go_simp; done) | (go_simp; rfl)); intro gb153 hg w5 hbox hb; have BK153 := Aside0.mk (hbox); have GW153 := Aside0.mk ((by rw [hg]; exact (below_size hB_) : w.heap.size ≤ gb153)); have GE153 := Aside0.mk ((by rw [hg]; exact (below_size hB_) : w.heap.size ≤ gb153)); replace HB := Aside0.mk (below_step hB_ hb); clear hb hbox hg; have hcz6_0 : w5.cell? ⟨gb153, 0, none⟩ = some (.string a0_0) := (blk_cell BK153.out 0).trans rfl; have hcz6_1 : w5.cell? ⟨gb153, 1, none⟩ = some (.int .u64 a0_1) := (blk_cell BK153.out 1).trans rfl; have hcz6_2 : w5.cell? ⟨gb153, 2, none⟩ = some (.bool a0_2) := (blk_cell BK153.out 2).trans rfl; have hcz6_3 : w5.cell? ⟨gb153, 3, none⟩ = some (.string a0_3) := (blk_cell BK153.out 3).trans rfl; have hfz6_0 := blk_frozen BK153.out 0; have hfz6_1 := blk_frozen BK153.out 1; have hfz6_2 := blk_frozen BK153.out 2; have hfz6_3 := blk_frozen BK153.out 3))
  go_ret
  exact ⟨rf_, r39_⟩
 rw [if_neg c4] at H
 have c4b0 : (Op.bytesLess a0_0.toList a1.toList) = false := by simpa using c4
 clear c4
 by_cases c7 : a0_0.toList = a1.toList
 rotate_left
 ·rw [if_neg c7] at H
  have c7b0 := beq_eq_false_iff_ne.mpr c7
  have c7b1 := bne_iff_ne.mpr c7
  obtain rfl := Option.some.inj H
  go_enter Try.func74, Try.ntmps74
  go_wp2_with (first | ((with_reducible refine gate_dst (N := 3) rfl ?_); refine box_event ?hg (N := 3) ?hd (cs := #[.string a0_0, .int .u64 a0_1, .bool a0_2, .string a0_3]) (t := 37) ?hr ?_; (case hd => rfl); (case hg => rfl); (case hr => first | (go_simp; done) | (go_simp; rfl)); intro gb153 hg w10 hbox hb; have BK153 := Aside0.mk (hbox); have GW153 := Aside0.mk ((by rw [hg]; exact (below_size hB_) : w.heap.size ≤ gb153)); have GE153 := Aside0.mk ((by rw [hg]; exact (below_size hB_) : w.heap.size ≤ gb153)); replace HB := Aside0.mk (below_step hB_ hb); clear hb hbox hg; have hcz11_0 : w10.cell? ⟨gb153, 0, none⟩ = some (.string a0_0) := (blk_cell BK153.out 0).trans rfl; have hcz11_1 : w10.cell? ⟨gb153, 1, none⟩ = some (.int .u64 a0_1) := (blk_cell BK153.out 1).trans rfl; have hcz11_2 : w10.cell? ⟨gb153, 2, none⟩ = some (.bool a0_2) := (blk_cell BK153.out 2).trans rfl; have hcz11_3 : w10.cell? ⟨gb153, 3, none⟩ = some (.string a0_3) := (blk_cell BK153.out 3).trans rfl; have hfz11_0 := blk_frozen BK153.out 0; have hfz11_1 := blk_frozen BK153.out 1; have hfz11_2 := blk_frozen BK153.out 2; have hfz11_3 := blk_frozen BK153.out 3))
  go_ret
  exact ⟨rf_, r39_⟩
 rw [if_pos c7] at H
 have c7b0 := beq_iff_eq.mpr c7
 have c7b1 := bne_eq_false_iff_eq.mpr c7
 clear c7
 obtain rfl := Option.some.inj H
 go_enter Try.func74, Try.ntmps74
 go_wp2_with (first | ((with_reducible refine gate_dst (N := 3) rfl ?_); refine box_event ?hg (N := 3) ?hd (cs := #[.string a0_0, .int .u64 a0_1, .bool a0_2, .string a0_3]) (t := 37) ?hr ?_; (case hd => rfl); (case hg => rfl); (case hr => first | (go_simp; done) | (go_simp; rfl)); intro gb153 hg w8 hbox hb; have BK153 := Aside0.mk (hbox); have GW153 := Aside0.mk ((by rw [hg]; exact (below_size hB_) : w.heap.size ≤ gb153)); have GE153 := Aside0.mk ((by rw [hg]; exact (below_size hB_) : w.heap.size ≤ gb153)); replace HB := Aside0.mk (below_step hB_ hb); clear hb hbox hg; have hcz9_0 : w8.cell? ⟨gb153, 0, none⟩ = some (.string a0_0) := (blk_cell BK153.out 0).trans rfl; have hcz9_1 : w8.cell? ⟨gb153, 1, none⟩ = some (.int .u64 a0_1) := (blk_cell BK153.out 1).trans rfl; have hcz9_2 : w8.cell? ⟨gb153, 2, none⟩ = some (.bool a0_2) := (blk_cell BK153.out 2).trans rfl; have hcz9_3 : w8.cell? ⟨gb153, 3, none⟩ = some (.string a0_3) := (blk_cell BK153.out 3).trans rfl; have hfz9_0 := blk_frozen BK153.out 0; have hfz9_1 := blk_frozen BK153.out 1; have hfz9_2 := blk_frozen BK153.out 2; have hfz9_3 := blk_frozen BK153.out 3))
 go_ret
 exact ⟨rf_, r39_⟩

-- NOT PRINTED: function 75 (block_at)

-- NOT PRINTED: function 73 (block_Seek_1)

end Go.Proofs.Ytgdkikkjaofbfaa.P
