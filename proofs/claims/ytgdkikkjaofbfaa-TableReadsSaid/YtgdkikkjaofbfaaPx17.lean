-- Printed by a program of this session's own (wip/tools/pprint.sh, over the kit's print, with given contracts): not typed by hand.
import Derived.Test.YtgdkikkjaofbfaaPx0
namespace Go.Proofs.Ytgdkikkjaofbfaa.P
open Go.RowKit Go.Proofs.YtgdkikkjaofbfaaW.PrintWords Go.Proofs.YtgdkikkjaofbfaaW.PrintLast Go.Proofs.YtgdkikkjaofbfaaW.PrintMore
attribute [local go_sem] max2_int min2_int max_two min_two max_three min_three max_four min_four   -- for this text's walks alone
set_option linter.unusedVariables false
set_option linter.unusedSimpArgs false
-- SQUEEZED4
-- SQUEEZED3

/-! ### qJ: function 85 -/
def qJ.l0 : Nat → ByteArray → Int → Int → Option (Int)
 | 0, _, _, _ => none
 | k + 1, x0, x3, x4 => if x4 < (x0.size : Int) then (if 0 ≤ x4 then (qJ.l0 k x0 (IntKind.u64.wrap ((Go.bits .xor .u64 x3 (IntKind.u64.wrap (bt x0 x4))) * 1099511628211)) (wrap64 (x4 + 1))) else (none)) else (some x3)
def qJ.f (k : Nat) (a0 : ByteArray) : Option (Int) := qJ.l0 k a0 14695981039346656037 0
theorem qJ.mono_l : ∀ k, (∀ y0 y1 y2, LeO (qJ.l0 k y0 y1 y2) (qJ.l0 (k + 1) y0 y1 y2))
 | 0 => fun _ _ _ r h => by simp [qJ.l0] at h
 | k + 1 => by
  have ih0 := qJ.mono_l k
  ·intro y0 y1 y2
   unfold qJ.l0
   repeat' first
   | (with_reducible exact ih0 _ _ _)
   | (with_reducible exact LeO.refl _)
   | (with_reducible exact LeO.none _)
   | (with_reducible refine LeO.ite ?_ ?_)
   | (with_reducible refine LeO.bind ?_ (fun _ => ?_))
   | exact ih0 _ _ _
   | exact LeO.none _
   | refine LeO.ite ?_ ?_
   | refine LeO.bind ?_ (fun _ => ?_)
theorem qJ.mono : ∀ a0 k, LeO (qJ.f k a0) (qJ.f (k + 1) a0) := by
 intro a0 k
 have ih0 := qJ.mono_l k
 unfold qJ.f
 repeat' first
   | (with_reducible exact ih0 _ _ _)
   | (with_reducible exact LeO.refl _)
   | (with_reducible exact LeO.none _)
   | (with_reducible refine LeO.ite ?_ ?_)
   | (with_reducible refine LeO.bind ?_ (fun _ => ?_))
   | exact ih0 _ _ _
   | exact LeO.none _
   | refine LeO.ite ?_ ?_
   | refine LeO.bind ?_ (fun _ => ?_)
set_option maxHeartbeats 8000000 in
set_option maxRecDepth 100000 in
theorem qJ.calls (k : Nat) (a0 : ByteArray) (r : Int) (w : World) (h : qJ.f k a0 = some r) :
  Calls Try.prog 85 #[.string a0] w fun e w' => e = .returned (.int .u64 r) ∧ Drawn0 w w' := by
 have H : (qJ.l0 k a0 14695981039346656037 0) = some r := h
 clear h
 have H' := Aside0.mk H
 clear H
 go_enter Try.func85, Try.ntmps85
 go_wp2
 go_loopg [3, 4] k (fun kq v3 v4 w' => ∃ (x3_1 : Int) (x4_1 : Int), v3 = .int .u64 x3_1 ∧ v4 = .int .i64 x4_1 ∧ Aside0 (qJ.l0 kq a0 x3_1 x4_1 = some r) ∧ Aside0 (kq ≤ k) ∧ Drawn0 w w')
 case atStart => exact ⟨(14695981039346656037), (0), rs_, rs_, H', ⟨Nat.le_refl _⟩, dR_⟩
 case round =>
  clear H'
  obtain ⟨x3_1, x4_1, rfl, rfl, HA, HK1, ⟨m1, rfl⟩⟩ := hrel
  cases gk with
  | zero => exact absurd HA.out (by simp [qJ.l0])
  | succ k1 =>
   have H := HA.out
   clear HA
   simp only [qJ.l0] at H
   by_cases c2 : x4_1 < (a0.size : Int)
   rotate_left
   ·rw [if_neg c2] at H
    have c2b0 := decide_eq_false c2
    clear c2
    obtain rfl := Option.some.inj H
    go_wp2
    go_ret
    exact ⟨rs_, dR_⟩
   rw [if_pos c2] at H
   have c2b0 := decide_eq_true c2
   clear c2
   by_cases c3 : 0 ≤ x4_1
   rotate_left
   ·rw [if_neg c3] at H
    exact absurd H r17_
   rw [if_pos c3] at H
   have c3b0 := decide_eq_true c3
   clear c3
   have H' := Aside0.mk H
   clear H
   have p4 : 0 ≤ (x4_1 : Int) := of_decide_eq_true as_
   have q4 : x4_1 < (a0.size : Int) := of_decide_eq_true as_
   have hx4 := bt_at a0 x4_1
   replace p4 := eq_true p4
   replace q4 := eq_true q4
   go_wp2
   go_roundg k1
   case measure => have := HK1.out; omega
   case rel => exact ⟨(IntKind.u64.wrap ((Go.bits .xor .u64 x3_1 (IntKind.u64.wrap (bt a0 x4_1))) * 1099511628211)), (wrap64 (x4_1 + 1)), rs_, rs_, hH_, ⟨by have := HK1.out; omega⟩, dR_⟩

/-! ### qo: function 63 -/
mutual
def qo.l0 : Nat → Int → List Int → Int → Int → Int → Option (List Int)
 | 0, _, _, _, _, _ => none
 | k + 1, x1, x5, x6, x7, x8 => if x8 < 17 then (qo.l1 k x1 x5 x6 x7 x8 x6 0) else (qo.l3 k x1 x5 x6 x7 0)
def qo.l1 : Nat → Int → List Int → Int → Int → Int → Int → Int → Option (List Int)
 | 0, _, _, _, _, _, _, _ => none
 | k + 1, x1, x5, x6, x7, x8, x9, x10 => if x10 < x8 then (qo.l1 k x1 x5 x6 x7 x8 (IntKind.u64.wrap (Int.tdiv x9 2)) (wrap64 (x10 + 1))) else (if (Int.tmod x9 2) = 1 then (qo.l2 k x1 x5 x6 x7 x8 1 0) else (qo.l0 k x1 x5 x6 x7 (wrap64 (x8 + 1))))
def qo.l2 : Nat → Int → List Int → Int → Int → Int → Int → Int → Option (List Int)
 | 0, _, _, _, _, _, _, _ => none
 | k + 1, x1, x5, x6, x7, x8, x11, x12 => if x12 < (wrap64 (47 + x8)) then (qo.l2 k x1 x5 x6 x7 x8 (IntKind.u64.wrap (x11 * 2)) (wrap64 (x12 + 1))) else (qo.l0 k x1 x5 x6 (IntKind.u64.wrap (x7 + x11)) (wrap64 (x8 + 1)))
def qo.l3 : Nat → Int → List Int → Int → Int → Int → Option (List Int)
 | 0, _, _, _, _, _ => none
 | k + 1, x1, x5, x6, x7, x13 => if x13 < 4 then (if x1 ≥ 1 then (if (IntKind.u64.wrap (x1)) = 0 then (none) else (if x5.length < 17592186044416 then (qo.l3 k x1 (x5 ++ [wrap64 (Int.tmod (IntKind.u64.wrap (x6 + (IntKind.u64.wrap ((IntKind.u64.wrap (x13)) * x7)))) (IntKind.u64.wrap (x1)))]) x6 x7 (wrap64 (x13 + 1))) else (none))) else (some x5)) else (some x5)
end
def qo.f (k : Nat) (a0 : ByteArray) (a1 : Int) : Option (List Int) := (qJ.f k a0).bind fun t239 => (qo.l0 k a1 (([] : List Int)) t239 (IntKind.u64.wrap (Int.tdiv t239 131072)) 0)
theorem qo.mono_l : ∀ k, (∀ y0 y1 y2 y3 y4, LeO (qo.l0 k y0 y1 y2 y3 y4) (qo.l0 (k + 1) y0 y1 y2 y3 y4)) ∧ (∀ y0 y1 y2 y3 y4 y5 y6, LeO (qo.l1 k y0 y1 y2 y3 y4 y5 y6) (qo.l1 (k + 1) y0 y1 y2 y3 y4 y5 y6)) ∧ (∀ y0 y1 y2 y3 y4 y5 y6, LeO (qo.l2 k y0 y1 y2 y3 y4 y5 y6) (qo.l2 (k + 1) y0 y1 y2 y3 y4 y5 y6)) ∧ (∀ y0 y1 y2 y3 y4, LeO (qo.l3 k y0 y1 y2 y3 y4) (qo.l3 (k + 1) y0 y1 y2 y3 y4))
 | 0 => ⟨fun _ _ _ _ _ r h => by simp [qo.l0] at h, fun _ _ _ _ _ _ _ r h => by simp [qo.l1] at h, fun _ _ _ _ _ _ _ r h => by simp [qo.l2] at h, fun _ _ _ _ _ r h => by simp [qo.l3] at h⟩
 | k + 1 => by
  obtain ⟨ih0, ih1, ih2, ih3⟩ := qo.mono_l k
  refine ⟨?_, ?_, ?_, ?_⟩
  ·intro y0 y1 y2 y3 y4
   unfold qo.l0
   repeat' first
   | (with_reducible exact ih0 _ _ _ _ _)
   | (with_reducible exact ih1 _ _ _ _ _ _ _)
   | (with_reducible exact ih2 _ _ _ _ _ _ _)
   | (with_reducible exact ih3 _ _ _ _ _)
   | (with_reducible exact LeO.refl _)
   | (with_reducible exact LeO.none _)
   | (with_reducible refine LeO.ite ?_ ?_)
   | (with_reducible refine LeO.bind ?_ (fun _ => ?_))
   | exact ih0 _ _ _ _ _
   | exact ih1 _ _ _ _ _ _ _
   | exact ih2 _ _ _ _ _ _ _
   | exact ih3 _ _ _ _ _
   | exact qJ.mono _ _
   | exact LeO.none _
   | refine LeO.ite ?_ ?_
   | refine LeO.bind ?_ (fun _ => ?_)
  ·intro y0 y1 y2 y3 y4 y5 y6
   unfold qo.l1
   repeat' first
   | (with_reducible exact ih0 _ _ _ _ _)
   | (with_reducible exact ih1 _ _ _ _ _ _ _)
   | (with_reducible exact ih2 _ _ _ _ _ _ _)
   | (with_reducible exact ih3 _ _ _ _ _)
   | (with_reducible exact LeO.refl _)
   | (with_reducible exact LeO.none _)
   | (with_reducible refine LeO.ite ?_ ?_)
   | (with_reducible refine LeO.bind ?_ (fun _ => ?_))
   | exact ih0 _ _ _ _ _
   | exact ih1 _ _ _ _ _ _ _
   | exact ih2 _ _ _ _ _ _ _
   | exact ih3 _ _ _ _ _
   | exact qJ.mono _ _
   | exact LeO.none _
   | refine LeO.ite ?_ ?_
   | refine LeO.bind ?_ (fun _ => ?_)
  ·intro y0 y1 y2 y3 y4 y5 y6
   unfold qo.l2
   repeat' first
   | (with_reducible exact ih0 _ _ _ _ _)
   | (with_reducible exact ih1 _ _ _ _ _ _ _)
   | (with_reducible exact ih2 _ _ _ _ _ _ _)
   | (with_reducible exact ih3 _ _ _ _ _)
   | (with_reducible exact LeO.refl _)
   | (with_reducible exact LeO.none _)
   | (with_reducible refine LeO.ite ?_ ?_)
   | (with_reducible refine LeO.bind ?_ (fun _ => ?_))
   | exact ih0 _ _ _ _ _
   | exact ih1 _ _ _ _ _ _ _
   | exact ih2 _ _ _ _ _ _ _
   | exact ih3 _ _ _ _ _
   | exact qJ.mono _ _
   | exact LeO.none _
   | refine LeO.ite ?_ ?_
   | refine LeO.bind ?_ (fun _ => ?_)
  ·intro y0 y1 y2 y3 y4
   unfold qo.l3
   repeat' first
   | (with_reducible exact ih0 _ _ _ _ _)
   | (with_reducible exact ih1 _ _ _ _ _ _ _)
   | (with_reducible exact ih2 _ _ _ _ _ _ _)
   | (with_reducible exact ih3 _ _ _ _ _)
   | (with_reducible exact LeO.refl _)
   | (with_reducible exact LeO.none _)
   | (with_reducible refine LeO.ite ?_ ?_)
   | (with_reducible refine LeO.bind ?_ (fun _ => ?_))
   | exact ih0 _ _ _ _ _
   | exact ih1 _ _ _ _ _ _ _
   | exact ih2 _ _ _ _ _ _ _
   | exact ih3 _ _ _ _ _
   | exact qJ.mono _ _
   | exact LeO.none _
   | refine LeO.ite ?_ ?_
   | refine LeO.bind ?_ (fun _ => ?_)
theorem qo.mono : ∀ a0 a1 k, LeO (qo.f k a0 a1) (qo.f (k + 1) a0 a1) := by
 intro a0 a1 k
 obtain ⟨ih0, ih1, ih2, ih3⟩ := qo.mono_l k
 unfold qo.f
 repeat' first
   | (with_reducible exact ih0 _ _ _ _ _)
   | (with_reducible exact ih1 _ _ _ _ _ _ _)
   | (with_reducible exact ih2 _ _ _ _ _ _ _)
   | (with_reducible exact ih3 _ _ _ _ _)
   | (with_reducible exact LeO.refl _)
   | (with_reducible exact LeO.none _)
   | (with_reducible refine LeO.ite ?_ ?_)
   | (with_reducible refine LeO.bind ?_ (fun _ => ?_))
   | exact ih0 _ _ _ _ _
   | exact ih1 _ _ _ _ _ _ _
   | exact ih2 _ _ _ _ _ _ _
   | exact ih3 _ _ _ _ _
   | exact qJ.mono _ _
   | exact LeO.none _
   | refine LeO.ite ?_ ?_
   | refine LeO.bind ?_ (fun _ => ?_)
set_option maxHeartbeats 8000000 in
set_option maxRecDepth 100000 in
theorem qo.calls (k : Nat) (a0 : ByteArray) (a1 : Int) (r : List Int) (w : World) (h : qo.f k a0 a1 = some r) :
  Calls Try.prog 63 #[.string a0, .int .i64 a1] w fun e w' => ∃ v0_ : Value, e = .returned (v0_) ∧ Kd.R (Kd.int .i64) 3 w' w.heap.size (fun _ => True) v0_ r ∧ Below w.heap.size w w' := by
 have HB := Aside0.mk (Below.refl w.heap.size w)
 have H : ((qJ.f k a0).bind fun t239 => (qo.l0 k a1 (([] : List Int)) t239 (IntKind.u64.wrap (Int.tdiv t239 131072)) 0)) = some r := h
 clear h
 obtain ⟨y236, hy236⟩ : ∃ y_ : List Int, y_ = (([] : List Int)) := ⟨_, rfl⟩
 replace H : ((qJ.f k a0).bind fun t239 => (qo.l0 k a1 y236 t239 (IntKind.u64.wrap (Int.tdiv t239 131072)) 0)) = some r := by first | (rw [hy236]; with_reducible exact H) | (have H2_ := (Option.bind_some _ _).symm.trans H; rw [hy236]; with_reducible exact H2_) | (have H2_ := (Option.bind_some _ _).symm.trans H; with_reducible exact H2_) | with_reducible exact H | (rw [hy236]; exact H) | exact H
 have Ny236 := Aside0.mk hy236
 clear hy236
 replace H := bs_ H
 obtain ⟨t239, A30, H⟩ := H
 try dsimp only at H
 have A3 := Aside0.mk A30
 clear A30
 have H' := Aside0.mk H
 clear H
 go_enter Try.func63, Try.ntmps63
 go_wp2_with (first | ((with_reducible refine gate_dst (N := 14) rfl ?_); refine Kd.R_lit (Kd.int .i64) _ 3 ?hg (N := 14) ?hd (xs := ([] : List Int)) (inner := []) (ok := fun _ => True) (okp := fun _ => True) ?hr ?hp (fun _ hk => hk) trivial (Below.refl _ _) (Nat.le_refl _) r17_ ?_; (case hd => rfl); (case hg => rfl); (case hr => first | (go_simp; done) | (go_simp; rfl)); (case hp => exact (Reps.none _ _)); intro v237 w4 ho5 hb hg_ hnew_; clear hg_ hnew_; (first | rw [← Ny236.out] at ho5 | (simp only [Int.reduceToNat] at ho5; rw [← Ny236.out] at ho5)); have HO238 := Aside0.mk (Kd.R_lower ho5 (below_size hB_)); replace HB := Aside0.mk (below_step hB_ hb); clear hb ho5) | ((with_reducible refine gate_callee (f := 85) rfl ?_); refine goesL_ (some 16) rfl rfl Try.func85 r2_ rfl #[.string a0] rfl hA_ ?_; (with_reducible refine (qJ.calls k a0 t239 _ A3.out).mono ?_); rintro e w' ⟨rfl, ⟨nd, rfl⟩⟩; refine ⟨_, rfl, ?_⟩))
 go_loopg [7, 8] k (fun kq v7 v8 w' => ∃ (x7_1 : Int) (x8_1 : Int), v7 = .int .u64 x7_1 ∧ v8 = .int .i64 x8_1 ∧ Aside0 (qo.l0 kq a1 y236 t239 x7_1 x8_1 = some r) ∧ Aside0 (kq ≤ k) ∧ Aside0 (Kd.R (Kd.int .i64) 3 w' w.heap.size (fun _ => True) v237 y236) ∧ Aside0 (Below w.heap.size w w'))
 case atStart => exact ⟨(IntKind.u64.wrap (Int.tdiv t239 131072)), (0), rs_, rs_, H', ⟨Nat.le_refl _⟩, ⟨by (with_reducible repeat (first | apply Kd.R_alloc | apply Kd.R_drewN | apply Kd.R_drew)); exact HO238.out⟩, ⟨hB_⟩⟩
 case round =>
  clear H'
  obtain ⟨x7_1, x8_1, rfl, rfl, HA, HK1, HO_5, HB⟩ := hrel
  cases gk with
  | zero => exact absurd HA.out (by simp [qo.l0])
  | succ k1 =>
   have H := HA.out
   clear HA
   simp only [qo.l0] at H
   by_cases c6 : x8_1 < 17
   rotate_left
   ·rw [if_neg c6] at H
    have c6b0 := decide_eq_false c6
    clear c6
    have H' := Aside0.mk H
    clear H
    go_wp2
    go_loopg [5, 13] k1 (fun kq v5 v13 w' => ∃ (x5_2 : List Int) (x13_2 : Int), v13 = .int .i64 x13_2 ∧ Aside0 (qo.l3 kq a1 x5_2 t239 x7_1 x13_2 = some r) ∧ Aside0 (kq ≤ k1) ∧ Aside0 (Kd.R (Kd.int .i64) 3 w' w.heap.size (fun _ => True) v5 x5_2) ∧ Aside0 (Below w.heap.size w w'))
    case atStart => exact ⟨(y236), (0), rs_, H', ⟨Nat.le_refl _⟩, ⟨r4_⟩, ⟨hB_⟩⟩
    case round =>
     clear H'
     try clear c6
     try clear c6b0
     obtain ⟨x5_2, x13_2, rfl, HA, HK2, HO_5, HB⟩ := hrel
     cases gk with
     | zero => exact absurd HA.out (by simp [qo.l3])
     | succ k2 =>
      have H := HA.out
      clear HA
      simp only [qo.l3] at H
      by_cases c10 : x13_2 < 4
      rotate_left
      ·rw [if_neg c10] at H
       have c10b0 := decide_eq_false c10
       clear c10
       obtain rfl := Option.some.inj H
       go_wp2
       go_ret
       exact ⟨_, rf_, r4_, hB_⟩
      rw [if_pos c10] at H
      have c10b0 := decide_eq_true c10
      clear c10
      by_cases c11 : a1 ≥ 1
      rotate_left
      ·rw [if_neg c11] at H
       have c11b0 : decide (1 ≤ a1) = false := decide_eq_false c11
       clear c11
       obtain rfl := Option.some.inj H
       go_wp2
       go_ret
       exact ⟨_, rf_, r4_, hB_⟩
      rw [if_pos c11] at H
      have c11b0 : decide (1 ≤ a1) = true := decide_eq_true c11
      clear c11
      by_cases c12 : (IntKind.u64.wrap (a1)) = 0
      ·rw [if_pos c12] at H
       exact absurd H r17_
      rw [if_neg c12] at H
      have c12b0 := beq_eq_false_iff_ne.mpr c12
      have c12b1 := bne_iff_ne.mpr c12
      by_cases c13 : x5_2.length < 17592186044416
      rotate_left
      ·rw [if_neg c13] at H
       exact absurd H r17_
      rw [if_pos c13] at H
      have LMc13 := Aside0.mk c13
      clear c13
      obtain ⟨y240, hy240⟩ : ∃ y_ : List Int, y_ = (x5_2 ++ [wrap64 (Int.tmod (IntKind.u64.wrap (t239 + (IntKind.u64.wrap ((IntKind.u64.wrap (x13_2)) * x7_1)))) (IntKind.u64.wrap (a1)))]) := ⟨_, rfl⟩
      replace H : (qo.l3 k2 a1 y240 t239 x7_1 (wrap64 (x13_2 + 1))) = some r := by first | (rw [hy240]; with_reducible exact H) | (have H2_ := (Option.bind_some _ _).symm.trans H; rw [hy240]; with_reducible exact H2_) | (have H2_ := (Option.bind_some _ _).symm.trans H; with_reducible exact H2_) | with_reducible exact H | (rw [hy240]; exact H) | exact H
      have Ny240 := Aside0.mk hy240
      clear hy240
      have H' := Aside0.mk H
      clear H
      go_wp2_with (first | ((with_reducible refine gate_builtin (b := .append) (xs := #[.tmp 53, .tmp 64]) rfl ?_); at_builtin; refine Kd.R_append (Kd.int .i64) (w0 := w) w.heap.size rfl (.tmp 53) (.tmp 64) 88 3 (.int .i64 0) 8 rfl Try.underlying88 info3 rfl r24_ r18_ u5 x5_2 (wrap64 (Int.tmod (IntKind.u64.wrap (t239 + (IntKind.u64.wrap ((IntKind.u64.wrap (x13_2)) * x7_1)))) (IntKind.u64.wrap (a1)))) [.int .i64 (wrap64 (Int.tmod (IntKind.u64.wrap (t239 + (IntKind.u64.wrap ((IntKind.u64.wrap (x13_2)) * x7_1)))) (IntKind.u64.wrap (a1))))] (fun _ => True) (fun _ => False) rfl rfl ?aP (fun _ hk => hk.elim) ?aF ?aO ?aB ?aS ?aL ?_; (case aP => exact rfl); (case aB => exact hB_); (case aF => exact (fun _ _ => trivial)); (case aO => exact r4_); (case aS => exact (below_size hB_)); (case aL => have := LMc13.out; omega); intro v241 w14 ho hb hg hat; rw [← Ny240.out] at ho; replace HB := Aside0.mk (hb); have HO242 := Aside0.mk (ho); clear HO_5; clear ho hb hg hat))
      go_roundg k2
      case measure => have := HK1.out; have := HK2.out; omega
      case rel => exact ⟨(y240), (wrap64 (x13_2 + 1)), rs_, hH_, ⟨by have := HK1.out; have := HK2.out; omega⟩, ⟨by (with_reducible repeat (first | apply Kd.R_alloc | apply Kd.R_drewN | apply Kd.R_drew)); exact HO242.out⟩, ⟨hB_⟩⟩
   rw [if_pos c6] at H
   have c6b0 := decide_eq_true c6
   clear c6
   have H' := Aside0.mk H
   clear H
   go_wp2
   go_loopg [9, 10] k1 (fun kq v9 v10 w' => ∃ (x9_2 : Int) (x10_2 : Int), v9 = .int .u64 x9_2 ∧ v10 = .int .i64 x10_2 ∧ Aside0 (qo.l1 kq a1 y236 t239 x7_1 x8_1 x9_2 x10_2 = some r) ∧ Aside0 (kq ≤ k1) ∧ Aside0 (Kd.R (Kd.int .i64) 3 w' w.heap.size (fun _ => True) v237 y236) ∧ Aside0 (Below w.heap.size w w'))
   case atStart => exact ⟨(t239), (0), rs_, rs_, H', ⟨Nat.le_refl _⟩, ⟨r4_⟩, ⟨hB_⟩⟩
   case round =>
    clear H'
    try clear c6
    try clear c6b0
    obtain ⟨x9_2, x10_2, rfl, rfl, HA, HK2, HO_5, HB⟩ := hrel
    cases gk with
    | zero => exact absurd HA.out (by simp [qo.l1])
    | succ k2 =>
     have H := HA.out
     clear HA
     simp only [qo.l1] at H
     by_cases c7 : x10_2 < x8_1
     ·rw [if_pos c7] at H
      have c7b0 := decide_eq_true c7
      clear c7
      have H' := Aside0.mk H
      clear H
      go_wp2
      go_roundg k2
      case measure => have := HK1.out; have := HK2.out; omega
      case rel => exact ⟨(IntKind.u64.wrap (Int.tdiv x9_2 2)), (wrap64 (x10_2 + 1)), rs_, rs_, hH_, ⟨by have := HK1.out; have := HK2.out; omega⟩, ⟨r4_⟩, ⟨hB_⟩⟩
     rw [if_neg c7] at H
     have c7b0 := decide_eq_false c7
     clear c7
     by_cases c8 : (Int.tmod x9_2 2) = 1
     rotate_left
     ·rw [if_neg c8] at H
      have c8b0 := beq_eq_false_iff_ne.mpr c8
      have c8b1 := bne_iff_ne.mpr c8
      have H' := Aside0.mk H
      clear H
      go_wp2
      go_roundg k2
      case measure => have := HK1.out; have := HK2.out; omega
      case rel => exact ⟨(x7_1), (wrap64 (x8_1 + 1)), rs_, rs_, hH_, ⟨by have := HK1.out; have := HK2.out; omega⟩, ⟨r4_⟩, ⟨hB_⟩⟩
     rw [if_pos c8] at H
     have c8b0 := beq_iff_eq.mpr c8
     have c8b1 := bne_eq_false_iff_eq.mpr c8
     clear c8
     have H' := Aside0.mk H
     clear H
     go_wp2
     go_loopg [11, 12] k2 (fun kq v11 v12 w' => ∃ (x11_3 : Int) (x12_3 : Int), v11 = .int .u64 x11_3 ∧ v12 = .int .i64 x12_3 ∧ Aside0 (qo.l2 kq a1 y236 t239 x7_1 x8_1 x11_3 x12_3 = some r) ∧ Aside0 (kq ≤ k2) ∧ Aside0 (Kd.R (Kd.int .i64) 3 w' w.heap.size (fun _ => True) v237 y236) ∧ Aside0 (Below w.heap.size w w'))
     case atStart => exact ⟨(1), (0), rs_, rs_, H', ⟨Nat.le_refl _⟩, ⟨r4_⟩, ⟨hB_⟩⟩
     case round =>
      clear H'
      try clear c6
      try clear c6b0
      try clear c7
      try clear c7b0
      try clear c8
      try clear c8b0
      try clear c8b1
      obtain ⟨x11_3, x12_3, rfl, rfl, HA, HK3, HO_5, HB⟩ := hrel
      cases gk with
      | zero => exact absurd HA.out (by simp [qo.l2])
      | succ k3 =>
       have H := HA.out
       clear HA
       simp only [qo.l2] at H
       by_cases c9 : x12_3 < (wrap64 (47 + x8_1))
       ·rw [if_pos c9] at H
        have c9b0 := decide_eq_true c9
        clear c9
        have H' := Aside0.mk H
        clear H
        go_wp2
        go_roundg k3
        case measure => have := HK1.out; have := HK2.out; have := HK3.out; omega
        case rel => exact ⟨(IntKind.u64.wrap (x11_3 * 2)), (wrap64 (x12_3 + 1)), rs_, rs_, hH_, ⟨by have := HK1.out; have := HK2.out; have := HK3.out; omega⟩, ⟨r4_⟩, ⟨hB_⟩⟩
       rw [if_neg c9] at H
       have c9b0 := decide_eq_false c9
       clear c9
       have H' := Aside0.mk H
       clear H
       go_wp2
       go_roundg k3
       case measure => have := HK1.out; have := HK2.out; have := HK3.out; omega
       case rel => exact ⟨(IntKind.u64.wrap (x7_1 + x11_3)), (wrap64 (x8_1 + 1)), rs_, rs_, hH_, ⟨by have := HK1.out; have := HK2.out; have := HK3.out; omega⟩, ⟨r4_⟩, ⟨hB_⟩⟩

end Go.Proofs.Ytgdkikkjaofbfaa.P
