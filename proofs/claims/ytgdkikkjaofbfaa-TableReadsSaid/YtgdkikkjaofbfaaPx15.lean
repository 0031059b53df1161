-- Printed by a program of this session's own (wip/tools/pprint.sh, over the kit's print, with given contracts): not typed by hand.
import Derived.Test.YtgdkikkjaofbfaaPx0
namespace Go.Proofs.Ytgdkikkjaofbfaa.P
open Go.RowKit Go.Proofs.YtgdkikkjaofbfaaW.PrintWords Go.Proofs.YtgdkikkjaofbfaaW.PrintLast Go.Proofs.YtgdkikkjaofbfaaW.PrintMore
attribute [local go_sem] max2_int min2_int max_two min_two max_three min_three max_four min_four   -- for this text's walks alone
set_option linter.unusedVariables false
set_option linter.unusedSimpArgs false
-- SQUEEZED4
-- SQUEEZED3

/-! ### qc1: function 51 -/
def qc1.f (a0 : ByteArray) (a1 : Int) (a2 : ByteArray) (a3 : Int) : Option (Bool) := if (Op.bytesLess a0.toList a2.toList) = true then (some true) else (if a0.toList = a2.toList then (some (decide (a1 > a3))) else (some false))
set_option maxHeartbeats 8000000 in
set_option maxRecDepth 100000 in
theorem qc1.calls (a0 : ByteArray) (a1 : Int) (a2 : ByteArray) (a3 : Int) (r : Bool) (w : World) (h : qc1.f a0 a1 a2 a3 = some r) :
  Calls Try.prog 51 #[.string a0, .int .u64 a1, .string a2, .int .u64 a3] w fun e w' => e = .returned (.bool r) ∧ Drawn0 w w' := by
 have H : (if (Op.bytesLess a0.toList a2.toList) = true then (some true) else (if a0.toList = a2.toList then (some (decide (a1 > a3))) else (some false))) = some r := h
 clear h
 by_cases c5 : (Op.bytesLess a0.toList a2.toList) = true
 ·rw [if_pos c5] at H
  have c5b0 : (Op.bytesLess a0.toList a2.toList) = true := c5
  clear c5
  obtain rfl := Option.some.inj H
  go_enter Try.func51, Try.ntmps51
  go_wp2
  go_ret
  exact ⟨rs_, dR_⟩
 rw [if_neg c5] at H
 have c5b0 : (Op.bytesLess a0.toList a2.toList) = false := by simpa using c5
 clear c5
 by_cases c6 : a0.toList = a2.toList
 rotate_left
 ·rw [if_neg c6] at H
  have c6b0 := beq_eq_false_iff_ne.mpr c6
  have c6b1 := bne_iff_ne.mpr c6
  obtain rfl := Option.some.inj H
  go_enter Try.func51, Try.ntmps51
  go_wp2
  go_ret
  exact ⟨rs_, dR_⟩
 rw [if_pos c6] at H
 have c6b0 := beq_iff_eq.mpr c6
 have c6b1 := bne_eq_false_iff_eq.mpr c6
 clear c6
 obtain rfl := Option.some.inj H
 go_enter Try.func51, Try.ntmps51
 go_wp2
 go_ret
 exact ⟨rs_, dR_⟩

/-! ### qB: function 34 -/
def qB.l0 : Nat → List (S37) → Int → Option (Bool)
 | 0, _, _ => none
 | k + 1, x0, x3 => if (wrap64 (x3 + 1)) < (x0.length : Int) then (if 0 ≤ x3 then (if x3 < (x0.length : Int) then (if 0 ≤ (wrap64 (x3 + 1)) then ((qc1.f ((rd_T37 x0 x3).f0) ((rd_T37 x0 x3).f1) ((rd_T37 x0 (wrap64 (x3 + 1))).f0) ((rd_T37 x0 (wrap64 (x3 + 1))).f1)).bind fun t208 => (if t208 = true then (qB.l0 k x0 (wrap64 (x3 + 1))) else (some false))) else (none)) else (none)) else (none)) else (some true)
def qB.f (k : Nat) (l0 : List (S37)) : Option (Bool) := qB.l0 k l0 0
theorem qB.mono_l : ∀ k, (∀ y0 y1, LeO (qB.l0 k y0 y1) (qB.l0 (k + 1) y0 y1))
 | 0 => fun _ _ r h => by simp [qB.l0] at h
 | k + 1 => by
  have ih0 := qB.mono_l k
  ·intro y0 y1
   unfold qB.l0
   repeat' first
   | (with_reducible exact ih0 _ _)
   | (with_reducible exact LeO.refl _)
   | (with_reducible exact LeO.none _)
   | (with_reducible refine LeO.ite ?_ ?_)
   | (with_reducible refine LeO.bind ?_ (fun _ => ?_))
   | exact ih0 _ _
   | exact LeO.none _
   | refine LeO.ite ?_ ?_
   | refine LeO.bind ?_ (fun _ => ?_)
theorem qB.mono : ∀ a0 k, LeO (qB.f k a0) (qB.f (k + 1) a0) := by
 intro a0 k
 have ih0 := qB.mono_l k
 unfold qB.f
 repeat' first
   | (with_reducible exact ih0 _ _)
   | (with_reducible exact LeO.refl _)
   | (with_reducible exact LeO.none _)
   | (with_reducible refine LeO.ite ?_ ?_)
   | (with_reducible refine LeO.bind ?_ (fun _ => ?_))
   | exact ih0 _ _
   | exact LeO.none _
   | refine LeO.ite ?_ ?_
   | refine LeO.bind ?_ (fun _ => ?_)
set_option maxHeartbeats 8000000 in
set_option maxRecDepth 100000 in
theorem qB.calls (k : Nat) (A0 : Option Addr) (c0 : Nat) (l0 : List (S37)) (r : Bool) (w : World) (hr0 : Kd.C k37 w A0 l0.length l0) (hc0 : l0.length ≤ c0) (h : qB.f k l0 = some r) :
  Calls Try.prog 34 #[.slice A0 l0.length c0] w fun e w' => e = .returned (.bool r) ∧ Drawn0 w w' := by
 have HR0 := Aside0.mk hr0
 have HC0 := Aside0.mk hc0
 clear hr0 hc0
 have H : (qB.l0 k l0 0) = some r := h
 clear h
 have H' := Aside0.mk H
 clear H
 go_enter Try.func34, Try.ntmps34
 go_wp2
 repeat (go_quiet (fail); try go_wp2)
 go_loopg [3] k (fun kq v3 w' => ∃ (x3_1 : Int), v3 = .int .i64 x3_1 ∧ Aside0 (qB.l0 kq l0 x3_1 = some r) ∧ Aside0 (kq ≤ k) ∧ Drawn0 w w')
 case atStart => exact ⟨(0), rs_, H', ⟨Nat.le_refl _⟩, dR_⟩
 case round =>
  clear H'
  obtain ⟨x3_1, rfl, HA, HK1, ⟨m1, rfl⟩⟩ := hrel
  cases gk with
  | zero => exact absurd HA.out (by simp [qB.l0])
  | succ k1 =>
   have H := HA.out
   clear HA
   simp only [qB.l0] at H
   by_cases c2 : (wrap64 (x3_1 + 1)) < (l0.length : Int)
   rotate_left
   ·rw [if_neg c2] at H
    have c2b0 := decide_eq_false c2
    clear c2
    obtain rfl := Option.some.inj H
    go_wp2
    repeat (go_quiet (fail); try go_wp2)
    go_ret
    exact ⟨rs_, dR_⟩
   rw [if_pos c2] at H
   have c2b0 := decide_eq_true c2
   clear c2
   by_cases c3 : 0 ≤ x3_1
   rotate_left
   ·rw [if_neg c3] at H
    exact absurd H r17_
   rw [if_pos c3] at H
   have c3b0 := decide_eq_true c3
   clear c3
   by_cases c4 : x3_1 < (l0.length : Int)
   rotate_left
   ·rw [if_neg c4] at H
    exact absurd H r17_
   rw [if_pos c4] at H
   have c4b0 := decide_eq_true c4
   clear c4
   obtain ⟨ji5, hji5⟩ : ∃ j_ : Int, (wrap64 (x3_1 + 1)) = j_ := ⟨_, rfl⟩
   replace H : (if 0 ≤ (ji5) then ((qc1.f ((rd_T37 l0 x3_1).f0) ((rd_T37 l0 x3_1).f1) ((rd_T37 l0 (ji5)).f0) ((rd_T37 l0 (ji5)).f1)).bind fun t208 => (if t208 = true then (qB.l0 k1 l0 ji5) else (some false))) else (none)) = some r := by first | (rw [hji5] at H; exact H) | (simp only [hji5] at H ⊢; exact H)
   (try rw [hji5])
   (try rw [hji5] at c2b0)
   have hji5w : (IntKind.i64.wrap (x3_1 + 1)) = ji5 := (i64_w _).trans hji5
   by_cases c6 : 0 ≤ (ji5)
   rotate_left
   ·rw [if_neg c6] at H
    exact absurd H r17_
   rw [if_pos c6] at H
   have c6b0 := decide_eq_true c6
   clear c6
   replace H := bs_ H
   obtain ⟨t208, A70, H⟩ := H
   try dsimp only at H
   have A7 := Aside0.mk A70
   clear A70
   by_cases c8 : t208 = true
   rotate_left
   ·replace c8 := Bool.eq_false_iff.mpr c8
    subst c8
    rw [if_neg ff_] at H
    obtain rfl := Option.some.inj H
    have p204 : 0 ≤ (x3_1 : Int) := of_decide_eq_true as_
    have q204 : x3_1 < (l0.length : Int) := of_decide_eq_true as_
    obtain ⟨ad204, e204, hx204_0, hx204_1, hx204_2, hx204_3⟩ := at_T37 HR0.out x3_1 p204 q204
    cases e204
    replace p204 := eq_true p204
    replace q204 := eq_true q204
    have p205 : 0 ≤ (x3_1 : Int) := of_decide_eq_true as_
    have q205 : x3_1 < (l0.length : Int) := of_decide_eq_true as_
    obtain ⟨ad205, e205, hx205_0, hx205_1, hx205_2, hx205_3⟩ := at_T37 HR0.out x3_1 p205 q205
    obtain rfl : ad204 = ad205 := (by injection e205)
    replace p205 := eq_true p205
    replace q205 := eq_true q205
    have p206 : 0 ≤ ((ji5) : Int) := of_decide_eq_true as_
    have q206 : (ji5) < (l0.length : Int) := of_decide_eq_true as_
    obtain ⟨ad206, e206, hx206_0, hx206_1, hx206_2, hx206_3⟩ := at_T37 HR0.out (ji5) p206 q206
    obtain rfl : ad204 = ad206 := (by injection e206)
    replace p206 := eq_true p206
    replace q206 := eq_true q206
    have p207 : 0 ≤ ((ji5) : Int) := of_decide_eq_true as_
    have q207 : (ji5) < (l0.length : Int) := of_decide_eq_true as_
    obtain ⟨ad207, e207, hx207_0, hx207_1, hx207_2, hx207_3⟩ := at_T37 HR0.out (ji5) p207 q207
    obtain rfl : ad204 = ad207 := (by injection e207)
    replace p207 := eq_true p207
    replace q207 := eq_true q207
    go_wp2_with (first | (go_at_call 51; (with_reducible refine (qc1.calls ((rd_T37 l0 x3_1).f0) ((rd_T37 l0 x3_1).f1) ((rd_T37 l0 (ji5)).f0) ((rd_T37 l0 (ji5)).f1) false _ A7.out).mono ?_); rintro e w' ⟨rfl, ⟨nd, rfl⟩⟩; (try first | exact ⟨rfl, _, World.drewN_drewN _ _ _⟩ | exact ⟨rfl, _, Eq.trans (World.drewN_drewN _ _ _) (congrArg (World.drewN _) (Nat.add_assoc _ _ _))⟩)))
    repeat (go_quiet (first | (go_at_call 51; (with_reducible refine (qc1.calls ((rd_T37 l0 x3_1).f0) ((rd_T37 l0 x3_1).f1) ((rd_T37 l0 (ji5)).f0) ((rd_T37 l0 (ji5)).f1) false _ A7.out).mono ?_); rintro e w' ⟨rfl, ⟨nd, rfl⟩⟩; (try first | exact ⟨rfl, _, World.drewN_drewN _ _ _⟩ | exact ⟨rfl, _, Eq.trans (World.drewN_drewN _ _ _) (congrArg (World.drewN _) (Nat.add_assoc _ _ _))⟩))); try go_wp2_with (first | (go_at_call 51; (with_reducible refine (qc1.calls ((rd_T37 l0 x3_1).f0) ((rd_T37 l0 x3_1).f1) ((rd_T37 l0 (ji5)).f0) ((rd_T37 l0 (ji5)).f1) false _ A7.out).mono ?_); rintro e w' ⟨rfl, ⟨nd, rfl⟩⟩; (try first | exact ⟨rfl, _, World.drewN_drewN _ _ _⟩ | exact ⟨rfl, _, Eq.trans (World.drewN_drewN _ _ _) (congrArg (World.drewN _) (Nat.add_assoc _ _ _))⟩))))
    go_ret
    exact ⟨by first | rfl | (simp; done) | (simp only [← hji5] <;> (first | rfl | simp)) | (simp [*]; done), dR_⟩
   subst c8
   rw [if_pos rfl] at H
   have H' := Aside0.mk H
   clear H
   have p204 : 0 ≤ (x3_1 : Int) := of_decide_eq_true as_
   have q204 : x3_1 < (l0.length : Int) := of_decide_eq_true as_
   obtain ⟨ad204, e204, hx204_0, hx204_1, hx204_2, hx204_3⟩ := at_T37 HR0.out x3_1 p204 q204
   cases e204
   replace p204 := eq_true p204
   replace q204 := eq_true q204
   have p205 : 0 ≤ (x3_1 : Int) := of_decide_eq_true as_
   have q205 : x3_1 < (l0.length : Int) := of_decide_eq_true as_
   obtain ⟨ad205, e205, hx205_0, hx205_1, hx205_2, hx205_3⟩ := at_T37 HR0.out x3_1 p205 q205
   obtain rfl : ad204 = ad205 := (by injection e205)
   replace p205 := eq_true p205
   replace q205 := eq_true q205
   have p206 : 0 ≤ ((ji5) : Int) := of_decide_eq_true as_
   have q206 : (ji5) < (l0.length : Int) := of_decide_eq_true as_
   obtain ⟨ad206, e206, hx206_0, hx206_1, hx206_2, hx206_3⟩ := at_T37 HR0.out (ji5) p206 q206
   obtain rfl : ad204 = ad206 := (by injection e206)
   replace p206 := eq_true p206
   replace q206 := eq_true q206
   have p207 : 0 ≤ ((ji5) : Int) := of_decide_eq_true as_
   have q207 : (ji5) < (l0.length : Int) := of_decide_eq_true as_
   obtain ⟨ad207, e207, hx207_0, hx207_1, hx207_2, hx207_3⟩ := at_T37 HR0.out (ji5) p207 q207
   obtain rfl : ad204 = ad207 := (by injection e207)
   replace p207 := eq_true p207
   replace q207 := eq_true q207
   go_wp2_with (first | (go_at_call 51; (with_reducible refine (qc1.calls ((rd_T37 l0 x3_1).f0) ((rd_T37 l0 x3_1).f1) ((rd_T37 l0 (ji5)).f0) ((rd_T37 l0 (ji5)).f1) true _ A7.out).mono ?_); rintro e w' ⟨rfl, ⟨nd, rfl⟩⟩; (try first | exact ⟨rfl, _, World.drewN_drewN _ _ _⟩ | exact ⟨rfl, _, Eq.trans (World.drewN_drewN _ _ _) (congrArg (World.drewN _) (Nat.add_assoc _ _ _))⟩)))
   repeat (go_quiet (first | (go_at_call 51; (with_reducible refine (qc1.calls ((rd_T37 l0 x3_1).f0) ((rd_T37 l0 x3_1).f1) ((rd_T37 l0 (ji5)).f0) ((rd_T37 l0 (ji5)).f1) true _ A7.out).mono ?_); rintro e w' ⟨rfl, ⟨nd, rfl⟩⟩; (try first | exact ⟨rfl, _, World.drewN_drewN _ _ _⟩ | exact ⟨rfl, _, Eq.trans (World.drewN_drewN _ _ _) (congrArg (World.drewN _) (Nat.add_assoc _ _ _))⟩))); try go_wp2_with (first | (go_at_call 51; (with_reducible refine (qc1.calls ((rd_T37 l0 x3_1).f0) ((rd_T37 l0 x3_1).f1) ((rd_T37 l0 (ji5)).f0) ((rd_T37 l0 (ji5)).f1) true _ A7.out).mono ?_); rintro e w' ⟨rfl, ⟨nd, rfl⟩⟩; (try first | exact ⟨rfl, _, World.drewN_drewN _ _ _⟩ | exact ⟨rfl, _, Eq.trans (World.drewN_drewN _ _ _) (congrArg (World.drewN _) (Nat.add_assoc _ _ _))⟩))))
   go_roundg k1
   case measure => have := HK1.out; omega
   case rel => exact ⟨(ji5), (by first | rfl | (simp; done) | (simp only [← hji5] <;> (first | rfl | simp)) | (simp [*]; done)), hH_, ⟨by have := HK1.out; omega⟩, dR_⟩

/-! ### qt: function 37 -/
def qt.l0 : Nat → Int → List Int → Option (ByteArray)
 | 0, _, _ => none
 | k + 1, x0, x3 => if x0 > 127 then (if x3.length < 140737488355328 then (qt.l0 k (IntKind.u64.wrap (Int.tdiv x0 128)) (x3 ++ [(IntKind.u64.wrap ((Int.tmod x0 128) + 128)) % 256])) else (none)) else (if x3.length < 140737488355328 then (some (strOfNums (x3 ++ [(x0) % 256]))) else (none))
def qt.f (k : Nat) (a0 : Int) : Option (ByteArray) := qt.l0 k a0 (([] : List Int))
theorem qt.mono_l : ∀ k, (∀ y0 y1, LeO (qt.l0 k y0 y1) (qt.l0 (k + 1) y0 y1))
 | 0 => fun _ _ r h => by simp [qt.l0] at h
 | k + 1 => by
  have ih0 := qt.mono_l k
  ·intro y0 y1
   unfold qt.l0
   repeat' first
   | (with_reducible exact ih0 _ _)
   | (with_reducible exact LeO.refl _)
   | (with_reducible exact LeO.none _)
   | (with_reducible refine LeO.ite ?_ ?_)
   | (with_reducible refine LeO.bind ?_ (fun _ => ?_))
   | exact ih0 _ _
   | exact LeO.none _
   | refine LeO.ite ?_ ?_
   | refine LeO.bind ?_ (fun _ => ?_)
theorem qt.mono : ∀ a0 k, LeO (qt.f k a0) (qt.f (k + 1) a0) := by
 intro a0 k
 have ih0 := qt.mono_l k
 unfold qt.f
 repeat' first
   | (with_reducible exact ih0 _ _)
   | (with_reducible exact LeO.refl _)
   | (with_reducible exact LeO.none _)
   | (with_reducible refine LeO.ite ?_ ?_)
   | (with_reducible refine LeO.bind ?_ (fun _ => ?_))
   | exact ih0 _ _
   | exact LeO.none _
   | refine LeO.ite ?_ ?_
   | refine LeO.bind ?_ (fun _ => ?_)
set_option maxHeartbeats 8000000 in
set_option maxRecDepth 100000 in
theorem qt.calls (k : Nat) (a0 : Int) (r : ByteArray) (w : World) (h : qt.f k a0 = some r) :
  Calls Try.prog 37 #[.int .u64 a0] w fun e w' => e = .returned (.string r) ∧ Below w.heap.size w w' := by
 have HB := Aside0.mk (Below.refl w.heap.size w)
 have H : (qt.l0 k a0 (([] : List Int))) = some r := h
 clear h
 obtain ⟨y209, hy209⟩ : ∃ y_ : List Int, y_ = (([] : List Int)) := ⟨_, rfl⟩
 replace H : (qt.l0 k a0 y209) = some r := by first | (rw [hy209]; with_reducible exact H) | (have H2_ := (Option.bind_some _ _).symm.trans H; rw [hy209]; with_reducible exact H2_) | (have H2_ := (Option.bind_some _ _).symm.trans H; with_reducible exact H2_) | with_reducible exact H | (rw [hy209]; exact H) | exact H
 have Ny209 := Aside0.mk hy209
 clear hy209
 have H' := Aside0.mk H
 clear H
 go_enter Try.func37, Try.ntmps37
 go_wp2_with (first | ((with_reducible refine gate_dst (N := 4) rfl ?_); refine Kd.R_lit (Kd.int .u8) _ 5 ?hg (N := 4) ?hd (xs := ([] : List Int)) (inner := []) (ok := fun _ => True) (okp := fun _ => True) ?hr ?hp (fun _ hk => hk) trivial (Below.refl _ _) (Nat.le_refl _) r17_ ?_; (case hd => rfl); (case hg => rfl); (case hr => first | (go_simp; done) | (go_simp; rfl)); (case hp => exact (Reps.none _ _)); intro v210 w2 ho3 hb hg_ hnew_; clear hg_ hnew_; (first | rw [← Ny209.out] at ho3 | (simp only [Int.reduceToNat] at ho3; rw [← Ny209.out] at ho3)); have HO211 := Aside0.mk (Kd.R_lower ho3 (below_size hB_)); replace HB := Aside0.mk (below_step hB_ hb); clear hb ho3))
 go_loopg [0, 3] k (fun kq v0 v3 w' => ∃ (x0_1 : Int) (x3_1 : List Int), v0 = .int .u64 x0_1 ∧ Aside0 (qt.l0 kq x0_1 x3_1 = some r) ∧ Aside0 (kq ≤ k) ∧ Aside0 (Kd.R (Kd.int .u8) 5 w' w.heap.size (fun _ => True) v3 x3_1) ∧ Aside0 (Below w.heap.size w w'))
 case atStart => exact ⟨(a0), (y209), rs_, H', ⟨Nat.le_refl _⟩, ⟨by (with_reducible repeat (first | apply Kd.R_alloc | apply Kd.R_drewN | apply Kd.R_drew)); exact HO211.out⟩, ⟨hB_⟩⟩
 case round =>
  clear H'
  obtain ⟨x0_1, x3_1, rfl, HA, HK1, HO_3, HB⟩ := hrel
  cases gk with
  | zero => exact absurd HA.out (by simp [qt.l0])
  | succ k1 =>
   have H := HA.out
   clear HA
   simp only [qt.l0] at H
   by_cases c4 : x0_1 > 127
   rotate_left
   ·rw [if_neg c4] at H
    have c4b0 : decide (127 < x0_1) = false := decide_eq_false c4
    clear c4
    by_cases c7 : x3_1.length < 140737488355328
    rotate_left
    ·rw [if_neg c7] at H
     exact absurd H r17_
    rw [if_pos c7] at H
    have LMc7 := Aside0.mk c7
    clear c7
    obtain ⟨y215, hy215⟩ : ∃ y_ : List Int, y_ = (x3_1 ++ [(x0_1) % 256]) := ⟨_, rfl⟩
    replace H : (some (strOfNums y215)) = some r := by first | (rw [hy215]; with_reducible exact H) | (have H2_ := (Option.bind_some _ _).symm.trans H; rw [hy215]; with_reducible exact H2_) | (have H2_ := (Option.bind_some _ _).symm.trans H; with_reducible exact H2_) | with_reducible exact H | (rw [hy215]; exact H) | exact H
    have Ny215 := Aside0.mk hy215
    clear hy215
    obtain rfl := Option.some.inj H
    go_wp2_with (first | ((with_reducible refine gate_builtin (b := .append) (xs := #[.tmp 16, .tmp 19]) rfl ?_); at_builtin; refine Kd.R_append (Kd.int .u8) (w0 := w) w.heap.size rfl (.tmp 16) (.tmp 19) 54 5 (.int .u8 0) 1 rfl Try.underlying54 info5 rfl r24_ r18_ u3 x3_1 ((x0_1) % 256) [.int .u8 ((x0_1) % 256)] (fun _ => True) (fun _ => False) rfl rfl ?aP (fun _ hk => hk.elim) ?aF ?aO ?aB ?aS ?aL ?_; (case aP => exact rfl); (case aB => exact hB_); (case aF => exact (fun _ _ => trivial)); (case aO => exact r14_); (case aS => exact (below_size hB_)); (case aL => have := LMc7.out; omega); intro v216 w8 ho hb hg hat; rw [← Ny215.out] at ho; replace HB := Aside0.mk (hb); have HO217 := Aside0.mk (ho); clear HO_3; clear ho hb hg hat; have hcv9 := own_string (P := Try.prog) Try.underlying54 Try.underlying5 Try.underlying9 (Kd.own_of_R (HO217.out))))
    go_ret
    exact ⟨rf_, hB_⟩
   rw [if_pos c4] at H
   have c4b0 : decide (127 < x0_1) = true := decide_eq_true c4
   clear c4
   by_cases c5 : x3_1.length < 140737488355328
   rotate_left
   ·rw [if_neg c5] at H
    exact absurd H r17_
   rw [if_pos c5] at H
   have LMc5 := Aside0.mk c5
   clear c5
   obtain ⟨y212, hy212⟩ : ∃ y_ : List Int, y_ = (x3_1 ++ [(IntKind.u64.wrap ((Int.tmod x0_1 128) + 128)) % 256]) := ⟨_, rfl⟩
   replace H : (qt.l0 k1 (IntKind.u64.wrap (Int.tdiv x0_1 128)) y212) = some r := by first | (rw [hy212]; with_reducible exact H) | (have H2_ := (Option.bind_some _ _).symm.trans H; rw [hy212]; with_reducible exact H2_) | (have H2_ := (Option.bind_some _ _).symm.trans H; with_reducible exact H2_) | with_reducible exact H | (rw [hy212]; exact H) | exact H
   have Ny212 := Aside0.mk hy212
   clear hy212
   have H' := Aside0.mk H
   clear H
   go_wp2_with (first | ((with_reducible refine gate_builtin (b := .append) (xs := #[.tmp 7, .tmp 12]) rfl ?_); at_builtin; refine Kd.R_append (Kd.int .u8) (w0 := w) w.heap.size rfl (.tmp 7) (.tmp 12) 54 5 (.int .u8 0) 1 rfl Try.underlying54 info5 rfl r24_ r18_ u3 x3_1 ((IntKind.u64.wrap ((Int.tmod x0_1 128) + 128)) % 256) [.int .u8 ((IntKind.u64.wrap ((Int.tmod x0_1 128) + 128)) % 256)] (fun _ => True) (fun _ => False) rfl rfl ?aP (fun _ hk => hk.elim) ?aF ?aO ?aB ?aS ?aL ?_; (case aP => exact rfl); (case aB => exact hB_); (case aF => exact (fun _ _ => trivial)); (case aO => exact r14_); (case aS => exact (below_size hB_)); (case aL => have := LMc5.out; omega); intro v213 w6 ho hb hg hat; rw [← Ny212.out] at ho; replace HB := Aside0.mk (hb); have HO214 := Aside0.mk (ho); clear HO_3; clear ho hb hg hat))
   go_roundg k1
   case measure => have := HK1.out; omega
   case rel => exact ⟨(IntKind.u64.wrap (Int.tdiv x0_1 128)), (y212), rs_, hH_, ⟨by have := HK1.out; omega⟩, ⟨by (with_reducible repeat (first | apply Kd.R_alloc | apply Kd.R_drewN | apply Kd.R_drew)); exact HO214.out⟩, ⟨hB_⟩⟩

/-! ### qT: function 36 -/
def qT.f (k : Nat) (a0 : ByteArray) : Option (ByteArray) := (qt.f k (IntKind.u64.wrap ((a0.size : Int)))).bind fun t218 => (if t218.size + a0.size ≤ 9223372036854775807 then (some (t218 ++ a0)) else (none))
theorem qT.mono : ∀ a0 k, LeO (qT.f k a0) (qT.f (k + 1) a0) := by
 intro a0 k
 unfold qT.f
 repeat' first
   | (with_reducible exact LeO.refl _)
   | (with_reducible exact LeO.none _)
   | (with_reducible refine LeO.ite ?_ ?_)
   | (with_reducible refine LeO.bind ?_ (fun _ => ?_))
   | exact qt.mono _ _
   | exact LeO.none _
   | refine LeO.ite ?_ ?_
   | refine LeO.bind ?_ (fun _ => ?_)
set_option maxHeartbeats 8000000 in
set_option maxRecDepth 100000 in
theorem qT.calls (k : Nat) (a0 : ByteArray) (r : ByteArray) (w : World) (h : qT.f k a0 = some r) :
  Calls Try.prog 36 #[.string a0] w fun e w' => e = .returned (.string r) ∧ Below w.heap.size w w' := by
 have HB := Aside0.mk (Below.refl w.heap.size w)
 have H : ((qt.f k (IntKind.u64.wrap ((a0.size : Int)))).bind fun t218 => (if t218.size + a0.size ≤ 9223372036854775807 then (some (t218 ++ a0)) else (none))) = some r := h
 clear h
 replace H := bs_ H
 obtain ⟨t218, A20, H⟩ := H
 try dsimp only at H
 have A2 := Aside0.mk A20
 clear A20
 by_cases c3 : t218.size + a0.size ≤ 9223372036854775807
 rotate_left
 ·rw [if_neg c3] at H
  exact absurd H r17_
 rw [if_pos c3] at H
 have c3b0 := eq_true c3
 have c3b1 : decide (t218.size + a0.size ≤ 9223372036854775807) = true := decide_eq_true c3
 try have c3b2 : (9223372036854775807 < t218.size + a0.size) = False := eq_false (Nat.not_lt.2 c3)
 try (have c3b3 := c3b2; simp only [ByteArray.size_append] at c3b3)
 try (have c3b4 := c3b2; simp only [ByteArray.size_extract, ByteArray.size_append, Nat.sub_zero] at c3b4)
 obtain rfl := Option.some.inj H
 go_enter Try.func36, Try.ntmps36
 go_wp2_with (first | ((with_reducible refine gate_callee (f := 37) rfl ?_); refine goesL_ (some 6) rfl rfl Try.func37 r2_ rfl #[.int .u64 (IntKind.u64.wrap ((a0.size : Int)))] rfl hA_ ?_; (with_reducible refine (qt.calls k (IntKind.u64.wrap ((a0.size : Int))) t218 _ A2.out).mono ?_); rintro e w4 ⟨rfl, hb⟩; refine ⟨_, rfl, ?_⟩; replace HB := Aside0.mk (below_step hB_ hb); clear hb A2))
 go_ret
 exact ⟨rf_, hB_⟩

/-! ### qw: function 40 -/
def qw.l0 : Nat → Int → List Int → Int → Option (ByteArray)
 | 0, _, _, _ => none
 | k + 1, x0, x3, x4 => if x4 ≥ 0 then (if 0 ≤ x4 then (if x4 < (x3.length : Int) then (qw.l0 k (IntKind.u64.wrap (Int.tdiv x0 256)) (x3.set (x4 : Int).toNat ((Int.tmod x0 256) % 256)) (wrap64 (x4 - 1))) else (none)) else (none)) else (some (strOfNums x3))
def qw.f (k : Nat) (a0 : Int) : Option (ByteArray) := qw.l0 k a0 (([0, 0, 0, 0, 0, 0, 0, 0] : List Int)) 7
theorem qw.mono_l : ∀ k, (∀ y0 y1 y2, LeO (qw.l0 k y0 y1 y2) (qw.l0 (k + 1) y0 y1 y2))
 | 0 => fun _ _ _ r h => by simp [qw.l0] at h
 | k + 1 => by
  have ih0 := qw.mono_l k
  ·intro y0 y1 y2
   unfold qw.l0
   repeat' first
   | (with_reducible exact ih0 _ _ _)
   | (with_reducible exact LeO.refl _)
   | (with_reducible exact LeO.none _)
   | (with_reducible refine LeO.ite ?_ ?_)
   | (with_reducible refine LeO.bind ?_ (fun _ => ?_))
   | exact ih0 _ _ _
   | exact LeO.none _
   | refine LeO.ite ?_ ?_
   | refine LeO.bind ?_ (fun _ => ?_)
theorem qw.mono : ∀ a0 k, LeO (qw.f k a0) (qw.f (k + 1) a0) := by
 intro a0 k
 have ih0 := qw.mono_l k
 unfold qw.f
 repeat' first
   | (with_reducible exact ih0 _ _ _)
   | (with_reducible exact LeO.refl _)
   | (with_reducible exact LeO.none _)
   | (with_reducible refine LeO.ite ?_ ?_)
   | (with_reducible refine LeO.bind ?_ (fun _ => ?_))
   | exact ih0 _ _ _
   | exact LeO.none _
   | refine LeO.ite ?_ ?_
   | refine LeO.bind ?_ (fun _ => ?_)
set_option maxHeartbeats 8000000 in
set_option maxRecDepth 100000 in
theorem qw.calls (k : Nat) (a0 : Int) (r : ByteArray) (w : World) (h : qw.f k a0 = some r) :
  Calls Try.prog 40 #[.int .u64 a0] w fun e w' => e = .returned (.string r) ∧ Below w.heap.size w w' := by
 have HB := Aside0.mk (Below.refl w.heap.size w)
 have H : (qw.l0 k a0 (([0, 0, 0, 0, 0, 0, 0, 0] : List Int)) 7) = some r := h
 clear h
 obtain ⟨y219, hy219⟩ : ∃ y_ : List Int, y_ = (([0, 0, 0, 0, 0, 0, 0, 0] : List Int)) := ⟨_, rfl⟩
 replace H : (qw.l0 k a0 y219 7) = some r := by first | (rw [hy219]; with_reducible exact H) | (have H2_ := (Option.bind_some _ _).symm.trans H; rw [hy219]; with_reducible exact H2_) | (have H2_ := (Option.bind_some _ _).symm.trans H; with_reducible exact H2_) | with_reducible exact H | (rw [hy219]; exact H) | exact H
 have Ny219 := Aside0.mk hy219
 clear hy219
 have H' := Aside0.mk H
 clear H
 go_enter Try.func40, Try.ntmps40
 go_wp2_with (first | ((with_reducible refine gate_dst (N := 5) rfl ?_); refine Kd.R_lit (Kd.int .u8) _ 5 ?hg (N := 5) ?hd (xs := ([0, 0, 0, 0, 0, 0, 0, 0] : List Int)) (inner := [.int .u8 0, .int .u8 0, .int .u8 0, .int .u8 0, .int .u8 0, .int .u8 0, .int .u8 0, .int .u8 0]) (ok := fun _ => True) (okp := fun _ => True) ?hr ?hp (fun _ hk => hk) trivial (Below.refl _ _) (Nat.le_refl _) r17_ ?_; (case hd => rfl); (case hg => rfl); (case hr => first | (go_simp; done) | (go_simp; rfl)); (case hp => exact (Reps.one (show Kd.M (Kd.int .u8) _ _ _ 0 [.int .u8 0] from rfl) (Reps.one (show Kd.M (Kd.int .u8) _ _ _ 0 [.int .u8 0] from rfl) (Reps.one (show Kd.M (Kd.int .u8) _ _ _ 0 [.int .u8 0] from rfl) (Reps.one (show Kd.M (Kd.int .u8) _ _ _ 0 [.int .u8 0] from rfl) (Reps.one (show Kd.M (Kd.int .u8) _ _ _ 0 [.int .u8 0] from rfl) (Reps.one (show Kd.M (Kd.int .u8) _ _ _ 0 [.int .u8 0] from rfl) (Reps.one (show Kd.M (Kd.int .u8) _ _ _ 0 [.int .u8 0] from rfl) (Reps.one (show Kd.M (Kd.int .u8) _ _ _ 0 [.int .u8 0] from rfl) (Reps.none _ _)))))))))); intro v220 w2 ho3 hb hg_ hnew_; clear hg_ hnew_; (first | rw [← Ny219.out] at ho3 | (simp only [Int.reduceToNat] at ho3; rw [← Ny219.out] at ho3)); have HO221 := Aside0.mk (Kd.R_lower ho3 (below_size hB_)); replace HB := Aside0.mk (below_step hB_ hb); clear hb ho3))
 go_loopg [0, 4] k (fun kq v0 v4 w' => ∃ (x0_1 : Int) (x3_1 : List Int) (x4_1 : Int), v0 = .int .u64 x0_1 ∧ v4 = .int .i64 x4_1 ∧ Aside0 (qw.l0 kq x0_1 x3_1 x4_1 = some r) ∧ Aside0 (kq ≤ k) ∧ Aside0 (Kd.R (Kd.int .u8) 5 w' w.heap.size (fun _ => True) v220 x3_1) ∧ Aside0 (Below w.heap.size w w'))
 case atStart => exact ⟨(a0), (y219), (7), rs_, rs_, H', ⟨Nat.le_refl _⟩, ⟨by (with_reducible repeat (first | apply Kd.R_alloc | apply Kd.R_drewN | apply Kd.R_drew)); exact HO221.out⟩, ⟨hB_⟩⟩
 case round =>
  clear H'
  obtain ⟨x0_1, x3_1, x4_1, rfl, rfl, HA, HK1, HO_3, HB⟩ := hrel
  cases gk with
  | zero => exact absurd HA.out (by simp [qw.l0])
  | succ k1 =>
   have H := HA.out
   clear HA
   simp only [qw.l0] at H
   by_cases c4 : x4_1 ≥ 0
   rotate_left
   ·rw [if_neg c4] at H
    have c4b0 : decide (0 ≤ x4_1) = false := decide_eq_false c4
    clear c4
    obtain rfl := Option.some.inj H
    have hcv10 := own_string (P := Try.prog) Try.underlying54 Try.underlying5 Try.underlying9 (Kd.own_of_R (HO_3.out))
    go_wp2
    go_ret
    exact ⟨rf_, hB_⟩
   rw [if_pos c4] at H
   have c4b0 : decide (0 ≤ x4_1) = true := decide_eq_true c4
   clear c4
   by_cases c5 : 0 ≤ x4_1
   rotate_left
   ·rw [if_neg c5] at H
    exact absurd H r17_
   rw [if_pos c5] at H
   have c5b0 := decide_eq_true c5
   clear c5
   by_cases c6 : x4_1 < (x3_1.length : Int)
   rotate_left
   ·rw [if_neg c6] at H
    exact absurd H r17_
   rw [if_pos c6] at H
   have c6b0 := decide_eq_true c6
   clear c6
   obtain ⟨y222, hy222⟩ : ∃ y_ : List Int, y_ = (x3_1.set (x4_1 : Int).toNat ((Int.tmod x0_1 256) % 256)) := ⟨_, rfl⟩
   replace H : (qw.l0 k1 (IntKind.u64.wrap (Int.tdiv x0_1 256)) y222 (wrap64 (x4_1 - 1))) = some r := by first | (rw [hy222]; with_reducible exact H) | (have H2_ := (Option.bind_some _ _).symm.trans H; rw [hy222]; with_reducible exact H2_) | (have H2_ := (Option.bind_some _ _).symm.trans H; with_reducible exact H2_) | with_reducible exact H | (rw [hy222]; exact H) | exact H
   have Ny222 := Aside0.mk hy222
   clear hy222
   have H' := Aside0.mk H
   clear H
   have p7 : 0 ≤ (x4_1 : Int) := of_decide_eq_true as_
   have q7 : (x4_1 : Int) < ((x3_1.length : Int) : Int) := of_decide_eq_true as_
   obtain ⟨go7, co7, eo7, gb7, gl7, cl7, HG7⟩ := Kd.R_form HO_3.out r18_
   (first | cases eo7 | (injection eo7 with ea_ en_ ec_; (first | subst ea_ | (injection ea_ with ea_; subst ea_)); subst ec_; clear en_))
   have GB7 := Aside0.mk gb7
   have GG7 := Aside0.mk HG7
   clear gb7 gl7 HG7
   obtain ⟨hx7_0, hf7_0⟩ := Kd.R_celln 0 HO_3.out (x4_1 : Int) p7 q7
   replace p7 := eq_true p7
   replace q7 := eq_true q7
   have HP8 := Kd.R_putg HO_3.out (x4_1 : Int) ((Int.tmod x0_1 256) % 256)
   go_wp2_with (first | ((with_reducible refine gate_store (t := 5) (p := 15) rfl ?_); refine store_event (t := 5) (p := 15) (v := ?vo_w9) (w1 := (wr.setCell ⟨go7, (x4_1 : Int).toNat, none⟩ (.int .u8 ((Int.tmod x0_1 256) % 256)))) ?hg ?ho ?hn ?hr ?_; (case ho => rfl); (case hg => rfl); (case hn => rfl); (case hr => first | (go_simp; done) | (go_simp; rfl)); intro w9 hw; have hg : wr.grownBy w9 (some go7) := (by rw [hw]; exact HP8.2); have hp_ : Kd.R (Kd.int .u8) 5 w9 w.heap.size (fun _ => True) (.slice (some ⟨go7, 0, none⟩) x3_1.length co7) y222 := (by rw [hw, Ny222.out]; exact HP8.1); clear HP8; replace HO_3 := Aside0.mk (hp_); replace HB := Aside0.mk ((by rw [hw]; exact below_set (HB.out) GB7.out : Below w.heap.size w w9)); clear hg hw hp_))
   go_roundg k1
   case measure => have := HK1.out; omega
   case rel => exact ⟨(IntKind.u64.wrap (Int.tdiv x0_1 256)), (y222), (wrap64 (x4_1 - 1)), rs_, rs_, hH_, ⟨by have := HK1.out; omega⟩, ⟨r14_⟩, ⟨hB_⟩⟩

/-! ### qq1: function 61 -/
def qq1.f (a0_0 : ByteArray) (a0_1 : Int) (a0_2 : Bool) (a0_3 : ByteArray) : Option (Bool) := if (a0_0.size : Int) ≥ 1 then (if (a0_0.size : Int) ≤ 100 then (if (a0_3.size : Int) ≤ 100 then (if a0_2 = true then (if (a0_3.size : Int) = 0 then (if a0_1 ≥ 1 then (some (decide (a0_1 ≤ 1099511627776))) else (some false)) else (some false)) else (if a0_1 ≥ 1 then (some (decide (a0_1 ≤ 1099511627776))) else (some false))) else (some false)) else (some false)) else (some false)
set_option maxHeartbeats 8000000 in
set_option maxRecDepth 100000 in
theorem qq1.calls (a0_0 : ByteArray) (a0_1 : Int) (a0_2 : Bool) (a0_3 : ByteArray) (r : Bool) (w : World) (h : qq1.f a0_0 a0_1 a0_2 a0_3 = some r) :
  Calls Try.prog 61 #[.agg #[.string a0_0, .int .u64 a0_1, .bool a0_2, .string a0_3]] w fun e w' => e = .returned (.bool r) ∧ Below w.heap.size w w' := by
 have hu37 := Try.underlying37
 have HB := Aside0.mk (Below.refl w.heap.size w)
 have H : (if (a0_0.size : Int) ≥ 1 then (if (a0_0.size : Int) ≤ 100 then (if (a0_3.size : Int) ≤ 100 then (if a0_2 = true then (if (a0_3.size : Int) = 0 then (if a0_1 ≥ 1 then (some (decide (a0_1 ≤ 1099511627776))) else (some false)) else (some false)) else (if a0_1 ≥ 1 then (some (decide (a0_1 ≤ 1099511627776))) else (some false))) else (some false)) else (some false)) else (some false)) = some r := h
 clear h
 by_cases c2 : (a0_0.size : Int) ≥ 1
 rotate_left
 ·rw [if_neg c2] at H
  have c2b0 : decide (1 ≤ (a0_0.size : Int)) = false := decide_eq_false c2
  have c2b1 : decide (1 ≤ a0_0.size) = false := decide_eq_false r18_
  clear c2
  obtain rfl := Option.some.inj H
  go_enter Try.func61, Try.ntmps61
  go_wp2_with (first | ((with_reducible refine gate_dst (N := 1) rfl ?_); (try (refine gate_guard r37_ ?_; dsimp only)); refine box_event ?hg (N := 1) ?hd (cs := #[.string a0_0, .int .u64 a0_1, .bool a0_2, .string a0_3]) (t := 37) ?hr ?_; (case hd => rfl); (case hg => rfl); (case hr => first | (go_simp; done) | (go_simp; rfl)); intro gb223 hg w23 hbox hb; have BK223 := Aside0.mk (hbox); have GW223 := Aside0.mk ((by rw [hg]; exact (below_size hB_) : w.heap.size ≤ gb223)); have GE223 := Aside0.mk ((by rw [hg]; exact (below_size hB_) : w.heap.size ≤ gb223)); replace HB := Aside0.mk (below_step hB_ hb); clear hb hbox hg; have hcz24_0 : w23.cell? ⟨gb223, 0, none⟩ = some (.string a0_0) := (blk_cell BK223.out 0).trans rfl; have hcz24_1 : w23.cell? ⟨gb223, 1, none⟩ = some (.int .u64 a0_1) := (blk_cell BK223.out 1).trans rfl; have hcz24_2 : w23.cell? ⟨gb223, 2, none⟩ = some (.bool a0_2) := (blk_cell BK223.out 2).trans rfl; have hcz24_3 : w23.cell? ⟨gb223, 3, none⟩ = some (.string a0_3) := (blk_cell BK223.out 3).trans rfl; have hfz24_0 := blk_frozen BK223.out 0; have hfz24_1 := blk_frozen BK223.out 1; have hfz24_2 := blk_frozen BK223.out 2; have hfz24_3 := blk_frozen BK223.out 3))
  go_ret
  exact ⟨rf_, r21_⟩
 rw [if_pos c2] at H
 have c2b0 : decide (1 ≤ (a0_0.size : Int)) = true := decide_eq_true c2
 have c2b1 : decide (1 ≤ a0_0.size) = true := decide_eq_true r18_
 clear c2
 by_cases c3 : (a0_0.size : Int) ≤ 100
 rotate_left
 ·rw [if_neg c3] at H
  have c3b0 := decide_eq_false c3
  have c3b1 : decide (a0_0.size ≤ 100) = false := decide_eq_false r18_
  clear c3
  obtain rfl := Option.some.inj H
  go_enter Try.func61, Try.ntmps61
  go_wp2_with (first | ((with_reducible refine gate_dst (N := 1) rfl ?_); (try (refine gate_guard r37_ ?_; dsimp only)); refine box_event ?hg (N := 1) ?hd (cs := #[.string a0_0, .int .u64 a0_1, .bool a0_2, .string a0_3]) (t := 37) ?hr ?_; (case hd => rfl); (case hg => rfl); (case hr => first | (go_simp; done) | (go_simp; rfl)); intro gb223 hg w21 hbox hb; have BK223 := Aside0.mk (hbox); have GW223 := Aside0.mk ((by rw [hg]; exact (below_size hB_) : w.heap.size ≤ gb223)); have GE223 := Aside0.mk ((by rw [hg]; exact (below_size hB_) : w.heap.size ≤ gb223)); replace HB := Aside0.mk (below_step hB_ hb); clear hb hbox hg; have hcz22_0 : w21.cell? ⟨gb223, 0, none⟩ = some (.string a0_0) := (blk_cell BK223.out 0).trans rfl; have hcz22_1 : w21.cell? ⟨gb223, 1, none⟩ = some (.int .u64 a0_1) := (blk_cell BK223.out 1).trans rfl; have hcz22_2 : w21.cell? ⟨gb223, 2, none⟩ = some (.bool a0_2) := (blk_cell BK223.out 2).trans rfl; have hcz22_3 : w21.cell? ⟨gb223, 3, none⟩ = some (.string a0_3) := (blk_cell BK223.out 3).trans rfl; have hfz22_0 := blk_frozen BK223.out 0; have hfz22_1 := blk_frozen BK223.out 1; have hfz22_2 := blk_frozen BK223.out 2; have hfz22_3 := blk_frozen BK223.out 3))
  go_ret
  exact ⟨rf_, r21_⟩
 rw [if_pos c3] at H
 have c3b0 := decide_eq_true c3
 have c3b1 : decide (a0_0.size ≤ 100) = true := decide_eq_true r18_
 clear c3
 by_cases c4 : (a0_3.size : Int) ≤ 100
 rotate_left
 ·rw [if_neg c4] at H
  have c4b0 := decide_eq_false c4
  have c4b1 : decide (a0_3.size ≤ 100) = false := decide_eq_false r18_
  clear c4
  obtain rfl := Option.some.inj H
  go_enter Try.func61, Try.ntmps61
  go_wp2_with (first | ((with_reducible refine gate_dst (N := 1) rfl ?_); (try (refine gate_guard r37_ ?_; dsimp only)); refine box_event ?hg (N := 1) ?hd (cs := #[.string a0_0, .int .u64 a0_1, .bool a0_2, .string a0_3]) (t := 37) ?hr ?_; (case hd => rfl); (case hg => rfl); (case hr => first | (go_simp; done) | (go_simp; rfl)); intro gb223 hg w19 hbox hb; have BK223 := Aside0.mk (hbox); have GW223 := Aside0.mk ((by rw [hg]; exact (below_size hB_) : w.heap.size ≤ gb223)); have GE223 := Aside0.mk ((by rw [hg]; exact (below_size hB_) : w.heap.size ≤ gb223)); replace HB := Aside0.mk (below_step hB_ hb); clear hb hbox hg; have hcz20_0 : w19.cell? ⟨gb223, 0, none⟩ = some (.string a0_0) := (blk_cell BK223.out 0).trans rfl; have hcz20_1 : w19.cell? ⟨gb223, 1, none⟩ = some (.int .u64 a0_1) := (blk_cell BK223.out 1).trans rfl; have hcz20_2 : w19.cell? ⟨gb223, 2, none⟩ = some (.bool a0_2) := (blk_cell BK223.out 2).trans rfl; have hcz20_3 : w19.cell? ⟨gb223, 3, none⟩ = some (.string a0_3) := (blk_cell BK223.out 3).trans rfl; have hfz20_0 := blk_frozen BK223.out 0; have hfz20_1 := blk_frozen BK223.out 1; have hfz20_2 := blk_frozen BK223.out 2; have hfz20_3 := blk_frozen BK223.out 3))
  go_ret
  exact ⟨rf_, r21_⟩
 rw [if_pos c4] at H
 have c4b0 := decide_eq_true c4
 have c4b1 : decide (a0_3.size ≤ 100) = true := decide_eq_true r18_
 clear c4
 by_cases c5 : a0_2 = true
 rotate_left
 ·replace c5 := Bool.eq_false_iff.mpr c5
  subst c5
  rw [if_neg ff_] at H
  by_cases c14 : a0_1 ≥ 1
  ·rw [if_pos c14] at H
   have c14b0 : decide (1 ≤ a0_1) = true := decide_eq_true c14
   clear c14
   obtain rfl := Option.some.inj H
   go_enter Try.func61, Try.ntmps61
   go_wp2_with (first | ((with_reducible refine gate_dst (N := 1) rfl ?_); (try (refine gate_guard r37_ ?_; dsimp only)); refine box_event ?hg (N := 1) ?hd (cs := #[.string a0_0, .int .u64 a0_1, .bool false, .string a0_3]) (t := 37) ?hr ?_; (case hd => rfl); (case hg => rfl); (case hr => first | (go_simp; done) | (go_simp; rfl)); intro gb223 hg w15 hbox hb; have BK223 := Aside0.mk (hbox); have GW223 := Aside0.mk ((by rw [hg]; exact (below_size hB_) : w.heap.size ≤ gb223)); have GE223 := Aside0.mk ((by rw [hg]; exact (below_size hB_) : w.heap.size ≤ gb223)); replace HB := Aside0.mk (below_step hB_ hb); clear hb hbox hg; have hcz16_0 : w15.cell? ⟨gb223, 0, none⟩ = some (.string a0_0) := (blk_cell BK223.out 0).trans rfl; have hcz16_1 : w15.cell? ⟨gb223, 1, none⟩ = some (.int .u64 a0_1) := (blk_cell BK223.out 1).trans rfl; have hcz16_2 : w15.cell? ⟨gb223, 2, none⟩ = some (.bool false) := (blk_cell BK223.out 2).trans rfl; have hcz16_3 : w15.cell? ⟨gb223, 3, none⟩ = some (.string a0_3) := (blk_cell BK223.out 3).trans rfl; have hfz16_0 := blk_frozen BK223.out 0; have hfz16_1 := blk_frozen BK223.out 1; have hfz16_2 := blk_frozen BK223.out 2; have hfz16_3 := blk_frozen BK223.out 3))
   go_ret
   exact ⟨rf_, r21_⟩
  rw [if_neg c14] at H
  have c14b0 : decide (1 ≤ a0_1) = false := decide_eq_false c14
  clear c14
  obtain rfl := Option.some.inj H
  go_enter Try.func61, Try.ntmps61
  go_wp2_with (first | ((with_reducible refine gate_dst (N := 1) rfl ?_); (try (refine gate_guard r37_ ?_; dsimp only)); refine box_event ?hg (N := 1) ?hd (cs := #[.string a0_0, .int .u64 a0_1, .bool false, .string a0_3]) (t := 37) ?hr ?_; (case hd => rfl); (case hg => rfl); (case hr => first | (go_simp; done) | (go_simp; rfl)); intro gb223 hg w17 hbox hb; have BK223 := Aside0.mk (hbox); have GW223 := Aside0.mk ((by rw [hg]; exact (below_size hB_) : w.heap.size ≤ gb223)); have GE223 := Aside0.mk ((by rw [hg]; exact (below_size hB_) : w.heap.size ≤ gb223)); replace HB := Aside0.mk (below_step hB_ hb); clear hb hbox hg; have hcz18_0 : w17.cell? ⟨gb223, 0, none⟩ = some (.string a0_0) := (blk_cell BK223.out 0).trans rfl; have hcz18_1 : w17.cell? ⟨gb223, 1, none⟩ = some (.int .u64 a0_1) := (blk_cell BK223.out 1).trans rfl; have hcz18_2 : w17.cell? ⟨gb223, 2, none⟩ = some (.bool false) := (blk_cell BK223.out 2).trans rfl; have hcz18_3 : w17.cell? ⟨gb223, 3, none⟩ = some (.string a0_3) := (blk_cell BK223.out 3).trans rfl; have hfz18_0 := blk_frozen BK223.out 0; have hfz18_1 := blk_frozen BK223.out 1; have hfz18_2 := blk_frozen BK223.out 2; have hfz18_3 := blk_frozen BK223.out 3))
  go_ret
  exact ⟨rf_, r21_⟩
 subst c5
 rw [if_pos rfl] at H
 by_cases c6 : (a0_3.size : Int) = 0
 rotate_left
 ·rw [if_neg c6] at H
  have c6b0 := beq_eq_false_iff_ne.mpr c6
  have c6b1 := bne_iff_ne.mpr c6
  obtain rfl := Option.some.inj H
  go_enter Try.func61, Try.ntmps61
  go_wp2_with (first | ((with_reducible refine gate_dst (N := 1) rfl ?_); (try (refine gate_guard r37_ ?_; dsimp only)); refine box_event ?hg (N := 1) ?hd (cs := #[.string a0_0, .int .u64 a0_1, .bool true, .string a0_3]) (t := 37) ?hr ?_; (case hd => rfl); (case hg => rfl); (case hr => first | (go_simp; done) | (go_simp; rfl)); intro gb223 hg w12 hbox hb; have BK223 := Aside0.mk (hbox); have GW223 := Aside0.mk ((by rw [hg]; exact (below_size hB_) : w.heap.size ≤ gb223)); have GE223 := Aside0.mk ((by rw [hg]; exact (below_size hB_) : w.heap.size ≤ gb223)); replace HB := Aside0.mk (below_step hB_ hb); clear hb hbox hg; have hcz13_0 : w12.cell? ⟨gb223, 0, none⟩ = some (.string a0_0) := (blk_cell BK223.out 0).trans rfl; have hcz13_1 : w12.cell? ⟨gb223, 1, none⟩ = some (.int .u64 a0_1) := (blk_cell BK223.out 1).trans rfl; have hcz13_2 : w12.cell? ⟨gb223, 2, none⟩ = some (.bool true) := (blk_cell BK223.out 2).trans rfl; have hcz13_3 : w12.cell? ⟨gb223, 3, none⟩ = some (.string a0_3) := (blk_cell BK223.out 3).trans rfl; have hfz13_0 := blk_frozen BK223.out 0; have hfz13_1 := blk_frozen BK223.out 1; have hfz13_2 := blk_frozen BK223.out 2; have hfz13_3 := blk_frozen BK223.out 3))
  go_ret
  exact ⟨rf_, r21_⟩
 rw [if_pos c6] at H
 have c6b0 := beq_iff_eq.mpr c6
 have c6b1 := bne_eq_false_iff_eq.mpr c6
 clear c6
 by_cases c7 : a0_1 ≥ 1
 ·rw [if_pos c7] at H
  have c7b0 : decide (1 ≤ a0_1) = true := decide_eq_true c7
  clear c7
  obtain rfl := Option.some.inj H
  go_enter Try.func61, Try.ntmps61
  go_wp2_with (first | ((with_reducible refine gate_dst (N := 1) rfl ?_); (try (refine gate_guard r37_ ?_; dsimp only)); refine box_event ?hg (N := 1) ?hd (cs := #[.string a0_0, .int .u64 a0_1, .bool true, .string a0_3]) (t := 37) ?hr ?_; (case hd => rfl); (case hg => rfl); (case hr => first | (go_simp; done) | (go_simp; rfl)); intro gb223 hg w8 hbox hb; have BK223 := Aside0.mk (hbox); have GW223 := Aside0.mk ((by rw [hg]; exact (below_size hB_) : w.heap.size ≤ gb223)); have GE223 := Aside0.mk ((by rw [hg]; exact (below_size hB_) : w.heap.size ≤ gb223)); replace HB := Aside0.mk (below_step hB_ hb); clear hb hbox hg; have hcz9_0 : w8.cell? ⟨gb223, 0, none⟩ = some (.string a0_0) := (blk_cell BK223.out 0).trans rfl; have hcz9_1 : w8.cell? ⟨gb223, 1, none⟩ = some (.int .u64 a0_1) := (blk_cell BK223.out 1).trans rfl; have hcz9_2 : w8.cell? ⟨gb223, 2, none⟩ = some (.bool true) := (blk_cell BK223.out 2).trans rfl; have hcz9_3 : w8.cell? ⟨gb223, 3, none⟩ = some (.string a0_3) := (blk_cell BK223.out 3).trans rfl; have hfz9_0 := blk_frozen BK223.out 0; have hfz9_1 := blk_frozen BK223.out 1; have hfz9_2 := blk_frozen BK223.out 2; have hfz9_3 := blk_frozen BK223.out 3))
  go_ret
  exact ⟨rf_, r21_⟩
 rw [if_neg c7] at H
 have c7b0 : decide (1 ≤ a0_1) = false := decide_eq_false c7
 clear c7
 obtain rfl := Option.some.inj H
 go_enter Try.func61, Try.ntmps61
 go_wp2_with (first | ((with_reducible refine gate_dst (N := 1) rfl ?_); (try (refine gate_guard r37_ ?_; dsimp only)); refine box_event ?hg (N := 1) ?hd (cs := #[.string a0_0, .int .u64 a0_1, .bool true, .string a0_3]) (t := 37) ?hr ?_; (case hd => rfl); (case hg => rfl); (case hr => first | (go_simp; done) | (go_simp; rfl)); intro gb223 hg w10 hbox hb; have BK223 := Aside0.mk (hbox); have GW223 := Aside0.mk ((by rw [hg]; exact (below_size hB_) : w.heap.size ≤ gb223)); have GE223 := Aside0.mk ((by rw [hg]; exact (below_size hB_) : w.heap.size ≤ gb223)); replace HB := Aside0.mk (below_step hB_ hb); clear hb hbox hg; have hcz11_0 : w10.cell? ⟨gb223, 0, none⟩ = some (.string a0_0) := (blk_cell BK223.out 0).trans rfl; have hcz11_1 : w10.cell? ⟨gb223, 1, none⟩ = some (.int .u64 a0_1) := (blk_cell BK223.out 1).trans rfl; have hcz11_2 : w10.cell? ⟨gb223, 2, none⟩ = some (.bool true) := (blk_cell BK223.out 2).trans rfl; have hcz11_3 : w10.cell? ⟨gb223, 3, none⟩ = some (.string a0_3) := (blk_cell BK223.out 3).trans rfl; have hfz11_0 := blk_frozen BK223.out 0; have hfz11_1 := blk_frozen BK223.out 1; have hfz11_2 := blk_frozen BK223.out 2; have hfz11_3 := blk_frozen BK223.out 3))
 go_ret
 exact ⟨rf_, r21_⟩

/-! ### qD: function 62 -/
def qD.l0 : Nat → ByteArray → ByteArray → Int → Option (Int)
 | 0, _, _, _ => none
 | k + 1, x0, x1, x5 => if x5 < (x0.size : Int) then (if x5 < (x1.size : Int) then (if 0 ≤ x5 then (if (bt x0 x5) = (bt x1 x5) then (qD.l0 k x0 x1 (wrap64 (x5 + 1))) else (some x5)) else (none)) else (some x5)) else (some x5)
def qD.f (k : Nat) (a0 : ByteArray) (a1 : ByteArray) : Option (Int) := qD.l0 k a0 a1 0
theorem qD.mono_l : ∀ k, (∀ y0 y1 y2, LeO (qD.l0 k y0 y1 y2) (qD.l0 (k + 1) y0 y1 y2))
 | 0 => fun _ _ _ r h => by simp [qD.l0] at h
 | k + 1 => by
  have ih0 := qD.mono_l k
  ·intro y0 y1 y2
   unfold qD.l0
   repeat' first
   | (with_reducible exact ih0 _ _ _)
   | (with_reducible exact LeO.refl _)
   | (with_reducible exact LeO.none _)
   | (with_reducible refine LeO.ite ?_ ?_)
   | (with_reducible refine LeO.bind ?_ (fun _ => ?_))
   | exact ih0 _ _ _
   | exact LeO.none _
   | refine LeO.ite ?_ ?_
   | refine LeO.bind ?_ (fun _ => ?_)
theorem qD.mono : ∀ a0 a1 k, LeO (qD.f k a0 a1) (qD.f (k + 1) a0 a1) := by
 intro a0 a1 k
 have ih0 := qD.mono_l k
 unfold qD.f
 repeat' first
   | (with_reducible exact ih0 _ _ _)
   | (with_reducible exact LeO.refl _)
   | (with_reducible exact LeO.none _)
   | (with_reducible refine LeO.ite ?_ ?_)
   | (with_reducible refine LeO.bind ?_ (fun _ => ?_))
   | exact ih0 _ _ _
   | exact LeO.none _
   | refine LeO.ite ?_ ?_
   | refine LeO.bind ?_ (fun _ => ?_)
set_option maxHeartbeats 8000000 in
set_option maxRecDepth 100000 in
theorem qD.calls (k : Nat) (a0 : ByteArray) (a1 : ByteArray) (r : Int) (w : World) (h : qD.f k a0 a1 = some r) :
  Calls Try.prog 62 #[.string a0, .string a1] w fun e w' => e = .returned (.int .i64 r) ∧ Drawn0 w w' := by
 have H : (qD.l0 k a0 a1 0) = some r := h
 clear h
 have H' := Aside0.mk H
 clear H
 go_enter Try.func62, Try.ntmps62
 go_wp2
 repeat (go_quiet (fail); try go_wp2)
 go_loopg [5] k (fun kq v5 w' => ∃ (x5_1 : Int), v5 = .int .i64 x5_1 ∧ Aside0 (qD.l0 kq a0 a1 x5_1 = some r) ∧ Aside0 (kq ≤ k) ∧ Drawn0 w w')
 case atStart => exact ⟨(0), rs_, H', ⟨Nat.le_refl _⟩, dR_⟩
 case round =>
  clear H'
  obtain ⟨x5_1, rfl, HA, HK1, ⟨m1, rfl⟩⟩ := hrel
  cases gk with
  | zero => exact absurd HA.out (by simp [qD.l0])
  | succ k1 =>
   have H := HA.out
   clear HA
   simp only [qD.l0] at H
   by_cases c3 : x5_1 < (a0.size : Int)
   rotate_left
   ·rw [if_neg c3] at H
    have c3b0 := decide_eq_false c3
    clear c3
    obtain rfl := Option.some.inj H
    go_wp2
    repeat (go_quiet (fail); try go_wp2)
    go_ret
    exact ⟨rs_, dR_⟩
   rw [if_pos c3] at H
   have c3b0 := decide_eq_true c3
   clear c3
   by_cases c4 : x5_1 < (a1.size : Int)
   rotate_left
   ·rw [if_neg c4] at H
    have c4b0 := decide_eq_false c4
    clear c4
    obtain rfl := Option.some.inj H
    go_wp2
    repeat (go_quiet (fail); try go_wp2)
    go_ret
    exact ⟨rs_, dR_⟩
   rw [if_pos c4] at H
   have c4b0 := decide_eq_true c4
   clear c4
   by_cases c5 : 0 ≤ x5_1
   rotate_left
   ·rw [if_neg c5] at H
    exact absurd H r17_
   rw [if_pos c5] at H
   have c5b0 := decide_eq_true c5
   clear c5
   by_cases c8 : (bt a0 x5_1) = (bt a1 x5_1)
   rotate_left
   ·rw [if_neg c8] at H
    have c8b0 := beq_eq_false_iff_ne.mpr c8
    have c8b1 := bne_iff_ne.mpr c8
    obtain rfl := Option.some.inj H
    have p6 : 0 ≤ (x5_1 : Int) := of_decide_eq_true as_
    have q6 : x5_1 < (a0.size : Int) := of_decide_eq_true as_
    have hx6 := bt_at a0 x5_1
    replace p6 := eq_true p6
    replace q6 := eq_true q6
    have p7 : 0 ≤ (x5_1 : Int) := of_decide_eq_true as_
    have q7 : x5_1 < (a1.size : Int) := of_decide_eq_true as_
    have hx7 := bt_at a1 x5_1
    replace p7 := eq_true p7
    replace q7 := eq_true q7
    go_wp2
    repeat (go_quiet (fail); try go_wp2)
    go_ret
    exact ⟨rs_, dR_⟩
   rw [if_pos c8] at H
   have c8b0 := beq_iff_eq.mpr c8
   have c8b1 := bne_eq_false_iff_eq.mpr c8
   clear c8
   have H' := Aside0.mk H
   clear H
   have p6 : 0 ≤ (x5_1 : Int) := of_decide_eq_true as_
   have q6 : x5_1 < (a0.size : Int) := of_decide_eq_true as_
   have hx6 := bt_at a0 x5_1
   replace p6 := eq_true p6
   replace q6 := eq_true q6
   have p7 : 0 ≤ (x5_1 : Int) := of_decide_eq_true as_
   have q7 : x5_1 < (a1.size : Int) := of_decide_eq_true as_
   have hx7 := bt_at a1 x5_1
   replace p7 := eq_true p7
   replace q7 := eq_true q7
   go_wp2
   repeat (go_quiet (fail); try go_wp2)
   go_roundg k1
   case measure => have := HK1.out; omega
   case rel => exact ⟨(wrap64 (x5_1 + 1)), rs_, hH_, ⟨by have := HK1.out; omega⟩, dR_⟩

end Go.Proofs.Ytgdkikkjaofbfaa.P
