-- Printed by a program of this session's own (wip/tools/pprint.sh, over the kit's print, with given contracts): not typed by hand.
import Derived.Test.YtgdkikkjaofbfaaPx0
import Derived.Test.YtgdkikkjaofbfaaPx15
namespace Go.Proofs.Ytgdkikkjaofbfaa.P
open Go.RowKit Go.Proofs.YtgdkikkjaofbfaaW.PrintWords Go.Proofs.YtgdkikkjaofbfaaW.PrintLast Go.Proofs.YtgdkikkjaofbfaaW.PrintMore
attribute [local go_sem] max2_int min2_int max_two min_two max_three min_three max_four min_four   -- for this text's walks alone
set_option linter.unusedVariables false
set_option linter.unusedSimpArgs false
-- SQUEEZED4
-- SQUEEZED3

/-! ### qA: function 43 -/
def qA.l0 : Nat → ByteArray → Int → Int → Option (Int × Bool)
 | 0, _, _, _ => none
 | k + 1, x0, x4, x5 => if x5 < 8 then (if 0 ≤ x5 then (if x5 < (x0.size : Int) then (qA.l0 k x0 (IntKind.u64.wrap ((IntKind.u64.wrap (x4 * 256)) + (IntKind.u64.wrap (bt x0 x5)))) (wrap64 (x5 + 1))) else (none)) else (none)) else (some (x4, true))
def qA.f (k : Nat) (a0 : ByteArray) : Option (Int × Bool) := if (a0.size : Int) = 8 then (qA.l0 k a0 0 0) else (some (0, false))
theorem qA.mono_l : ∀ k, (∀ y0 y1 y2, LeO (qA.l0 k y0 y1 y2) (qA.l0 (k + 1) y0 y1 y2))
 | 0 => fun _ _ _ r h => by simp [qA.l0] at h
 | k + 1 => by
  have ih0 := qA.mono_l k
  ·intro y0 y1 y2
   unfold qA.l0
   repeat' first
   | (with_reducible exact ih0 _ _ _)
   | (with_reducible exact LeO.refl _)
   | (with_reducible exact LeO.none _)
   | (with_reducible refine LeO.ite ?_ ?_)
   | (with_reducible refine LeO.bind ?_ (fun _ => ?_))
   | exact ih0 _ _ _
   | exact LeO.none _
   | refine LeO.ite ?_ ?_
   | refine LeO.bind ?_ (fun _ => ?_)
theorem qA.mono : ∀ a0 k, LeO (qA.f k a0) (qA.f (k + 1) a0) := by
 intro a0 k
 have ih0 := qA.mono_l k
 unfold qA.f
 repeat' first
   | (with_reducible exact ih0 _ _ _)
   | (with_reducible exact LeO.refl _)
   | (with_reducible exact LeO.none _)
   | (with_reducible refine LeO.ite ?_ ?_)
   | (with_reducible refine LeO.bind ?_ (fun _ => ?_))
   | exact ih0 _ _ _
   | exact LeO.none _
   | refine LeO.ite ?_ ?_
   | refine LeO.bind ?_ (fun _ => ?_)
set_option maxHeartbeats 8000000 in
set_option maxRecDepth 100000 in
theorem qA.calls (k : Nat) (a0 : ByteArray) (r1 : Int) (r2 : Bool) (w : World) (h : qA.f k a0 = some (r1, r2)) :
  Calls Try.prog 43 #[.string a0] w fun e w' => e = .returned (.tuple #[.int .u64 r1, .bool r2]) ∧ Drawn0 w w' := by
 have H : (if (a0.size : Int) = 8 then (qA.l0 k a0 0 0) else (some (0, false))) = some (r1, r2) := h
 clear h
 by_cases c2 : (a0.size : Int) = 8
 rotate_left
 ·rw [if_neg c2] at H
  have c2b0 := beq_eq_false_iff_ne.mpr c2
  have c2b1 := bne_iff_ne.mpr c2
  simp only [Option.some.injEq, Prod.mk.injEq] at H
  obtain ⟨rfl, rfl⟩ := H
  go_enter Try.func43, Try.ntmps43
  go_wp2
  go_ret2
  exact ⟨rs_, dR_⟩
 rw [if_pos c2] at H
 have c2b0 := beq_iff_eq.mpr c2
 have c2b1 := bne_eq_false_iff_eq.mpr c2
 clear c2
 have H' := Aside0.mk H
 clear H
 go_enter Try.func43, Try.ntmps43
 go_wp2
 go_loopg [4, 5] k (fun kq v4 v5 w' => ∃ (x4_1 : Int) (x5_1 : Int), v4 = .int .u64 x4_1 ∧ v5 = .int .i64 x5_1 ∧ Aside0 (qA.l0 kq a0 x4_1 x5_1 = some (r1, r2)) ∧ Aside0 (kq ≤ k) ∧ Drawn0 w w')
 case atStart => exact ⟨(0), (0), rs_, rs_, H', ⟨Nat.le_refl _⟩, dR_⟩
 case round =>
  clear H'
  try clear c2
  try clear c2b0
  try clear c2b1
  obtain ⟨x4_1, x5_1, rfl, rfl, HA, HK1, ⟨m1, rfl⟩⟩ := hrel
  cases gk with
  | zero => exact absurd HA.out (by simp [qA.l0])
  | succ k1 =>
   have H := HA.out
   clear HA
   simp only [qA.l0] at H
   by_cases c3 : x5_1 < 8
   rotate_left
   ·rw [if_neg c3] at H
    have c3b0 := decide_eq_false c3
    clear c3
    simp only [Option.some.injEq, Prod.mk.injEq] at H
    obtain ⟨rfl, rfl⟩ := H
    go_wp2
    go_ret2
    exact ⟨rs_, dR_⟩
   rw [if_pos c3] at H
   have c3b0 := decide_eq_true c3
   clear c3
   by_cases c4 : 0 ≤ x5_1
   rotate_left
   ·rw [if_neg c4] at H
    exact absurd H r17_
   rw [if_pos c4] at H
   have c4b0 := decide_eq_true c4
   clear c4
   by_cases c5 : x5_1 < (a0.size : Int)
   rotate_left
   ·rw [if_neg c5] at H
    exact absurd H r17_
   rw [if_pos c5] at H
   have c5b0 := decide_eq_true c5
   clear c5
   have H' := Aside0.mk H
   clear H
   have p6 : 0 ≤ (x5_1 : Int) := of_decide_eq_true as_
   have q6 : x5_1 < (a0.size : Int) := of_decide_eq_true as_
   have hx6 := bt_at a0 x5_1
   replace p6 := eq_true p6
   replace q6 := eq_true q6
   go_wp2
   go_roundg k1
   case measure => have := HK1.out; omega
   case rel => exact ⟨(IntKind.u64.wrap ((IntKind.u64.wrap (x4_1 * 256)) + (IntKind.u64.wrap (bt a0 x5_1)))), (wrap64 (x5_1 + 1)), rs_, rs_, hH_, ⟨by have := HK1.out; omega⟩, dR_⟩

/-! ### qM: function 68 -/
def qM.f (k : Nat) (a0 : ByteArray) : Option (Int) := if (a0.size : Int) < 8 then (some 0) else (if 0 ≤ (wrap64 ((a0.size : Int) - 8)) then (if (wrap64 ((a0.size : Int) - 8)) ≤ (a0.size : Int) then ((qA.f k (a0.extract ((wrap64 ((a0.size : Int) - 8)) : Int).toNat a0.size)).bind fun bt295 => (if bt295.1 < 1 then (some 0) else (if bt295.1 > 32 then (some 0) else (some (wrap64 (bt295.1)))))) else (none)) else (none))
theorem qM.mono : ∀ a0 k, LeO (qM.f k a0) (qM.f (k + 1) a0) := by
 intro a0 k
 unfold qM.f
 repeat' first
   | (with_reducible exact LeO.refl _)
   | (with_reducible exact LeO.none _)
   | (with_reducible refine LeO.ite ?_ ?_)
   | (with_reducible refine LeO.bind ?_ (fun _ => ?_))
   | exact qA.mono _ _
   | exact LeO.none _
   | refine LeO.ite ?_ ?_
   | refine LeO.bind ?_ (fun _ => ?_)
set_option maxHeartbeats 8000000 in
set_option maxRecDepth 100000 in
theorem qM.calls (k : Nat) (a0 : ByteArray) (r : Int) (w : World) (h : qM.f k a0 = some r) :
  Calls Try.prog 68 #[.string a0] w fun e w' => e = .returned (.int .i64 r) ∧ Drawn0 w w' := by
 have H : (if (a0.size : Int) < 8 then (some 0) else (if 0 ≤ (wrap64 ((a0.size : Int) - 8)) then (if (wrap64 ((a0.size : Int) - 8)) ≤ (a0.size : Int) then ((qA.f k (a0.extract ((wrap64 ((a0.size : Int) - 8)) : Int).toNat a0.size)).bind fun bt295 => (if bt295.1 < 1 then (some 0) else (if bt295.1 > 32 then (some 0) else (some (wrap64 (bt295.1)))))) else (none)) else (none))) = some r := h
 clear h
 by_cases c2 : (a0.size : Int) < 8
 ·rw [if_pos c2] at H
  have c2b0 := decide_eq_true c2
  have c2b1 : decide (a0.size < 8) = true := decide_eq_true r18_
  clear c2
  obtain rfl := Option.some.inj H
  go_enter Try.func68, Try.ntmps68
  go_wp2
  go_ret
  exact ⟨rs_, dR_⟩
 rw [if_neg c2] at H
 have c2b0 := decide_eq_false c2
 have c2b1 : decide (a0.size < 8) = false := decide_eq_false r18_
 clear c2
 obtain ⟨ji3, hji3⟩ : ∃ j_ : Int, (wrap64 ((a0.size : Int) - 8)) = j_ := ⟨_, rfl⟩
 replace H : (if 0 ≤ (ji3) then (if (ji3) ≤ (a0.size : Int) then ((qA.f k (a0.extract ((ji3) : Int).toNat a0.size)).bind fun bt295 => (if bt295.1 < 1 then (some 0) else (if bt295.1 > 32 then (some 0) else (some (wrap64 (bt295.1)))))) else (none)) else (none)) = some r := by first | (rw [hji3] at H; exact H) | (simp only [hji3] at H ⊢; exact H)
 (try rw [hji3])
 have hji3w : (IntKind.i64.wrap ((a0.size : Int) - 8)) = ji3 := (i64_w _).trans hji3
 by_cases c4 : 0 ≤ (ji3)
 rotate_left
 ·rw [if_neg c4] at H
  exact absurd H r17_
 rw [if_pos c4] at H
 have c4b0 := eq_true c4
 have c4b1 : decide (0 ≤ (ji3)) = true := decide_eq_true c4
 clear c4
 by_cases c5 : (ji3) ≤ (a0.size : Int)
 rotate_left
 ·rw [if_neg c5] at H
  exact absurd H r17_
 rw [if_pos c5] at H
 have c5b0 := eq_true c5
 have c5b1 : decide ((ji3) ≤ (a0.size : Int)) = true := decide_eq_true c5
 clear c5
 replace H := bs_ H
 obtain ⟨⟨t295, t296⟩, A60, H⟩ := H
 try dsimp only at H
 have A6 := Aside0.mk A60
 clear A60
 by_cases c7 : t295 < 1
 ·rw [if_pos c7] at H
  have c7b0 := decide_eq_true c7
  clear c7
  obtain rfl := Option.some.inj H
  go_enter Try.func68, Try.ntmps68
  go_wp2_with (first | ((with_reducible refine gate_callee (f := 43) rfl ?_); refine goesL_ (some 14) rfl rfl Try.func43 r2_ rfl #[.string (a0.extract ((ji3) : Int).toNat a0.size)] rfl r12_ ?_; (with_reducible refine (qA.calls k (a0.extract ((ji3) : Int).toNat a0.size) t295 t296 _ A6.out).mono ?_); rintro e w' ⟨rfl, ⟨nd, rfl⟩⟩; refine ⟨_, rfl, ?_⟩))
  go_ret
  exact ⟨by first | rfl | (simp; done) | (simp only [← hji3] <;> (first | rfl | simp)) | (simp [*]; done), dR_⟩
 rw [if_neg c7] at H
 have c7b0 := decide_eq_false c7
 clear c7
 by_cases c8 : t295 > 32
 ·rw [if_pos c8] at H
  have c8b0 : decide (32 < t295) = true := decide_eq_true c8
  clear c8
  obtain rfl := Option.some.inj H
  go_enter Try.func68, Try.ntmps68
  go_wp2_with (first | ((with_reducible refine gate_callee (f := 43) rfl ?_); refine goesL_ (some 14) rfl rfl Try.func43 r2_ rfl #[.string (a0.extract ((ji3) : Int).toNat a0.size)] rfl r12_ ?_; (with_reducible refine (qA.calls k (a0.extract ((ji3) : Int).toNat a0.size) t295 t296 _ A6.out).mono ?_); rintro e w' ⟨rfl, ⟨nd, rfl⟩⟩; refine ⟨_, rfl, ?_⟩))
  go_ret
  exact ⟨by first | rfl | (simp; done) | (simp only [← hji3] <;> (first | rfl | simp)) | (simp [*]; done), dR_⟩
 rw [if_neg c8] at H
 have c8b0 : decide (32 < t295) = false := decide_eq_false c8
 clear c8
 obtain rfl := Option.some.inj H
 go_enter Try.func68, Try.ntmps68
 go_wp2_with (first | ((with_reducible refine gate_callee (f := 43) rfl ?_); refine goesL_ (some 14) rfl rfl Try.func43 r2_ rfl #[.string (a0.extract ((ji3) : Int).toNat a0.size)] rfl r12_ ?_; (with_reducible refine (qA.calls k (a0.extract ((ji3) : Int).toNat a0.size) t295 t296 _ A6.out).mono ?_); rintro e w' ⟨rfl, ⟨nd, rfl⟩⟩; refine ⟨_, rfl, ?_⟩))
 go_ret
 exact ⟨by first | rfl | (simp; done) | (simp only [← hji3] <;> (first | rfl | simp)) | (simp [*]; done), dR_⟩

/-! ### qu: function 87 -/
mutual
def qu.l0 : Nat → ByteArray → Int → Int → Int → Option (Int × ByteArray × Bool)
 | 0, _, _, _, _ => none
 | k + 1, x0, x5, x6, x7 => if x7 < (x0.size : Int) then (qu.j1 k x0 x5 x6 x7 (decide (x7 < 10))) else (qu.j1 k x0 x5 x6 x7 false)
def qu.j1 : Nat → ByteArray → Int → Int → Int → Bool → Option (Int × ByteArray × Bool)
 | 0, _, _, _, _, _ => none
 | k + 1, x0, x5, x6, x7, x16 => if x16 = true then (if 0 ≤ x7 then (if x7 < (x0.size : Int) then (if (IntKind.u64.wrap (bt x0 x7)) < 128 then ((qt.f k (IntKind.u64.wrap (x5 + (IntKind.u64.wrap ((Int.tmod (IntKind.u64.wrap (bt x0 x7)) 128) * x6))))).bind fun t297 => (if 0 ≤ (wrap64 (x7 + 1)) then (if (wrap64 (x7 + 1)) ≤ (x0.size : Int) then (if t297.toList = (x0.extract 0 ((wrap64 (x7 + 1)) : Int).toNat).toList then (some (IntKind.u64.wrap (x5 + (IntKind.u64.wrap ((Int.tmod (IntKind.u64.wrap (bt x0 x7)) 128) * x6))), x0.extract ((wrap64 (x7 + 1)) : Int).toNat x0.size, true)) else (some (0, (⟨#[]⟩ : ByteArray), false))) else (none)) else (none))) else (qu.l0 k x0 (IntKind.u64.wrap (x5 + (IntKind.u64.wrap ((Int.tmod (IntKind.u64.wrap (bt x0 x7)) 128) * x6)))) (IntKind.u64.wrap (x6 * 128)) (wrap64 (x7 + 1)))) else (none)) else (none)) else (some (0, (⟨#[]⟩ : ByteArray), false))
end
def qu.f (k : Nat) (a0 : ByteArray) : Option (Int × ByteArray × Bool) := qu.l0 k a0 0 1 0
theorem qu.mono_l : ∀ k, (∀ y0 y1 y2 y3, LeO (qu.l0 k y0 y1 y2 y3) (qu.l0 (k + 1) y0 y1 y2 y3)) ∧ (∀ y0 y1 y2 y3 y4, LeO (qu.j1 k y0 y1 y2 y3 y4) (qu.j1 (k + 1) y0 y1 y2 y3 y4))
 | 0 => ⟨fun _ _ _ _ r h => by simp [qu.l0] at h, fun _ _ _ _ _ r h => by simp [qu.j1] at h⟩
 | k + 1 => by
  obtain ⟨ih0, ih1⟩ := qu.mono_l k
  refine ⟨?_, ?_⟩
  ·intro y0 y1 y2 y3
   unfold qu.l0
   repeat' first
   | (with_reducible exact ih0 _ _ _ _)
   | (with_reducible exact ih1 _ _ _ _ _)
   | (with_reducible exact LeO.refl _)
   | (with_reducible exact LeO.none _)
   | (with_reducible refine LeO.ite ?_ ?_)
   | (with_reducible refine LeO.bind ?_ (fun _ => ?_))
   | exact ih0 _ _ _ _
   | exact ih1 _ _ _ _ _
   | exact qt.mono _ _
   | exact LeO.none _
   | refine LeO.ite ?_ ?_
   | refine LeO.bind ?_ (fun _ => ?_)
  ·intro y0 y1 y2 y3 y4
   unfold qu.j1
   repeat' first
   | (with_reducible exact ih0 _ _ _ _)
   | (with_reducible exact ih1 _ _ _ _ _)
   | (with_reducible exact LeO.refl _)
   | (with_reducible exact LeO.none _)
   | (with_reducible refine LeO.ite ?_ ?_)
   | (with_reducible refine LeO.bind ?_ (fun _ => ?_))
   | exact ih0 _ _ _ _
   | exact ih1 _ _ _ _ _
   | exact qt.mono _ _
   | exact LeO.none _
   | refine LeO.ite ?_ ?_
   | refine LeO.bind ?_ (fun _ => ?_)
theorem qu.mono : ∀ a0 k, LeO (qu.f k a0) (qu.f (k + 1) a0) := by
 intro a0 k
 obtain ⟨ih0, ih1⟩ := qu.mono_l k
 unfold qu.f
 repeat' first
   | (with_reducible exact ih0 _ _ _ _)
   | (with_reducible exact ih1 _ _ _ _ _)
   | (with_reducible exact LeO.refl _)
   | (with_reducible exact LeO.none _)
   | (with_reducible refine LeO.ite ?_ ?_)
   | (with_reducible refine LeO.bind ?_ (fun _ => ?_))
   | exact ih0 _ _ _ _
   | exact ih1 _ _ _ _ _
   | exact qt.mono _ _
   | exact LeO.none _
   | refine LeO.ite ?_ ?_
   | refine LeO.bind ?_ (fun _ => ?_)
def qu.T12 : Bool × List (List Nat × List Nat) := (true, [([], []), ([], []), ([], []), ([2], [2]), ([1, 3], [1, 3]), ([0, 0], [0]), ([4, 5, 0, 1, 2, 3, 4, 5], [4]), ([6, 0, 1, 2, 3, 4, 5, 6], [])])
def qu.B12 : List Nat := [0, 0, 0, 4, 14, 1, 63, 127]
theorem qu.tab12 : rtab .any (opsOf Try.f87 12) = qu.T12 := by kernel_rfl
theorem qu.bits12 : waitsOk qu.T12.2 qu.B12 = true := by kernel_rfl
set_option maxHeartbeats 8000000 in
set_option maxRecDepth 100000 in
theorem qu.calls (k : Nat) (a0 : ByteArray) (r1 : Int) (r2 : ByteArray) (r3 : Bool) (w : World) (h : qu.f k a0 = some (r1, r2, r3)) :
  Calls Try.prog 87 #[.string a0] w fun e w' => e = .returned (.tuple #[.int .u64 r1, .string r2, .bool r3]) ∧ Below w.heap.size w w' := by
 have HB := Aside0.mk (Below.refl w.heap.size w)
 have H : (qu.l0 k a0 0 1 0) = some (r1, r2, r3) := h
 clear h
 have H' := Aside0.mk H
 clear H
 go_enter Try.func87, Try.ntmps87
 go_wp2
 go_loopg [5, 6, 7] k (fun kq v5 v6 v7 w' => ∃ (x5_1 : Int) (x6_1 : Int) (x7_1 : Int), v5 = .int .u64 x5_1 ∧ v6 = .int .u64 x6_1 ∧ v7 = .int .i64 x7_1 ∧ Aside0 (qu.l0 kq a0 x5_1 x6_1 x7_1 = some (r1, r2, r3)) ∧ Aside0 (kq ≤ k) ∧ Aside0 (Below w.heap.size w w'))
 case atStart => exact ⟨(0), (1), (0), rs_, rs_, rs_, H', ⟨Nat.le_refl _⟩, ⟨hB_⟩⟩
 case round =>
  clear H'
  obtain ⟨x5_1, x6_1, x7_1, rfl, rfl, rfl, HA, HK1, HB⟩ := hrel
  cases gk with
  | zero => exact absurd HA.out (by simp [qu.l0])
  | succ k1 =>
   have H := HA.out
   clear HA
   simp only [qu.l0] at H
   have HC2 := Aside0.mk H
   clear H
   go_upto_region 4 with (fail)
   go_cut [16] (fun v16 wc => ∃ (kq : Nat) (x16_1 : Bool), v16 = .bool x16_1 ∧ Aside0 (qu.j1 kq a0 x5_1 x6_1 x7_1 x16_1 = some (r1, r2, r3)) ∧ Aside0 (kq ≤ k1) ∧ Aside0 (Below w.heap.size w wc))
   case first =>
    have H := HC2.out
    clear HC2
    by_cases c3 : x7_1 < (a0.size : Int)
    ·rw [if_pos c3] at H
     have c3b0 := decide_eq_true c3
     clear c3
     (first | rw [c3b0] | (simp only [i64_w, i32_w]; rw [c3b0]) | skip)
     have H' := Aside0.mk H
     clear H
     go_wp2
     go_meet
     case rel => exact ⟨_, (decide (x7_1 < 10)), rs_, hH_, ⟨by have := HK1.out; first | omega | exact Nat.le_refl _⟩, ⟨hB_⟩⟩
    rw [if_neg c3] at H
    have c3b0 := decide_eq_false c3
    clear c3
    (first | rw [c3b0] | (simp only [i64_w, i32_w]; rw [c3b0]) | skip)
    have H' := Aside0.mk H
    clear H
    go_wp2
    go_meet
    case rel => exact ⟨_, (false), rs_, hH_, ⟨by have := HK1.out; first | omega | exact Nat.le_refl _⟩, ⟨hB_⟩⟩
   case rest =>
    clear HC2
    obtain ⟨kq, x16_1, rfl, HA, HJ1, HB⟩ := hcut
    cases kq with
    | zero => exact absurd HA.out (by simp [qu.j1])
    | succ kj1 =>
     have H := HA.out
     clear HA
     simp only [qu.j1] at H
     by_cases c4 : x16_1 = true
     rotate_left
     ·replace c4 := Bool.eq_false_iff.mpr c4
      subst c4
      rw [if_neg ff_] at H
      simp only [Option.some.injEq, Prod.mk.injEq] at H
      obtain ⟨rfl, rfl, rfl⟩ := H
      go_wp2
      go_ret3
      exact ⟨rf_, hB_⟩
     subst c4
     rw [if_pos rfl] at H
     by_cases c5 : 0 ≤ x7_1
     rotate_left
     ·rw [if_neg c5] at H
      exact absurd H r17_
     rw [if_pos c5] at H
     have c5b0 := decide_eq_true c5
     clear c5
     by_cases c6 : x7_1 < (a0.size : Int)
     rotate_left
     ·rw [if_neg c6] at H
      exact absurd H r17_
     rw [if_pos c6] at H
     have c6b0 := decide_eq_true c6
     clear c6
     by_cases c8 : (IntKind.u64.wrap (bt a0 x7_1)) < 128
     rotate_left
     ·rw [if_neg c8] at H
      have c8b0 := decide_eq_false c8
      clear c8
      have H' := Aside0.mk H
      clear H
      have p7 : 0 ≤ (x7_1 : Int) := of_decide_eq_true as_
      have q7 : x7_1 < (a0.size : Int) := of_decide_eq_true as_
      have hx7 := bt_at a0 x7_1
      replace p7 := eq_true p7
      replace q7 := eq_true q7
      go_wp2
      go_roundg kj1
      case measure => have := HK1.out; have := HJ1.out; omega
      case rel => exact ⟨(IntKind.u64.wrap (x5_1 + (IntKind.u64.wrap ((Int.tmod (IntKind.u64.wrap (bt a0 x7_1)) 128) * x6_1)))), (IntKind.u64.wrap (x6_1 * 128)), (wrap64 (x7_1 + 1)), rs_, rs_, rs_, hH_, ⟨by have := HK1.out; have := HJ1.out; omega⟩, ⟨hB_⟩⟩
     rw [if_pos c8] at H
     have c8b0 := decide_eq_true c8
     clear c8
     replace H := bs_ H
     obtain ⟨t297, A90, H⟩ := H
     try dsimp only at H
     have A9 := Aside0.mk A90
     clear A90
     obtain ⟨ji10, hji10⟩ : ∃ j_ : Int, (wrap64 (x7_1 + 1)) = j_ := ⟨_, rfl⟩
     replace H : (if 0 ≤ (ji10) then (if (ji10) ≤ (a0.size : Int) then (if t297.toList = (a0.extract 0 ((ji10) : Int).toNat).toList then (some (IntKind.u64.wrap (x5_1 + (IntKind.u64.wrap ((Int.tmod (IntKind.u64.wrap (bt a0 x7_1)) 128) * x6_1))), a0.extract ((ji10) : Int).toNat a0.size, true)) else (some (0, (⟨#[]⟩ : ByteArray), false))) else (none)) else (none)) = some (r1, r2, r3) := by first | (rw [hji10] at H; exact H) | (simp only [hji10] at H ⊢; exact H)
     (try rw [hji10])
     (try rw [hji10] at A9)
     have hji10w : (IntKind.i64.wrap (x7_1 + 1)) = ji10 := (i64_w _).trans hji10
     by_cases c11 : 0 ≤ (ji10)
     rotate_left
     ·rw [if_neg c11] at H
      exact absurd H r17_
     rw [if_pos c11] at H
     have c11b0 := eq_true c11
     have c11b1 : decide (0 ≤ (ji10)) = true := decide_eq_true c11
     clear c11
     by_cases c12 : (ji10) ≤ (a0.size : Int)
     rotate_left
     ·rw [if_neg c12] at H
      exact absurd H r17_
     rw [if_pos c12] at H
     have c12b0 := eq_true c12
     have c12b1 : decide ((ji10) ≤ (a0.size : Int)) = true := decide_eq_true c12
     clear c12
     by_cases c13 : t297.toList = (a0.extract 0 ((ji10) : Int).toNat).toList
     rotate_left
     ·rw [if_neg c13] at H
      have c13b0 := beq_eq_false_iff_ne.mpr c13
      have c13b1 := bne_iff_ne.mpr c13
      simp only [Option.some.injEq, Prod.mk.injEq] at H
      obtain ⟨rfl, rfl, rfl⟩ := H
      have p7 : 0 ≤ (x7_1 : Int) := of_decide_eq_true as_
      have q7 : x7_1 < (a0.size : Int) := of_decide_eq_true as_
      have hx7 := bt_at a0 x7_1
      replace p7 := eq_true p7
      replace q7 := eq_true q7
      try go_wp2
      replace HB := Aside0.mk (below_drew1 HB.out)
      refine start_ (n := 7) (S := fun w' => True) (ds := []) #[N,N,N,N,N,N,N] r2_ rfl rfl trivial (fun hHeld => ?_)
      generalize wc.drew = w19 at HB hHeld ⊢
      refine pu_ 0 (some 33) #[Y,N,N,N,N,N,N] r2_ ?_
      refine pu_ 2 (some 35) #[Y,N,Y,N,N,N,N] r2_ ?_
      refine pu_ 3 (some 36) #[Y,N,Y,Y,N,N,N] r2_ ?_
      refine pu_ 4 (some 37) #[Y,N,Y,Y,Y,N,N] r2_ ?_
      refine pu_ 5 (some 38) #[Y,N,Y,Y,Y,Y,N] r2_ ?_
      refine one_ (i := 1) (N := some 34) #[Y,Y,Y,Y,Y,Y,N] rfl rfl r2_ r24_ (fun K hK => ?_)
      refine goes_ Try.func37 r2_ rfl #[.int .u64 (IntKind.u64.wrap (x5_1 + (IntKind.u64.wrap ((Int.tmod (IntKind.u64.wrap (bt a0 x7_1)) 128) * x6_1))))] r37_ rfl rfl hA_ ?_
      with_reducible refine (qt.calls kj1 (IntKind.u64.wrap (x5_1 + (IntKind.u64.wrap ((Int.tmod (IntKind.u64.wrap (bt a0 x7_1)) 128) * x6_1)))) t297 _ A9.out).mono ?_
      rintro e w20 ⟨rfl, hb⟩
      refine ⟨_, rfl, ?_⟩
      replace HB := Aside0.mk (below_step hB_ hb)
      (try clear hb)
      (try clear hb2)
      (try clear hk)
      (try clear hi)
      (try clear A9)
      refine hK.out _ _ trivial (fun hHeld => ?_)
      clear hK K
      refine nm_ (some 34) ?_
      refine pu_ 6 (some 39) #[Y,Y,Y,Y,Y,Y,Y] r2_ ?_
      refine done_ r2_ ?_
      (try clear hHeld)
      (try clear c11b0); (try clear c11b1); (try clear c11b2); (try clear c11b3); (try clear c11b4); (try clear c11b5); (try clear c11b6); (try clear c12b0); (try clear c12b1); (try clear c12b2); (try clear c12b3); (try clear c12b4); (try clear c12b5); (try clear c12b6)
      try go_wp2
      go_ret3
      exact ⟨by first | rfl | (simp [errW_none, errW_some] <;> rfl) | (simp (disch := omega) only [← i64_w, IntWalk.i64_in]; rfl) | (simp only [← hji10]; first | rfl | (simp [errW_none, errW_some] <;> rfl)) | (simp [*, errW_none, errW_some] <;> rfl), hB_⟩
     rw [if_pos c13] at H
     have c13b0 := beq_iff_eq.mpr c13
     have c13b1 := bne_eq_false_iff_eq.mpr c13
     clear c13
     have c14b0 := eq_true (of_decide_eq_true as_ : 0 ≤ (ji10))
     have c15b0 := eq_true (of_decide_eq_true as_ : (ji10) ≤ (a0.size : Int))
     simp only [Option.some.injEq, Prod.mk.injEq] at H
     obtain ⟨rfl, rfl, rfl⟩ := H
     have p7 : 0 ≤ (x7_1 : Int) := of_decide_eq_true as_
     have q7 : x7_1 < (a0.size : Int) := of_decide_eq_true as_
     have hx7 := bt_at a0 x7_1
     replace p7 := eq_true p7
     replace q7 := eq_true q7
     try go_wp2
     replace HB := Aside0.mk (below_drew1 HB.out)
     refine start_ (n := 7) (S := fun w' => True) (ds := []) #[N,N,N,N,N,N,N] r2_ rfl rfl trivial (fun hHeld => ?_)
     generalize wc.drew = w16 at HB hHeld ⊢
     refine pu_ 0 (some 33) #[Y,N,N,N,N,N,N] r2_ ?_
     refine pu_ 2 (some 35) #[Y,N,Y,N,N,N,N] r2_ ?_
     refine pu_ 3 (some 36) #[Y,N,Y,Y,N,N,N] r2_ ?_
     refine pu_ 4 (some 37) #[Y,N,Y,Y,Y,N,N] r2_ ?_
     refine pu_ 5 (some 38) #[Y,N,Y,Y,Y,Y,N] r2_ ?_
     refine one_ (i := 1) (N := some 34) #[Y,Y,Y,Y,Y,Y,N] rfl rfl r2_ r24_ (fun K hK => ?_)
     refine goes_ Try.func37 r2_ rfl #[.int .u64 (IntKind.u64.wrap (x5_1 + (IntKind.u64.wrap ((Int.tmod (IntKind.u64.wrap (bt a0 x7_1)) 128) * x6_1))))] r37_ rfl rfl hA_ ?_
     with_reducible refine (qt.calls kj1 (IntKind.u64.wrap (x5_1 + (IntKind.u64.wrap ((Int.tmod (IntKind.u64.wrap (bt a0 x7_1)) 128) * x6_1)))) t297 _ A9.out).mono ?_
     rintro e w17 ⟨rfl, hb⟩
     refine ⟨_, rfl, ?_⟩
     replace HB := Aside0.mk (below_step hB_ hb)
     (try clear hb)
     (try clear hb2)
     (try clear hk)
     (try clear hi)
     (try clear A9)
     refine hK.out _ _ trivial (fun hHeld => ?_)
     clear hK K
     refine nm_ (some 34) ?_
     refine pu_ 6 (some 39) #[Y,Y,Y,Y,Y,Y,Y] r2_ ?_
     refine done_ r2_ ?_
     (try clear hHeld)
     (try clear c11b0); (try clear c11b1); (try clear c11b2); (try clear c11b3); (try clear c11b4); (try clear c11b5); (try clear c11b6); (try clear c12b0); (try clear c12b1); (try clear c12b2); (try clear c12b3); (try clear c12b4); (try clear c12b5); (try clear c12b6)
     try go_wp2
     replace HB := Aside0.mk (below_drew1 HB.out)
     refine start_ (n := 8) (S := fun w' => True) (ds := []) #[N,N,N,N,N,N,N,N] r2_ rfl rfl trivial (fun hHeld => ?_); refine with_tabW qu.tab12 qu.bits12 (fun HT_ HW_ => ?_)
     generalize w17.drew = w18 at HB hHeld ⊢
     refine pu_ 0 (some 40) #[Y,N,N,N,N,N,N,N] (any_of HT_.out r2_) ?_
     refine pu_ 1 (some 41) #[Y,Y,N,N,N,N,N,N] (any_of HT_.out r2_) ?_
     refine pu_ 2 (some 42) #[Y,Y,Y,N,N,N,N,N] (any_of HT_.out r2_) ?_
     refine pu_ 3 (some 43) #[Y,Y,Y,Y,N,N,N,N] (any_of HT_.out r2_) ?_
     refine pu_ 4 (some 44) #[Y,Y,Y,Y,Y,N,N,N] (any_of HT_.out r2_) ?_
     refine pu_ 5 (some 2) #[Y,Y,Y,Y,Y,Y,N,N] (any_of HT_.out r2_) ?_
     refine pu_ 6 (some 3) #[Y,Y,Y,Y,Y,Y,Y,N] (any_of HT_.out r2_) ?_
     refine pu_ 7 (some 4) #[Y,Y,Y,Y,Y,Y,Y,Y] (any_of HT_.out r2_) ?_
     refine done_ (done_of HT_.out r2_) ?_
     (try clear hHeld)
     (try clear c11b0); (try clear c11b1); (try clear c11b2); (try clear c11b3); (try clear c11b4); (try clear c11b5); (try clear c11b6); (try clear c12b0); (try clear c12b1); (try clear c12b2); (try clear c12b3); (try clear c12b4); (try clear c12b5); (try clear c12b6)
     try go_wp2
     go_ret3
     exact ⟨by first | rfl | (simp [errW_none, errW_some] <;> rfl) | (simp (disch := omega) only [← i64_w, IntWalk.i64_in]; rfl) | (simp only [← hji10]; first | rfl | (simp [errW_none, errW_some] <;> rfl)) | (simp [*, errW_none, errW_some] <;> rfl), hB_⟩

/-! ### qb1: function 88 -/
def qb1.f (k : Nat) (a0 : ByteArray) : Option (ByteArray × ByteArray × Bool) := (qu.f k a0).bind fun bt298 => (if bt298.2.2 = true then (if bt298.1 > (IntKind.u64.wrap ((bt298.2.1.size : Int))) then (some ((⟨#[]⟩ : ByteArray), (⟨#[]⟩ : ByteArray), false)) else (if 0 ≤ (wrap64 (bt298.1)) then (if (wrap64 (bt298.1)) ≤ (bt298.2.1.size : Int) then (some (bt298.2.1.extract 0 ((wrap64 (bt298.1)) : Int).toNat, bt298.2.1.extract ((wrap64 (bt298.1)) : Int).toNat bt298.2.1.size, true)) else (none)) else (none))) else (some ((⟨#[]⟩ : ByteArray), (⟨#[]⟩ : ByteArray), false)))
theorem qb1.mono : ∀ a0 k, LeO (qb1.f k a0) (qb1.f (k + 1) a0) := by
 intro a0 k
 unfold qb1.f
 repeat' first
   | (with_reducible exact LeO.refl _)
   | (with_reducible exact LeO.none _)
   | (with_reducible refine LeO.ite ?_ ?_)
   | (with_reducible refine LeO.bind ?_ (fun _ => ?_))
   | exact qu.mono _ _
   | exact LeO.none _
   | refine LeO.ite ?_ ?_
   | refine LeO.bind ?_ (fun _ => ?_)
set_option maxHeartbeats 8000000 in
set_option maxRecDepth 100000 in
theorem qb1.calls (k : Nat) (a0 : ByteArray) (r1 : ByteArray) (r2 : ByteArray) (r3 : Bool) (w : World) (h : qb1.f k a0 = some (r1, r2, r3)) :
  Calls Try.prog 88 #[.string a0] w fun e w' => e = .returned (.tuple #[.string r1, .string r2, .bool r3]) ∧ Below w.heap.size w w' := by
 have HB := Aside0.mk (Below.refl w.heap.size w)
 have H : ((qu.f k a0).bind fun bt298 => (if bt298.2.2 = true then (if bt298.1 > (IntKind.u64.wrap ((bt298.2.1.size : Int))) then (some ((⟨#[]⟩ : ByteArray), (⟨#[]⟩ : ByteArray), false)) else (if 0 ≤ (wrap64 (bt298.1)) then (if (wrap64 (bt298.1)) ≤ (bt298.2.1.size : Int) then (some (bt298.2.1.extract 0 ((wrap64 (bt298.1)) : Int).toNat, bt298.2.1.extract ((wrap64 (bt298.1)) : Int).toNat bt298.2.1.size, true)) else (none)) else (none))) else (some ((⟨#[]⟩ : ByteArray), (⟨#[]⟩ : ByteArray), false)))) = some (r1, r2, r3) := h
 clear h
 replace H := bs_ H
 obtain ⟨⟨t298, t299, t300⟩, A20, H⟩ := H
 try dsimp only at H
 have A2 := Aside0.mk A20
 clear A20
 by_cases c3 : t300 = true
 rotate_left
 ·replace c3 := Bool.eq_false_iff.mpr c3
  subst c3
  rw [if_neg ff_] at H
  simp only [Option.some.injEq, Prod.mk.injEq] at H
  obtain ⟨rfl, rfl, rfl⟩ := H
  go_enter Try.func88, Try.ntmps88
  go_wp2_with (first | (go_at_call 87; (with_reducible refine (qu.calls k a0 t298 t299 false _ A2.out).mono ?_); rintro e w12 ⟨rfl, hb⟩; replace HB := Aside0.mk (below_step hB_ hb); clear hb A2))
  repeat (go_quiet (first | (go_at_call 87; (with_reducible refine (qu.calls k a0 t298 t299 false _ A2.out).mono ?_); rintro e w12 ⟨rfl, hb⟩; replace HB := Aside0.mk (below_step hB_ hb); clear hb A2)); try go_wp2_with (first | (go_at_call 87; (with_reducible refine (qu.calls k a0 t298 t299 false _ A2.out).mono ?_); rintro e w12 ⟨rfl, hb⟩; replace HB := Aside0.mk (below_step hB_ hb); clear hb A2)))
  go_ret3
  exact ⟨rf_, hB_⟩
 subst c3
 rw [if_pos rfl] at H
 by_cases c4 : t298 > (IntKind.u64.wrap ((t299.size : Int)))
 ·rw [if_pos c4] at H
  have c4b0 : decide ((IntKind.u64.wrap ((t299.size : Int))) < t298) = true := decide_eq_true c4
  clear c4
  simp only [Option.some.injEq, Prod.mk.injEq] at H
  obtain ⟨rfl, rfl, rfl⟩ := H
  go_enter Try.func88, Try.ntmps88
  go_wp2_with (first | (go_at_call 87; (with_reducible refine (qu.calls k a0 t298 t299 true _ A2.out).mono ?_); rintro e w5 ⟨rfl, hb⟩; replace HB := Aside0.mk (below_step hB_ hb); clear hb A2))
  repeat (go_quiet (first | (go_at_call 87; (with_reducible refine (qu.calls k a0 t298 t299 true _ A2.out).mono ?_); rintro e w5 ⟨rfl, hb⟩; replace HB := Aside0.mk (below_step hB_ hb); clear hb A2)); try go_wp2_with (first | (go_at_call 87; (with_reducible refine (qu.calls k a0 t298 t299 true _ A2.out).mono ?_); rintro e w5 ⟨rfl, hb⟩; replace HB := Aside0.mk (below_step hB_ hb); clear hb A2)))
  go_ret3
  exact ⟨rf_, hB_⟩
 rw [if_neg c4] at H
 have c4b0 : decide ((IntKind.u64.wrap ((t299.size : Int))) < t298) = false := decide_eq_false c4
 clear c4
 obtain ⟨ji6, hji6⟩ : ∃ j_ : Int, (wrap64 (t298)) = j_ := ⟨_, rfl⟩
 replace H : (if 0 ≤ (ji6) then (if (ji6) ≤ (t299.size : Int) then (some (t299.extract 0 ((ji6) : Int).toNat, t299.extract ((ji6) : Int).toNat t299.size, true)) else (none)) else (none)) = some (r1, r2, r3) := by first | (rw [hji6] at H; exact H) | (simp only [hji6] at H ⊢; exact H)
 (try rw [hji6])
 (try rw [hji6] at A2)
 have hji6w : (IntKind.i64.wrap (t298)) = ji6 := (i64_w _).trans hji6
 by_cases c7 : 0 ≤ (ji6)
 rotate_left
 ·rw [if_neg c7] at H
  exact absurd H r17_
 rw [if_pos c7] at H
 have c7b0 := eq_true c7
 have c7b1 : decide (0 ≤ (ji6)) = true := decide_eq_true c7
 clear c7
 by_cases c8 : (ji6) ≤ (t299.size : Int)
 rotate_left
 ·rw [if_neg c8] at H
  exact absurd H r17_
 rw [if_pos c8] at H
 have c8b0 := eq_true c8
 have c8b1 : decide ((ji6) ≤ (t299.size : Int)) = true := decide_eq_true c8
 clear c8
 have c9b0 := eq_true (of_decide_eq_true as_ : 0 ≤ (ji6))
 have c10b0 := eq_true (of_decide_eq_true as_ : (ji6) ≤ (t299.size : Int))
 simp only [Option.some.injEq, Prod.mk.injEq] at H
 obtain ⟨rfl, rfl, rfl⟩ := H
 go_enter Try.func88, Try.ntmps88
 go_wp2_with (first | (go_at_call 87; (with_reducible refine (qu.calls k a0 t298 t299 true _ A2.out).mono ?_); rintro e w11 ⟨rfl, hb⟩; replace HB := Aside0.mk (below_step hB_ hb); clear hb A2))
 repeat (go_quiet (first | (go_at_call 87; (with_reducible refine (qu.calls k a0 t298 t299 true _ A2.out).mono ?_); rintro e w11 ⟨rfl, hb⟩; replace HB := Aside0.mk (below_step hB_ hb); clear hb A2)); try go_wp2_with (first | (go_at_call 87; (with_reducible refine (qu.calls k a0 t298 t299 true _ A2.out).mono ?_); rintro e w11 ⟨rfl, hb⟩; replace HB := Aside0.mk (below_step hB_ hb); clear hb A2)))
 go_ret3
 exact ⟨by first | rfl | (simp [errW_none, errW_some] <;> rfl) | (simp (disch := omega) only [← i64_w, IntWalk.i64_in]; rfl) | (simp only [← hji6]; first | rfl | (simp [errW_none, errW_some] <;> rfl)) | (simp [*, errW_none, errW_some] <;> rfl), hB_⟩

end Go.Proofs.Ytgdkikkjaofbfaa.P
