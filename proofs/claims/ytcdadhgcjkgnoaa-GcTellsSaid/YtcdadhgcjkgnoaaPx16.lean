-- Printed by a program of this session's own (wip/tools/pprint.sh, over the kit's print, with given contracts): not typed by hand.
import Derived.Test.YtcdadhgcjkgnoaaPx0
namespace Go.Proofs.Ytcdadhgcjkgnoaa.P
open Go.RowKit Go.Proofs.YtcdadhgcjkgnoaaW.PrintWords Go.Proofs.YtcdadhgcjkgnoaaW.PrintLast Go.Proofs.YtcdadhgcjkgnoaaW.PrintMore
set_option linter.unusedVariables false
set_option linter.unusedSimpArgs false
-- SQUEEZED3

/-! ### screeref17_shows: function 50 -/
mutual
def screeref17_shows.j0 : Nat → List (S44) → Int → Int → Bool → Option (Bool)
 | 0, _, _, _, _ => none
 | k + 1, x0, x1, x2, x23 => if x23 = true then (some false) else (screeref17_shows.l0 k x0 x1 x2 0)
def screeref17_shows.l0 : Nat → List (S44) → Int → Int → Int → Option (Bool)
 | 0, _, _, _, _ => none
 | k + 1, x0, x1, x2, x7 => if x7 < (x0.length : Int) then (if 0 ≤ x7 then (if ((rd_T44 x0 x7).f0) = 2 then (if 0 ≤ x1 then (if x1 < (x0.length : Int) then (if ((rd_T44 x0 x7).f1).toList = ((rd_T44 x0 x1).f1).toList then (if ((rd_T44 x0 x7).f4.f1) = 3 then (screeref17_shows.l0 k x0 x1 x2 (wrap64 (x7 + 1))) else (if ((rd_T44 x0 x7).f2) ≤ x2 then (if ((rd_T44 x0 x7).f2) > ((rd_T44 x0 x1).f2) then (some false) else (screeref17_shows.l0 k x0 x1 x2 (wrap64 (x7 + 1)))) else (screeref17_shows.l0 k x0 x1 x2 (wrap64 (x7 + 1))))) else (screeref17_shows.l0 k x0 x1 x2 (wrap64 (x7 + 1)))) else (none)) else (none)) else (screeref17_shows.l0 k x0 x1 x2 (wrap64 (x7 + 1)))) else (none)) else (some true)
end
def screeref17_shows.f (k : Nat) (l0 : List (S44)) (a1 : Int) (a2 : Int) : Option (Bool) := if 0 ≤ a1 then (if a1 < (l0.length : Int) then (if ((rd_T44 l0 a1).f2) > a2 then (screeref17_shows.j0 k l0 a1 a2 true) else (screeref17_shows.j0 k l0 a1 a2 (((rd_T44 l0 a1).f4.f1) == 3))) else (none)) else (none)
theorem screeref17_shows.mono_l : ∀ k, (∀ y0 y1 y2 y3, LeO (screeref17_shows.j0 k y0 y1 y2 y3) (screeref17_shows.j0 (k + 1) y0 y1 y2 y3)) ∧ (∀ y0 y1 y2 y3, LeO (screeref17_shows.l0 k y0 y1 y2 y3) (screeref17_shows.l0 (k + 1) y0 y1 y2 y3))
 | 0 => ⟨fun _ _ _ _ r h => by simp [screeref17_shows.j0] at h, fun _ _ _ _ r h => by simp [screeref17_shows.l0] at h⟩
 | k + 1 => by
  obtain ⟨ih0, ih1⟩ := screeref17_shows.mono_l k
  refine ⟨?_, ?_⟩
  ·intro y0 y1 y2 y3
   unfold screeref17_shows.j0
   repeat' first
   | (with_reducible exact ih0 _ _ _ _)
   | (with_reducible exact ih1 _ _ _ _)
   | (with_reducible exact LeO.refl _)
   | (with_reducible exact LeO.none _)
   | (with_reducible refine LeO.ite ?_ ?_)
   | (with_reducible refine LeO.bind ?_ (fun _ => ?_))
   | exact ih0 _ _ _ _
   | exact ih1 _ _ _ _
   | exact LeO.none _
   | refine LeO.ite ?_ ?_
   | refine LeO.bind ?_ (fun _ => ?_)
  ·intro y0 y1 y2 y3
   unfold screeref17_shows.l0
   repeat' first
   | (with_reducible exact ih0 _ _ _ _)
   | (with_reducible exact ih1 _ _ _ _)
   | (with_reducible exact LeO.refl _)
   | (with_reducible exact LeO.none _)
   | (with_reducible refine LeO.ite ?_ ?_)
   | (with_reducible refine LeO.bind ?_ (fun _ => ?_))
   | exact ih0 _ _ _ _
   | exact ih1 _ _ _ _
   | exact LeO.none _
   | refine LeO.ite ?_ ?_
   | refine LeO.bind ?_ (fun _ => ?_)
theorem screeref17_shows.mono : ∀ a0 a1 a2 k, LeO (screeref17_shows.f k a0 a1 a2) (screeref17_shows.f (k + 1) a0 a1 a2) := by
 intro a0 a1 a2 k
 obtain ⟨ih0, ih1⟩ := screeref17_shows.mono_l k
 unfold screeref17_shows.f
 repeat' first
   | (with_reducible exact ih0 _ _ _ _)
   | (with_reducible exact ih1 _ _ _ _)
   | (with_reducible exact LeO.refl _)
   | (with_reducible exact LeO.none _)
   | (with_reducible refine LeO.ite ?_ ?_)
   | (with_reducible refine LeO.bind ?_ (fun _ => ?_))
   | exact ih0 _ _ _ _
   | exact ih1 _ _ _ _
   | exact LeO.none _
   | refine LeO.ite ?_ ?_
   | refine LeO.bind ?_ (fun _ => ?_)
set_option maxHeartbeats 8000000 in
set_option maxRecDepth 100000 in
theorem screeref17_shows.calls (k : Nat) (A0 : Option Addr) (c0 : Nat) (l0 : List (S44)) (a1 : Int) (a2 : Int) (r : Bool) (w : World) (hr0 : Kd.C k44 w A0 l0.length l0) (hc0 : l0.length ≤ c0) (h : screeref17_shows.f k l0 a1 a2 = some r) :
  Calls Try.prog 50 #[.slice A0 l0.length c0, .int .i64 a1, .int .u64 a2] w fun e w' => e = .returned (.bool r) ∧ Drawn0 w w' := by
 have HR0 := Aside0.mk hr0
 have HC0 := Aside0.mk hc0
 clear hr0 hc0
 have H : (if 0 ≤ a1 then (if a1 < (l0.length : Int) then (if ((rd_T44 l0 a1).f2) > a2 then (screeref17_shows.j0 k l0 a1 a2 true) else (screeref17_shows.j0 k l0 a1 a2 (((rd_T44 l0 a1).f4.f1) == 3))) else (none)) else (none)) = some r := h
 clear h
 have HC4 := Aside0.mk H
 clear H
 go_enter Try.func50, Try.ntmps50
 go_upto_region 1 with (fail)
 repeat (go_quiet (fail); go_upto_region 1 with (fail))
 go_cut [23] (fun v23 wc => ∃ (kq : Nat) (x23_3 : Bool), v23 = .bool x23_3 ∧ Aside0 (screeref17_shows.j0 kq l0 a1 a2 x23_3 = some r) ∧ Aside0 (kq ≤ k) ∧ Drawn0 w wc)
 case first =>
  have H := HC4.out
  clear HC4
  by_cases c5 : 0 ≤ a1
  rotate_left
  ·rw [if_neg c5] at H
   exact absurd H r34_
  rw [if_pos c5] at H
  have c5b0 := decide_eq_true c5
  clear c5
  (first | rw [c5b0] | (simp only [i64_w, i32_w]; rw [c5b0]) | skip)
  by_cases c6 : a1 < (l0.length : Int)
  rotate_left
  ·rw [if_neg c6] at H
   exact absurd H r34_
  rw [if_pos c6] at H
  have c6b0 := decide_eq_true c6
  clear c6
  by_cases c7 : ((rd_T44 l0 a1).f2) > a2
  ·rw [if_pos c7] at H
   have c7b0 : decide (a2 < ((rd_T44 l0 a1).f2)) = true := decide_eq_true c7
   clear c7
   have H' := Aside0.mk H
   clear H
   have p330 : 0 ≤ (a1 : Int) := of_decide_eq_true as_
   have q330 : a1 < (l0.length : Int) := of_decide_eq_true as_
   obtain ⟨ad330, e330, hx330_0, hx330_1, hx330_2, hx330_3, hx330_4, hx330_5, hx330_6, hx330_7, hx330_8⟩ := at_T44 HR0.out a1 p330 q330
   cases e330
   replace p330 := eq_true p330
   replace q330 := eq_true q330
   go_wp2
   repeat (go_quiet (fail); try go_wp2)
   go_meet
   case rel => exact ⟨_, (true), rs_, hH_, ⟨by first | omega | exact Nat.le_refl _⟩, dR_⟩
  rw [if_neg c7] at H
  have c7b0 : decide (a2 < ((rd_T44 l0 a1).f2)) = false := decide_eq_false c7
  clear c7
  have H' := Aside0.mk H
  clear H
  have p330 : 0 ≤ (a1 : Int) := of_decide_eq_true as_
  have q330 : a1 < (l0.length : Int) := of_decide_eq_true as_
  obtain ⟨ad330, e330, hx330_0, hx330_1, hx330_2, hx330_3, hx330_4, hx330_5, hx330_6, hx330_7, hx330_8⟩ := at_T44 HR0.out a1 p330 q330
  cases e330
  replace p330 := eq_true p330
  replace q330 := eq_true q330
  have p331 : 0 ≤ (a1 : Int) := of_decide_eq_true as_
  have q331 : a1 < (l0.length : Int) := of_decide_eq_true as_
  obtain ⟨ad331, e331, hx331_0, hx331_1, hx331_2, hx331_3, hx331_4, hx331_5, hx331_6, hx331_7, hx331_8⟩ := at_T44 HR0.out a1 p331 q331
  obtain rfl : ad330 = ad331 := (by injection e331)
  replace p331 := eq_true p331
  replace q331 := eq_true q331
  go_wp2
  repeat (go_quiet (fail); try go_wp2)
  go_meet
  case rel => exact ⟨_, ((((rd_T44 l0 a1).f4.f1) == 3)), rs_, hH_, ⟨by first | omega | exact Nat.le_refl _⟩, dR_⟩
 case rest =>
  clear HC4
  obtain ⟨kq, x23_3, rfl, HA, HJ3, ⟨mc3, rfl⟩⟩ := hcut
  cases kq with
  | zero => exact absurd HA.out (by simp [screeref17_shows.j0])
  | succ kj3 =>
   have H := HA.out
   clear HA
   simp only [screeref17_shows.j0] at H
   by_cases c8 : x23_3 = true
   ·subst c8
    rw [if_pos rfl] at H
    obtain rfl := Option.some.inj H
    go_wp2
    repeat (go_quiet (fail); try go_wp2)
    go_ret
    exact ⟨rs_, dR_⟩
   replace c8 := Bool.eq_false_iff.mpr c8
   subst c8
   rw [if_neg ff_] at H
   have H' := Aside0.mk H
   clear H
   go_wp2
   repeat (go_quiet (fail); try go_wp2)
   go_loopg [7] kj3 (fun kq v7 w' => ∃ (x7_2 : Int), v7 = .int .i64 x7_2 ∧ Aside0 (screeref17_shows.l0 kq l0 a1 a2 x7_2 = some r) ∧ Aside0 (kq ≤ kj3) ∧ Drawn0 w w')
   case atStart => exact ⟨(0), rs_, H', ⟨Nat.le_refl _⟩, dR_⟩
   case round =>
    clear H'
    try clear c8
    obtain ⟨x7_2, rfl, HA, HK2, ⟨m2, rfl⟩⟩ := hrel
    cases gk with
    | zero => exact absurd HA.out (by simp [screeref17_shows.l0])
    | succ k2 =>
     have H := HA.out
     clear HA
     simp only [screeref17_shows.l0] at H
     by_cases c9 : x7_2 < (l0.length : Int)
     rotate_left
     ·rw [if_neg c9] at H
      have c9b0 := decide_eq_false c9
      clear c9
      obtain rfl := Option.some.inj H
      go_wp2
      repeat (go_quiet (fail); try go_wp2)
      go_ret
      exact ⟨rs_, dR_⟩
     rw [if_pos c9] at H
     have c9b0 := decide_eq_true c9
     clear c9
     by_cases c10 : 0 ≤ x7_2
     rotate_left
     ·rw [if_neg c10] at H
      exact absurd H r34_
     rw [if_pos c10] at H
     have c10b0 := decide_eq_true c10
     clear c10
     by_cases c11 : ((rd_T44 l0 x7_2).f0) = 2
     rotate_left
     ·rw [if_neg c11] at H
      have c11b0 := beq_eq_false_iff_ne.mpr c11
      have c11b1 := bne_iff_ne.mpr c11
      have H' := Aside0.mk H
      clear H
      have p332 : 0 ≤ (x7_2 : Int) := of_decide_eq_true as_
      have q332 : x7_2 < (l0.length : Int) := of_decide_eq_true as_
      obtain ⟨ad332, e332, hx332_0, hx332_1, hx332_2, hx332_3, hx332_4, hx332_5, hx332_6, hx332_7, hx332_8⟩ := at_T44 HR0.out x7_2 p332 q332
      cases e332
      replace p332 := eq_true p332
      replace q332 := eq_true q332
      go_wp2
      repeat (go_quiet (fail); try go_wp2)
      go_roundg k2
      case measure => have := HJ3.out; have := HK2.out; omega
      case rel => exact ⟨(wrap64 (x7_2 + 1)), rs_, hH_, ⟨by have := HJ3.out; have := HK2.out; omega⟩, dR_⟩
     rw [if_pos c11] at H
     have c11b0 := beq_iff_eq.mpr c11
     have c11b1 := bne_eq_false_iff_eq.mpr c11
     clear c11
     by_cases c12 : 0 ≤ a1
     rotate_left
     ·rw [if_neg c12] at H
      exact absurd H r34_
     rw [if_pos c12] at H
     have c12b0 := decide_eq_true c12
     clear c12
     by_cases c13 : a1 < (l0.length : Int)
     rotate_left
     ·rw [if_neg c13] at H
      exact absurd H r34_
     rw [if_pos c13] at H
     have c13b0 := decide_eq_true c13
     clear c13
     by_cases c14 : ((rd_T44 l0 x7_2).f1).toList = ((rd_T44 l0 a1).f1).toList
     rotate_left
     ·rw [if_neg c14] at H
      have c14b0 := beq_eq_false_iff_ne.mpr c14
      have c14b1 := bne_iff_ne.mpr c14
      have H' := Aside0.mk H
      clear H
      have p332 : 0 ≤ (x7_2 : Int) := of_decide_eq_true as_
      have q332 : x7_2 < (l0.length : Int) := of_decide_eq_true as_
      obtain ⟨ad332, e332, hx332_0, hx332_1, hx332_2, hx332_3, hx332_4, hx332_5, hx332_6, hx332_7, hx332_8⟩ := at_T44 HR0.out x7_2 p332 q332
      cases e332
      replace p332 := eq_true p332
      replace q332 := eq_true q332
      have p333 : 0 ≤ (x7_2 : Int) := of_decide_eq_true as_
      have q333 : x7_2 < (l0.length : Int) := of_decide_eq_true as_
      obtain ⟨ad333, e333, hx333_0, hx333_1, hx333_2, hx333_3, hx333_4, hx333_5, hx333_6, hx333_7, hx333_8⟩ := at_T44 HR0.out x7_2 p333 q333
      obtain rfl : ad332 = ad333 := (by injection e333)
      replace p333 := eq_true p333
      replace q333 := eq_true q333
      have p334 : 0 ≤ (a1 : Int) := of_decide_eq_true as_
      have q334 : a1 < (l0.length : Int) := of_decide_eq_true as_
      obtain ⟨ad334, e334, hx334_0, hx334_1, hx334_2, hx334_3, hx334_4, hx334_5, hx334_6, hx334_7, hx334_8⟩ := at_T44 HR0.out a1 p334 q334
      obtain rfl : ad332 = ad334 := (by injection e334)
      replace p334 := eq_true p334
      replace q334 := eq_true q334
      go_wp2
      repeat (go_quiet (fail); try go_wp2)
      go_roundg k2
      case measure => have := HJ3.out; have := HK2.out; omega
      case rel => exact ⟨(wrap64 (x7_2 + 1)), rs_, hH_, ⟨by have := HJ3.out; have := HK2.out; omega⟩, dR_⟩
     rw [if_pos c14] at H
     have c14b0 := beq_iff_eq.mpr c14
     have c14b1 := bne_eq_false_iff_eq.mpr c14
     clear c14
     by_cases c15 : ((rd_T44 l0 x7_2).f4.f1) = 3
     ·rw [if_pos c15] at H
      have c15b0 := beq_iff_eq.mpr c15
      have c15b1 := bne_eq_false_iff_eq.mpr c15
      clear c15
      have H' := Aside0.mk H
      clear H
      have p332 : 0 ≤ (x7_2 : Int) := of_decide_eq_true as_
      have q332 : x7_2 < (l0.length : Int) := of_decide_eq_true as_
      obtain ⟨ad332, e332, hx332_0, hx332_1, hx332_2, hx332_3, hx332_4, hx332_5, hx332_6, hx332_7, hx332_8⟩ := at_T44 HR0.out x7_2 p332 q332
      cases e332
      replace p332 := eq_true p332
      replace q332 := eq_true q332
      have p333 : 0 ≤ (x7_2 : Int) := of_decide_eq_true as_
      have q333 : x7_2 < (l0.length : Int) := of_decide_eq_true as_
      obtain ⟨ad333, e333, hx333_0, hx333_1, hx333_2, hx333_3, hx333_4, hx333_5, hx333_6, hx333_7, hx333_8⟩ := at_T44 HR0.out x7_2 p333 q333
      obtain rfl : ad332 = ad333 := (by injection e333)
      replace p333 := eq_true p333
      replace q333 := eq_true q333
      have p334 : 0 ≤ (a1 : Int) := of_decide_eq_true as_
      have q334 : a1 < (l0.length : Int) := of_decide_eq_true as_
      obtain ⟨ad334, e334, hx334_0, hx334_1, hx334_2, hx334_3, hx334_4, hx334_5, hx334_6, hx334_7, hx334_8⟩ := at_T44 HR0.out a1 p334 q334
      obtain rfl : ad332 = ad334 := (by injection e334)
      replace p334 := eq_true p334
      replace q334 := eq_true q334
      have p335 : 0 ≤ (x7_2 : Int) := of_decide_eq_true as_
      have q335 : x7_2 < (l0.length : Int) := of_decide_eq_true as_
      obtain ⟨ad335, e335, hx335_0, hx335_1, hx335_2, hx335_3, hx335_4, hx335_5, hx335_6, hx335_7, hx335_8⟩ := at_T44 HR0.out x7_2 p335 q335
      obtain rfl : ad332 = ad335 := (by injection e335)
      replace p335 := eq_true p335
      replace q335 := eq_true q335
      go_wp2
      repeat (go_quiet (fail); try go_wp2)
      go_roundg k2
      case measure => have := HJ3.out; have := HK2.out; omega
      case rel => exact ⟨(wrap64 (x7_2 + 1)), rs_, hH_, ⟨by have := HJ3.out; have := HK2.out; omega⟩, dR_⟩
     rw [if_neg c15] at H
     have c15b0 := beq_eq_false_iff_ne.mpr c15
     have c15b1 := bne_iff_ne.mpr c15
     by_cases c16 : ((rd_T44 l0 x7_2).f2) ≤ a2
     rotate_left
     ·rw [if_neg c16] at H
      have c16b0 := decide_eq_false c16
      clear c16
      have H' := Aside0.mk H
      clear H
      have p332 : 0 ≤ (x7_2 : Int) := of_decide_eq_true as_
      have q332 : x7_2 < (l0.length : Int) := of_decide_eq_true as_
      obtain ⟨ad332, e332, hx332_0, hx332_1, hx332_2, hx332_3, hx332_4, hx332_5, hx332_6, hx332_7, hx332_8⟩ := at_T44 HR0.out x7_2 p332 q332
      cases e332
      replace p332 := eq_true p332
      replace q332 := eq_true q332
      have p333 : 0 ≤ (x7_2 : Int) := of_decide_eq_true as_
      have q333 : x7_2 < (l0.length : Int) := of_decide_eq_true as_
      obtain ⟨ad333, e333, hx333_0, hx333_1, hx333_2, hx333_3, hx333_4, hx333_5, hx333_6, hx333_7, hx333_8⟩ := at_T44 HR0.out x7_2 p333 q333
      obtain rfl : ad332 = ad333 := (by injection e333)
      replace p333 := eq_true p333
      replace q333 := eq_true q333
      have p334 : 0 ≤ (a1 : Int) := of_decide_eq_true as_
      have q334 : a1 < (l0.length : Int) := of_decide_eq_true as_
      obtain ⟨ad334, e334, hx334_0, hx334_1, hx334_2, hx334_3, hx334_4, hx334_5, hx334_6, hx334_7, hx334_8⟩ := at_T44 HR0.out a1 p334 q334
      obtain rfl : ad332 = ad334 := (by injection e334)
      replace p334 := eq_true p334
      replace q334 := eq_true q334
      have p335 : 0 ≤ (x7_2 : Int) := of_decide_eq_true as_
      have q335 : x7_2 < (l0.length : Int) := of_decide_eq_true as_
      obtain ⟨ad335, e335, hx335_0, hx335_1, hx335_2, hx335_3, hx335_4, hx335_5, hx335_6, hx335_7, hx335_8⟩ := at_T44 HR0.out x7_2 p335 q335
      obtain rfl : ad332 = ad335 := (by injection e335)
      replace p335 := eq_true p335
      replace q335 := eq_true q335
      have p336 : 0 ≤ (x7_2 : Int) := of_decide_eq_true as_
      have q336 : x7_2 < (l0.length : Int) := of_decide_eq_true as_
      obtain ⟨ad336, e336, hx336_0, hx336_1, hx336_2, hx336_3, hx336_4, hx336_5, hx336_6, hx336_7, hx336_8⟩ := at_T44 HR0.out x7_2 p336 q336
      obtain rfl : ad332 = ad336 := (by injection e336)
      replace p336 := eq_true p336
      replace q336 := eq_true q336
      go_wp2
      repeat (go_quiet (fail); try go_wp2)
      go_roundg k2
      case measure => have := HJ3.out; have := HK2.out; omega
      case rel => exact ⟨(wrap64 (x7_2 + 1)), rs_, hH_, ⟨by have := HJ3.out; have := HK2.out; omega⟩, dR_⟩
     rw [if_pos c16] at H
     have c16b0 := decide_eq_true c16
     clear c16
     by_cases c17 : ((rd_T44 l0 x7_2).f2) > ((rd_T44 l0 a1).f2)
     ·rw [if_pos c17] at H
      have c17b0 : decide (((rd_T44 l0 a1).f2) < ((rd_T44 l0 x7_2).f2)) = true := decide_eq_true c17
      clear c17
      obtain rfl := Option.some.inj H
      have p332 : 0 ≤ (x7_2 : Int) := of_decide_eq_true as_
      have q332 : x7_2 < (l0.length : Int) := of_decide_eq_true as_
      obtain ⟨ad332, e332, hx332_0, hx332_1, hx332_2, hx332_3, hx332_4, hx332_5, hx332_6, hx332_7, hx332_8⟩ := at_T44 HR0.out x7_2 p332 q332
      cases e332
      replace p332 := eq_true p332
      replace q332 := eq_true q332
      have p333 : 0 ≤ (x7_2 : Int) := of_decide_eq_true as_
      have q333 : x7_2 < (l0.length : Int) := of_decide_eq_true as_
      obtain ⟨ad333, e333, hx333_0, hx333_1, hx333_2, hx333_3, hx333_4, hx333_5, hx333_6, hx333_7, hx333_8⟩ := at_T44 HR0.out x7_2 p333 q333
      obtain rfl : ad332 = ad333 := (by injection e333)
      replace p333 := eq_true p333
      replace q333 := eq_true q333
      have p334 : 0 ≤ (a1 : Int) := of_decide_eq_true as_
      have q334 : a1 < (l0.length : Int) := of_decide_eq_true as_
      obtain ⟨ad334, e334, hx334_0, hx334_1, hx334_2, hx334_3, hx334_4, hx334_5, hx334_6, hx334_7, hx334_8⟩ := at_T44 HR0.out a1 p334 q334
      obtain rfl : ad332 = ad334 := (by injection e334)
      replace p334 := eq_true p334
      replace q334 := eq_true q334
      have p335 : 0 ≤ (x7_2 : Int) := of_decide_eq_true as_
      have q335 : x7_2 < (l0.length : Int) := of_decide_eq_true as_
      obtain ⟨ad335, e335, hx335_0, hx335_1, hx335_2, hx335_3, hx335_4, hx335_5, hx335_6, hx335_7, hx335_8⟩ := at_T44 HR0.out x7_2 p335 q335
      obtain rfl : ad332 = ad335 := (by injection e335)
      replace p335 := eq_true p335
      replace q335 := eq_true q335
      have p336 : 0 ≤ (x7_2 : Int) := of_decide_eq_true as_
      have q336 : x7_2 < (l0.length : Int) := of_decide_eq_true as_
      obtain ⟨ad336, e336, hx336_0, hx336_1, hx336_2, hx336_3, hx336_4, hx336_5, hx336_6, hx336_7, hx336_8⟩ := at_T44 HR0.out x7_2 p336 q336
      obtain rfl : ad332 = ad336 := (by injection e336)
      replace p336 := eq_true p336
      replace q336 := eq_true q336
      have p337 : 0 ≤ (x7_2 : Int) := of_decide_eq_true as_
      have q337 : x7_2 < (l0.length : Int) := of_decide_eq_true as_
      obtain ⟨ad337, e337, hx337_0, hx337_1, hx337_2, hx337_3, hx337_4, hx337_5, hx337_6, hx337_7, hx337_8⟩ := at_T44 HR0.out x7_2 p337 q337
      obtain rfl : ad332 = ad337 := (by injection e337)
      replace p337 := eq_true p337
      replace q337 := eq_true q337
      have p338 : 0 ≤ (a1 : Int) := of_decide_eq_true as_
      have q338 : a1 < (l0.length : Int) := of_decide_eq_true as_
      obtain ⟨ad338, e338, hx338_0, hx338_1, hx338_2, hx338_3, hx338_4, hx338_5, hx338_6, hx338_7, hx338_8⟩ := at_T44 HR0.out a1 p338 q338
      obtain rfl : ad332 = ad338 := (by injection e338)
      replace p338 := eq_true p338
      replace q338 := eq_true q338
      go_wp2
      repeat (go_quiet (fail); try go_wp2)
      go_ret
      exact ⟨rs_, dR_⟩
     rw [if_neg c17] at H
     have c17b0 : decide (((rd_T44 l0 a1).f2) < ((rd_T44 l0 x7_2).f2)) = false := decide_eq_false c17
     clear c17
     have H' := Aside0.mk H
     clear H
     have p332 : 0 ≤ (x7_2 : Int) := of_decide_eq_true as_
     have q332 : x7_2 < (l0.length : Int) := of_decide_eq_true as_
     obtain ⟨ad332, e332, hx332_0, hx332_1, hx332_2, hx332_3, hx332_4, hx332_5, hx332_6, hx332_7, hx332_8⟩ := at_T44 HR0.out x7_2 p332 q332
     cases e332
     replace p332 := eq_true p332
     replace q332 := eq_true q332
     have p333 : 0 ≤ (x7_2 : Int) := of_decide_eq_true as_
     have q333 : x7_2 < (l0.length : Int) := of_decide_eq_true as_
     obtain ⟨ad333, e333, hx333_0, hx333_1, hx333_2, hx333_3, hx333_4, hx333_5, hx333_6, hx333_7, hx333_8⟩ := at_T44 HR0.out x7_2 p333 q333
     obtain rfl : ad332 = ad333 := (by injection e333)
     replace p333 := eq_true p333
     replace q333 := eq_true q333
     have p334 : 0 ≤ (a1 : Int) := of_decide_eq_true as_
     have q334 : a1 < (l0.length : Int) := of_decide_eq_true as_
     obtain ⟨ad334, e334, hx334_0, hx334_1, hx334_2, hx334_3, hx334_4, hx334_5, hx334_6, hx334_7, hx334_8⟩ := at_T44 HR0.out a1 p334 q334
     obtain rfl : ad332 = ad334 := (by injection e334)
     replace p334 := eq_true p334
     replace q334 := eq_true q334
     have p335 : 0 ≤ (x7_2 : Int) := of_decide_eq_true as_
     have q335 : x7_2 < (l0.length : Int) := of_decide_eq_true as_
     obtain ⟨ad335, e335, hx335_0, hx335_1, hx335_2, hx335_3, hx335_4, hx335_5, hx335_6, hx335_7, hx335_8⟩ := at_T44 HR0.out x7_2 p335 q335
     obtain rfl : ad332 = ad335 := (by injection e335)
     replace p335 := eq_true p335
     replace q335 := eq_true q335
     have p336 : 0 ≤ (x7_2 : Int) := of_decide_eq_true as_
     have q336 : x7_2 < (l0.length : Int) := of_decide_eq_true as_
     obtain ⟨ad336, e336, hx336_0, hx336_1, hx336_2, hx336_3, hx336_4, hx336_5, hx336_6, hx336_7, hx336_8⟩ := at_T44 HR0.out x7_2 p336 q336
     obtain rfl : ad332 = ad336 := (by injection e336)
     replace p336 := eq_true p336
     replace q336 := eq_true q336
     have p337 : 0 ≤ (x7_2 : Int) := of_decide_eq_true as_
     have q337 : x7_2 < (l0.length : Int) := of_decide_eq_true as_
     obtain ⟨ad337, e337, hx337_0, hx337_1, hx337_2, hx337_3, hx337_4, hx337_5, hx337_6, hx337_7, hx337_8⟩ := at_T44 HR0.out x7_2 p337 q337
     obtain rfl : ad332 = ad337 := (by injection e337)
     replace p337 := eq_true p337
     replace q337 := eq_true q337
     have p338 : 0 ≤ (a1 : Int) := of_decide_eq_true as_
     have q338 : a1 < (l0.length : Int) := of_decide_eq_true as_
     obtain ⟨ad338, e338, hx338_0, hx338_1, hx338_2, hx338_3, hx338_4, hx338_5, hx338_6, hx338_7, hx338_8⟩ := at_T44 HR0.out a1 p338 q338
     obtain rfl : ad332 = ad338 := (by injection e338)
     replace p338 := eq_true p338
     replace q338 := eq_true q338
     go_wp2
     repeat (go_quiet (fail); try go_wp2)
     go_roundg k2
     case measure => have := HJ3.out; have := HK2.out; omega
     case rel => exact ⟨(wrap64 (x7_2 + 1)), rs_, hH_, ⟨by have := HJ3.out; have := HK2.out; omega⟩, dR_⟩

/-! ### screeref17_stays: function 37 -/
def screeref17_stays.x (k : Nat) (l : List (S44)) (i s : Int) : Option Bool := if s < (rd_T44 l i).f2 then some true else (screeref17_shows.f k l i s).bind fun b => if b = true then some ((rd_T44 l i).f4.f1 == 1) else some false
def screeref17_stays.go (k : Nat) (l : List (S44)) (i s : Int) : Nat → Int → Option Bool
 | 0, _ => some false
 | n + 1, j => if (rd_T44 l j).f1.toList = (rd_T44 l i).f1.toList then (if (rd_T44 l j).f0 = 1 then (if (rd_T44 l j).f3.f1 = (rd_T44 l i).f2 then some true else screeref17_stays.go k l i s n (j + 1)) else if (rd_T44 l j).f0 = 2 then (if (rd_T44 l j).f4.f1 = 1 then (if (rd_T44 l j).f4.f0 = (rd_T44 l i).f2 then (screeref17_stays.x k l j s).bind fun b => if b = true then some true else screeref17_stays.go k l i s n (j + 1) else screeref17_stays.go k l i s n (j + 1)) else screeref17_stays.go k l i s n (j + 1)) else screeref17_stays.go k l i s n (j + 1)) else screeref17_stays.go k l i s n (j + 1)
def screeref17_stays.f (k : Nat) (l : List (S44)) (i s : Int) : Option Bool := if 0 ≤ i ∧ i < (l.length : Int) then (if (rd_T44 l i).f0 = 2 then screeref17_stays.x k l i s else if (rd_T44 l i).f0 = 3 then screeref17_stays.go k l i s l.length 0 else some true) else none
theorem screeref17_stays.x_mono (k : Nat) (l : List (S44)) (i s : Int) : LeO (screeref17_stays.x k l i s) (screeref17_stays.x (k + 1) l i s) := LeO.ite (LeO.refl _) (LeO.bind (screeref17_shows.mono _ _ _ _) (fun _ => LeO.refl _))
theorem screeref17_stays.go_mono (k : Nat) (l : List (S44)) (i s : Int) : ∀ n j, LeO (screeref17_stays.go k l i s n j) (screeref17_stays.go (k + 1) l i s n j)
 | 0, _ => LeO.refl _
 | n + 1, j => by
  have ih := screeref17_stays.go_mono k l i s n (j + 1)
  exact LeO.ite (LeO.ite (LeO.ite (LeO.refl _) ih) (LeO.ite (LeO.ite (LeO.ite (LeO.bind (screeref17_stays.x_mono _ _ _ _) (fun _ => LeO.ite (LeO.refl _) ih)) ih) ih) ih)) ih
theorem screeref17_stays.mono : ∀ a0 a1 a2 k, LeO (screeref17_stays.f k a0 a1 a2) (screeref17_stays.f (k + 1) a0 a1 a2) := by
 intro a0 a1 a2 k
 exact LeO.ite (LeO.ite (screeref17_stays.x_mono _ _ _ _) (LeO.ite (screeref17_stays.go_mono _ _ _ _ _ _) (LeO.refl _))) (LeO.refl _)
theorem screeref17_stays.far {w w' : World} {a x : Nat} (h : Drawn0 (w.drewN (a + x)) w') : ∃ n, w' = w.drewN (a + n) := by
 obtain ⟨⟨m, hm⟩⟩ := h
 exact ⟨x + m, by rw [hm, World.drewN_drewN, Nat.add_assoc]⟩
set_option maxHeartbeats 6400000 in
set_option maxRecDepth 100000 in
theorem screeref17_stays.callsW (k : Nat) (A0 : Option Addr) (c0 : Nat) (l0 : List (S44)) (a1 a2 : Int) (r : Bool) (w : World) (hr0 : Kd.C k44 w A0 l0.length l0) (hc0 : l0.length ≤ c0) (h0 : 0 ≤ a1) (h1 : a1 < (l0.length : Int)) (h2 : (rd_T44 l0 a1).f0 = 2) (h : screeref17_stays.x k l0 a1 a2 = some r) :
  Calls Try.prog 37 #[.slice A0 l0.length c0, .int .i64 a1, .int .u64 a2] w fun e w' => e = .returned (.bool r) ∧ Drawn0 w w' := by
 have HR0 := Aside0.mk hr0
 have HC0 := Aside0.mk hc0
 clear hr0 hc0
 obtain ⟨ad, e0, hx0, hx1, hx2, hx3, hx4, hx5, hx6, hx7, hx8⟩ := at_T44 HR0.out a1 h0 h1
 rw [h2] at hx0
 cases e0
 have p0 := eq_true h0
 have p1 := eq_true h1
 clear hx1 hx3 hx4 hx5 hx6 hx7 h2
 unfold screeref17_stays.x at h
 by_cases c1 : a2 < (rd_T44 l0 a1).f2
 ·rw [if_pos c1] at h
  obtain rfl := Option.some.inj h
  have d1 : decide (a2 < (rd_T44 l0 a1).f2) = true := decide_eq_true c1
  clear h c1
  go_enter Try.func37, Try.ntmps37
  go_wp2
  go_ret
  exact ⟨rfl, ⟨0, rfl⟩⟩
 rw [if_neg c1] at h
 have d1 : decide (a2 < (rd_T44 l0 a1).f2) = false := decide_eq_false c1
 clear c1
 replace h := Option.bind_eq_some_iff.mp h
 obtain ⟨b, hB, h⟩ := h
 have HS := Lib.hid hB
 clear hB
 cases b with
 | false =>
  obtain rfl := Option.some.inj h
  clear h
  go_enter Try.func37, Try.ntmps37
  go_wp2_with (go_at_call 50; (refine (screeref17_shows.calls k _ c0 l0 a1 a2 false _ (Kd.C_drewN HR0.out 0) HC0.out HS.out).mono ?_); rintro e w1 ⟨rfl, ⟨nd, rfl⟩⟩)
  go_ret
  exact ⟨rfl, ⟨⟨nd, rfl⟩⟩⟩
 | true =>
  rw [if_pos rfl] at h
  obtain rfl := Option.some.inj h
  clear h
  go_enter Try.func37, Try.ntmps37
  go_wp2_with (go_at_call 50; (refine (screeref17_shows.calls k _ c0 l0 a1 a2 true _ (Kd.C_drewN HR0.out 0) HC0.out HS.out).mono ?_); rintro e w1 ⟨rfl, ⟨nd, rfl⟩⟩)
  go_ret
  exact ⟨rfl, ⟨⟨nd, rfl⟩⟩⟩
set_option maxHeartbeats 6400000 in
set_option maxRecDepth 100000 in
theorem screeref17_stays.calls (k : Nat) (A0 : Option Addr) (c0 : Nat) (l0 : List (S44)) (a1 a2 : Int) (r : Bool) (w : World) (hr0 : Kd.C k44 w A0 l0.length l0) (hc0 : l0.length ≤ c0) (h : screeref17_stays.f k l0 a1 a2 = some r) :
  Calls Try.prog 37 #[.slice A0 l0.length c0, .int .i64 a1, .int .u64 a2] w fun e w' => e = .returned (.bool r) ∧ Drawn0 w w' := by
 unfold screeref17_stays.f at h
 by_cases hin : 0 ≤ a1 ∧ a1 < (l0.length : Int)
 case neg => rw [if_neg hin] at h; exact absurd h r34_
 rw [if_pos hin] at h
 obtain ⟨h0, h1⟩ := hin
 by_cases h2 : (rd_T44 l0 a1).f0 = 2
 ·rw [if_pos h2] at h
  exact screeref17_stays.callsW k A0 c0 l0 a1 a2 r w hr0 hc0 h0 h1 h2 h
 rw [if_neg h2] at h
 have HR0 := Aside0.mk hr0
 have HC0 := Aside0.mk hc0
 have hmx0 := Lib.hid (Kd.C_max hr0)
 clear hr0 hc0
 obtain ⟨ad, e0, hx0, hx1, hx2, hx3, hx4, hx5, hx6, hx7, hx8⟩ := at_T44 HR0.out a1 h0 h1
 cases e0
 have p0 := eq_true h0
 have p1 := eq_true h1
 clear hx3 hx4 hx5 hx6 hx7 hx8
 have e2 : ((rd_T44 l0 a1).f0 == 2) = false := beq_eq_false_iff_ne.mpr h2
 by_cases h3 : (rd_T44 l0 a1).f0 = 3
 case neg =>
  rw [if_neg h3] at h
  obtain rfl := Option.some.inj h
  have e3 : ((rd_T44 l0 a1).f0 != 3) = true := bne_iff_ne.mpr h3
  have e3b : ((rd_T44 l0 a1).f0 == 3) = false := beq_eq_false_iff_ne.mpr h3
  clear h h2 h3
  go_enter Try.func37, Try.ntmps37
  go_wp2
  go_ret
  exact ⟨rfl, ⟨⟨0, rfl⟩⟩⟩
 rw [if_pos h3] at h
 rw [h3] at hx0 e2
 have HG := Lib.hid h
 clear h h2 h3
 go_enter Try.func37, Try.ntmps37
 go_wp2_with (fail)
 go_loopg [7] l0.length (fun kq v7 w' => ∃ (j : Nat), v7 = .int .i64 (j : Int) ∧ Aside0 (kq + j = l0.length) ∧ Aside0 (screeref17_stays.go k l0 a1 a2 kq (j : Int) = some r) ∧ Drawn0 w w')
 case atStart => exact ⟨0, rfl, ⟨r37_⟩, ⟨HG.out⟩, ⟨⟨0, rfl⟩⟩⟩
 case round =>
  clear HG
  obtain ⟨j, rfl, HJ, HG, ⟨nd, rfl⟩⟩ := hrel
  by_cases hlt : j < l0.length
  case neg =>
   have hj : gk = 0 := by have := HJ.out; omega
   subst hj
   have hg := HG.out
   unfold screeref17_stays.go at hg
   obtain rfl := Option.some.inj hg
   have dl : decide ((j : Int) < (l0.length : Int)) = false := decide_eq_false r37_
   clear hg HG
   go_wp2
   go_ret
   exact ⟨rfl, ⟨⟨nd, rfl⟩⟩⟩
  have hkg : ∃ k1, gk = k1 + 1 := ⟨gk - 1, by have := HJ.out; omega⟩
  obtain ⟨k1, rfl⟩ := hkg
  have hmx := hmx0.out
  have dl : decide ((j : Int) < (l0.length : Int)) = true := decide_eq_true r37_
  have hg := HG.out
  unfold screeref17_stays.go at hg
  clear HG
  have q0 : (0 : Int) ≤ (j : Int) := by omega
  have q1 : (j : Int) < (l0.length : Int) := by omega
  obtain ⟨ad', e0', hy0, hy1, hy2, hy3, hy4, hy5, hy6, hy7, hy8⟩ := at_T44 HR0.out (j : Int) q0 q1
  obtain rfl : ad = ad' := Option.some.inj e0'
  have htn : ((j : Int)).toNat = j := by omega
  rw [htn] at hy0 hy1 hy4 hy7 hy8
  clear htn
  clear e0' hy2 hy3 hy5 hy6
  by_cases HH : (rd_T44 l0 (j : Int)).f1.toList = (rd_T44 l0 a1).f1.toList
  case neg =>
   rw [if_neg HH] at hg
   have u1 : ((rd_T44 l0 (j : Int)).f1.toList == (rd_T44 l0 a1).f1.toList) = false := beq_eq_false_iff_ne.mpr HH
   have u1n : ((rd_T44 l0 (j : Int)).f1.toList != (rd_T44 l0 a1).f1.toList) = true := bne_iff_ne.mpr HH
   clear HH
   have HN := Lib.hid hg
   clear hg
   go_wp2_with (fail)
   repeat (go_big_quiet (fail); go_wp2_with (fail))
   go_roundg k1
   case measure => omega
   case rel => exact ⟨j + 1, by go_num, ⟨by have := HJ.out; omega⟩, ⟨by push_cast; exact HN.out⟩, dR_⟩
  rw [if_pos HH] at hg
  have u1 : ((rd_T44 l0 (j : Int)).f1.toList == (rd_T44 l0 a1).f1.toList) = true := beq_iff_eq.mpr HH
  have u1n : ((rd_T44 l0 (j : Int)).f1.toList != (rd_T44 l0 a1).f1.toList) = false := bne_eq_false_iff_eq.mpr HH
  clear HH
  by_cases HH : (rd_T44 l0 (j : Int)).f0 = 1
  case pos =>
   rw [if_pos HH] at hg
   have u2 : ((rd_T44 l0 (j : Int)).f0 == 1) = true := beq_iff_eq.mpr HH
   have u2n : ((rd_T44 l0 (j : Int)).f0 != 1) = false := bne_eq_false_iff_eq.mpr HH
   have u3 : ((rd_T44 l0 (j : Int)).f0 == 2) = false := by rw [HH]; rfl
   clear HH
   by_cases HH : (rd_T44 l0 (j : Int)).f3.f1 = (rd_T44 l0 a1).f2
   case pos =>
    rw [if_pos HH] at hg
    have u4 : ((rd_T44 l0 (j : Int)).f3.f1 == (rd_T44 l0 a1).f2) = true := beq_iff_eq.mpr HH
    have u4n : ((rd_T44 l0 (j : Int)).f3.f1 != (rd_T44 l0 a1).f2) = false := bne_eq_false_iff_eq.mpr HH
    clear HH
    obtain rfl := Option.some.inj hg
    clear hg
    go_wp2_with (fail)
    repeat (go_big_quiet (fail); go_wp2_with (fail))
    go_ret
    exact ⟨rfl, dR_⟩
   rw [if_neg HH] at hg
   have u4 : ((rd_T44 l0 (j : Int)).f3.f1 == (rd_T44 l0 a1).f2) = false := beq_eq_false_iff_ne.mpr HH
   have u4n : ((rd_T44 l0 (j : Int)).f3.f1 != (rd_T44 l0 a1).f2) = true := bne_iff_ne.mpr HH
   clear HH
   have HN := Lib.hid hg
   clear hg
   go_wp2_with (fail)
   repeat (go_big_quiet (fail); go_wp2_with (fail))
   go_roundg k1
   case measure => omega
   case rel => exact ⟨j + 1, by go_num, ⟨by have := HJ.out; omega⟩, ⟨by push_cast; exact HN.out⟩, dR_⟩
  rw [if_neg HH] at hg
  have u2 : ((rd_T44 l0 (j : Int)).f0 == 1) = false := beq_eq_false_iff_ne.mpr HH
  have u2n : ((rd_T44 l0 (j : Int)).f0 != 1) = true := bne_iff_ne.mpr HH
  clear HH
  by_cases HH : (rd_T44 l0 (j : Int)).f0 = 2
  case neg =>
   rw [if_neg HH] at hg
   have u3 : ((rd_T44 l0 (j : Int)).f0 == 2) = false := beq_eq_false_iff_ne.mpr HH
   have u3n : ((rd_T44 l0 (j : Int)).f0 != 2) = true := bne_iff_ne.mpr HH
   clear HH
   have HN := Lib.hid hg
   clear hg
   go_wp2_with (fail)
   repeat (go_big_quiet (fail); go_wp2_with (fail))
   go_roundg k1
   case measure => omega
   case rel => exact ⟨j + 1, by go_num, ⟨by have := HJ.out; omega⟩, ⟨by push_cast; exact HN.out⟩, dR_⟩
  rw [if_pos HH] at hg
  have H2 := Lib.hid HH
  have u3 : ((rd_T44 l0 (j : Int)).f0 == 2) = true := beq_iff_eq.mpr HH
  have u3n : ((rd_T44 l0 (j : Int)).f0 != 2) = false := bne_eq_false_iff_eq.mpr HH
  clear HH
  by_cases HH : (rd_T44 l0 (j : Int)).f4.f1 = 1
  case neg =>
   rw [if_neg HH] at hg
   have u5 : ((rd_T44 l0 (j : Int)).f4.f1 == 1) = false := beq_eq_false_iff_ne.mpr HH
   have u5n : ((rd_T44 l0 (j : Int)).f4.f1 != 1) = true := bne_iff_ne.mpr HH
   clear HH
   have HN := Lib.hid hg
   clear hg
   go_wp2_with (fail)
   repeat (go_big_quiet (fail); go_wp2_with (fail))
   go_roundg k1
   case measure => omega
   case rel => exact ⟨j + 1, by go_num, ⟨by have := HJ.out; omega⟩, ⟨by push_cast; exact HN.out⟩, dR_⟩
  rw [if_pos HH] at hg
  have u5 : ((rd_T44 l0 (j : Int)).f4.f1 == 1) = true := beq_iff_eq.mpr HH
  have u5n : ((rd_T44 l0 (j : Int)).f4.f1 != 1) = false := bne_eq_false_iff_eq.mpr HH
  clear HH
  by_cases HH : (rd_T44 l0 (j : Int)).f4.f0 = (rd_T44 l0 a1).f2
  case neg =>
   rw [if_neg HH] at hg
   have u6 : ((rd_T44 l0 (j : Int)).f4.f0 == (rd_T44 l0 a1).f2) = false := beq_eq_false_iff_ne.mpr HH
   have u6n : ((rd_T44 l0 (j : Int)).f4.f0 != (rd_T44 l0 a1).f2) = true := bne_iff_ne.mpr HH
   clear HH
   have HN := Lib.hid hg
   clear hg
   go_wp2_with (fail)
   repeat (go_big_quiet (fail); go_wp2_with (fail))
   go_roundg k1
   case measure => omega
   case rel => exact ⟨j + 1, by go_num, ⟨by have := HJ.out; omega⟩, ⟨by push_cast; exact HN.out⟩, dR_⟩
  rw [if_pos HH] at hg
  have u6 : ((rd_T44 l0 (j : Int)).f4.f0 == (rd_T44 l0 a1).f2) = true := beq_iff_eq.mpr HH
  have u6n : ((rd_T44 l0 (j : Int)).f4.f0 != (rd_T44 l0 a1).f2) = false := bne_eq_false_iff_eq.mpr HH
  clear HH
  replace hg := Option.bind_eq_some_iff.mp hg
  obtain ⟨b, hB, hg⟩ := hg
  have HXX := Lib.hid hB
  clear hB
  have HLT := Lib.hid hlt
  cases b with
  | false =>
   rw [if_neg r34_] at hg
   have HN := Lib.hid hg
   clear hg
   go_wp2_with (fail)
   repeat (go_big_quiet (first | (go_at_call 37; exact (screeref17_stays.callsW k (some ad) c0 l0 (j : Int) a2 false _ (Kd.C_drewN HR0.out _) HC0.out r37_ (by have := HLT.out; omega) H2.out HXX.out).mono (fun _ _ h_ => ⟨h_.1, screeref17_stays.far h_.2⟩))); go_wp2_with (fail))
   go_roundg k1
   case measure => omega
   case rel => exact ⟨j + 1, by go_num, ⟨by have := HJ.out; omega⟩, ⟨by push_cast; exact HN.out⟩, dR_⟩
  | true =>
   rw [if_pos rfl] at hg
   obtain rfl := Option.some.inj hg
   clear hg
   go_wp2_with (fail)
   repeat (go_big_quiet (first | (go_at_call 37; exact (screeref17_stays.callsW k (some ad) c0 l0 (j : Int) a2 true _ (Kd.C_drewN HR0.out _) HC0.out r37_ (by have := HLT.out; omega) H2.out HXX.out).mono (fun _ _ h_ => ⟨h_.1, screeref17_stays.far h_.2⟩))); go_wp2_with (fail))
   go_ret
   exact ⟨rfl, dR_⟩

end Go.Proofs.Ytcdadhgcjkgnoaa.P
