-- Printed by a program of this session's own (wip/tools/pprint.sh, over the kit's print, with given contracts): not typed by hand.
import Derived.Test.YtgdkikkjaofbfaaPx0
namespace Go.Proofs.Ytgdkikkjaofbfaa.P
open Go.RowKit Go.Proofs.YtgdkikkjaofbfaaW.PrintWords Go.Proofs.YtgdkikkjaofbfaaW.PrintLast Go.Proofs.YtgdkikkjaofbfaaW.PrintMore
attribute [local go_sem] max2_int min2_int max_two min_two max_three min_three max_four min_four   -- for this text's walks alone
set_option linter.unusedVariables false
set_option linter.unusedSimpArgs false
-- SQUEEZED3

/-! ### screelaw11_large: function 11 -/
mutual
def screelaw11_large.j0 : Nat → List (S37) → Bool → Option (Bool)
 | 0, _, _ => none
 | k + 1, x0, x11 => if x11 = true then (some true) else (screelaw11_large.l0 k x0 0)
def screelaw11_large.l0 : Nat → List (S37) → Int → Option (Bool)
 | 0, _, _ => none
 | k + 1, x0, x3 => if x3 < (x0.length : Int) then (screelaw11_large.j2 k x0 x3 (decide (x3 ≤ 500))) else (screelaw11_large.j2 k x0 x3 false)
def screelaw11_large.j2 : Nat → List (S37) → Int → Bool → Option (Bool)
 | 0, _, _, _ => none
 | k + 1, x0, x3, x19 => if x19 = true then (if 0 ≤ x3 then (if x3 < (x0.length : Int) then (if (((rd_T37 x0 x3).f0).size : Int) > 300 then (some true) else (if (((rd_T37 x0 x3).f3).size : Int) > 300 then (some true) else (screelaw11_large.l0 k x0 (wrap64 (x3 + 1))))) else (none)) else (none)) else (some false)
end
def screelaw11_large.f (k : Nat) (l0 : List (S37)) : Option (Bool) := if (l0.length : Int) > 80 then (screelaw11_large.j0 k l0 (decide ((l0.length : Int) ≤ 500))) else (screelaw11_large.j0 k l0 false)
theorem screelaw11_large.mono_l : ∀ k, (∀ y0 y1, LeO (screelaw11_large.j0 k y0 y1) (screelaw11_large.j0 (k + 1) y0 y1)) ∧ (∀ y0 y1, LeO (screelaw11_large.l0 k y0 y1) (screelaw11_large.l0 (k + 1) y0 y1)) ∧ (∀ y0 y1 y2, LeO (screelaw11_large.j2 k y0 y1 y2) (screelaw11_large.j2 (k + 1) y0 y1 y2))
 | 0 => ⟨fun _ _ r h => by simp [screelaw11_large.j0] at h, fun _ _ r h => by simp [screelaw11_large.l0] at h, fun _ _ _ r h => by simp [screelaw11_large.j2] at h⟩
 | k + 1 => by
  obtain ⟨ih0, ih1, ih2⟩ := screelaw11_large.mono_l k
  refine ⟨?_, ?_, ?_⟩
  ·intro y0 y1
   unfold screelaw11_large.j0
   repeat' first
   | (with_reducible exact ih0 _ _)
   | (with_reducible exact ih1 _ _)
   | (with_reducible exact ih2 _ _ _)
   | (with_reducible exact LeO.refl _)
   | (with_reducible exact LeO.none _)
   | (with_reducible refine LeO.ite ?_ ?_)
   | (with_reducible refine LeO.bind ?_ (fun _ => ?_))
   | exact ih0 _ _
   | exact ih1 _ _
   | exact ih2 _ _ _
   | exact LeO.none _
   | refine LeO.ite ?_ ?_
   | refine LeO.bind ?_ (fun _ => ?_)
  ·intro y0 y1
   unfold screelaw11_large.l0
   repeat' first
   | (with_reducible exact ih0 _ _)
   | (with_reducible exact ih1 _ _)
   | (with_reducible exact ih2 _ _ _)
   | (with_reducible exact LeO.refl _)
   | (with_reducible exact LeO.none _)
   | (with_reducible refine LeO.ite ?_ ?_)
   | (with_reducible refine LeO.bind ?_ (fun _ => ?_))
   | exact ih0 _ _
   | exact ih1 _ _
   | exact ih2 _ _ _
   | exact LeO.none _
   | refine LeO.ite ?_ ?_
   | refine LeO.bind ?_ (fun _ => ?_)
  ·intro y0 y1 y2
   unfold screelaw11_large.j2
   repeat' first
   | (with_reducible exact ih0 _ _)
   | (with_reducible exact ih1 _ _)
   | (with_reducible exact ih2 _ _ _)
   | (with_reducible exact LeO.refl _)
   | (with_reducible exact LeO.none _)
   | (with_reducible refine LeO.ite ?_ ?_)
   | (with_reducible refine LeO.bind ?_ (fun _ => ?_))
   | exact ih0 _ _
   | exact ih1 _ _
   | exact ih2 _ _ _
   | exact LeO.none _
   | refine LeO.ite ?_ ?_
   | refine LeO.bind ?_ (fun _ => ?_)
theorem screelaw11_large.mono : ∀ a0 k, LeO (screelaw11_large.f k a0) (screelaw11_large.f (k + 1) a0) := by
 intro a0 k
 obtain ⟨ih0, ih1, ih2⟩ := screelaw11_large.mono_l k
 unfold screelaw11_large.f
 repeat' first
   | (with_reducible exact ih0 _ _)
   | (with_reducible exact ih1 _ _)
   | (with_reducible exact ih2 _ _ _)
   | (with_reducible exact LeO.refl _)
   | (with_reducible exact LeO.none _)
   | (with_reducible refine LeO.ite ?_ ?_)
   | (with_reducible refine LeO.bind ?_ (fun _ => ?_))
   | exact ih0 _ _
   | exact ih1 _ _
   | exact ih2 _ _ _
   | exact LeO.none _
   | refine LeO.ite ?_ ?_
   | refine LeO.bind ?_ (fun _ => ?_)
set_option maxHeartbeats 8000000 in
set_option maxRecDepth 100000 in
theorem screelaw11_large.calls (k : Nat) (A0 : Option Addr) (c0 : Nat) (l0 : List (S37)) (r : Bool) (w : World) (hr0 : Kd.C k37 w A0 l0.length l0) (hc0 : l0.length ≤ c0) (h : screelaw11_large.f k l0 = some r) :
  Calls Try.prog 11 #[.slice A0 l0.length c0] w fun e w' => e = .returned (.bool r) ∧ Drawn0 w w' := by
 have HR0 := Aside0.mk hr0
 have HC0 := Aside0.mk hc0
 clear hr0 hc0
 have H : (if (l0.length : Int) > 80 then (screelaw11_large.j0 k l0 (decide ((l0.length : Int) ≤ 500))) else (screelaw11_large.j0 k l0 false)) = some r := h
 clear h
 have HC2 := Aside0.mk H
 clear H
 go_enter Try.func11, Try.ntmps11
 go_upto_region 1 with (fail)
 go_cut [11] (fun v11 wc => ∃ (kq : Nat) (x11_1 : Bool), v11 = .bool x11_1 ∧ Aside0 (screelaw11_large.j0 kq l0 x11_1 = some r) ∧ Aside0 (kq ≤ k) ∧ Drawn0 w wc)
 case first =>
  have H := HC2.out
  clear HC2
  by_cases c3 : (l0.length : Int) > 80
  ·rw [if_pos c3] at H
   have c3b0 : decide (80 < (l0.length : Int)) = true := decide_eq_true c3
   have c3b1 : decide (80 < l0.length) = true := decide_eq_true r17_
   clear c3
   (first | rw [c3b0] | (simp only [i64_w, i32_w]; rw [c3b0]) | skip)
   have H' := Aside0.mk H
   clear H
   go_wp2
   go_meet
   case rel => exact ⟨_, (decide ((l0.length : Int) ≤ 500)), rs_, hH_, ⟨by first | omega | exact Nat.le_refl _⟩, dR_⟩
  rw [if_neg c3] at H
  have c3b0 : decide (80 < (l0.length : Int)) = false := decide_eq_false c3
  have c3b1 : decide (80 < l0.length) = false := decide_eq_false r17_
  clear c3
  (first | rw [c3b0] | (simp only [i64_w, i32_w]; rw [c3b0]) | skip)
  have H' := Aside0.mk H
  clear H
  go_wp2
  go_meet
  case rel => exact ⟨_, (false), rs_, hH_, ⟨by first | omega | exact Nat.le_refl _⟩, dR_⟩
 case rest =>
  clear HC2
  obtain ⟨kq, x11_1, rfl, HA, HJ1, ⟨mc1, rfl⟩⟩ := hcut
  cases kq with
  | zero => exact absurd HA.out (by simp [screelaw11_large.j0])
  | succ kj1 =>
   have H := HA.out
   clear HA
   simp only [screelaw11_large.j0] at H
   by_cases c4 : x11_1 = true
   ·subst c4
    rw [if_pos rfl] at H
    obtain rfl := Option.some.inj H
    go_wp2
    go_ret
    exact ⟨rs_, dR_⟩
   replace c4 := Bool.eq_false_iff.mpr c4
   subst c4
   rw [if_neg ff_] at H
   have H' := Aside0.mk H
   clear H
   go_wp2
   go_loopg [3] kj1 (fun kq v3 w' => ∃ (x3_2 : Int), v3 = .int .i64 x3_2 ∧ Aside0 (screelaw11_large.l0 kq l0 x3_2 = some r) ∧ Aside0 (kq ≤ kj1) ∧ Drawn0 w w')
   case atStart => exact ⟨(0), rs_, H', ⟨Nat.le_refl _⟩, dR_⟩
   case round =>
    clear H'
    try clear c4
    obtain ⟨x3_2, rfl, HA, HK2, ⟨m2, rfl⟩⟩ := hrel
    cases gk with
    | zero => exact absurd HA.out (by simp [screelaw11_large.l0])
    | succ k2 =>
     have H := HA.out
     clear HA
     simp only [screelaw11_large.l0] at H
     have HC5 := Aside0.mk H
     clear H
     go_upto_region 4 with (fail)
     go_cut [19] (fun v19 wc => ∃ (kq : Nat) (x19_4 : Bool), v19 = .bool x19_4 ∧ Aside0 (screelaw11_large.j2 kq l0 x3_2 x19_4 = some r) ∧ Aside0 (kq ≤ k2) ∧ Drawn0 w wc)
     case first =>
      have H := HC5.out
      clear HC5
      by_cases c6 : x3_2 < (l0.length : Int)
      ·rw [if_pos c6] at H
       have c6b0 := decide_eq_true c6
       clear c6
       (first | rw [c6b0] | (simp only [i64_w, i32_w]; rw [c6b0]) | skip)
       have H' := Aside0.mk H
       clear H
       go_wp2
       go_meet
       case rel => exact ⟨_, (decide (x3_2 ≤ 500)), rs_, hH_, ⟨by have := HJ1.out; have := HK2.out; first | omega | exact Nat.le_refl _⟩, dR_⟩
      rw [if_neg c6] at H
      have c6b0 := decide_eq_false c6
      clear c6
      (first | rw [c6b0] | (simp only [i64_w, i32_w]; rw [c6b0]) | skip)
      have H' := Aside0.mk H
      clear H
      go_wp2
      go_meet
      case rel => exact ⟨_, (false), rs_, hH_, ⟨by have := HJ1.out; have := HK2.out; first | omega | exact Nat.le_refl _⟩, dR_⟩
     case rest =>
      clear HC5
      try clear c4
      obtain ⟨kq, x19_4, rfl, HA, HJ4, ⟨mc4, rfl⟩⟩ := hcut
      cases kq with
      | zero => exact absurd HA.out (by simp [screelaw11_large.j2])
      | succ kj4 =>
       have H := HA.out
       clear HA
       simp only [screelaw11_large.j2] at H
       by_cases c7 : x19_4 = true
       rotate_left
       ·replace c7 := Bool.eq_false_iff.mpr c7
        subst c7
        rw [if_neg ff_] at H
        obtain rfl := Option.some.inj H
        go_wp2
        go_ret
        exact ⟨rs_, dR_⟩
       subst c7
       rw [if_pos rfl] at H
       by_cases c8 : 0 ≤ x3_2
       rotate_left
       ·rw [if_neg c8] at H
        exact absurd H r19_
       rw [if_pos c8] at H
       have c8b0 := decide_eq_true c8
       clear c8
       by_cases c9 : x3_2 < (l0.length : Int)
       rotate_left
       ·rw [if_neg c9] at H
        exact absurd H r19_
       rw [if_pos c9] at H
       have c9b0 := decide_eq_true c9
       clear c9
       by_cases c10 : (((rd_T37 l0 x3_2).f0).size : Int) > 300
       ·rw [if_pos c10] at H
        have c10b0 : decide (300 < (((rd_T37 l0 x3_2).f0).size : Int)) = true := decide_eq_true c10
        have c10b1 : decide (300 < ((rd_T37 l0 x3_2).f0).size) = true := decide_eq_true r17_
        clear c10
        obtain rfl := Option.some.inj H
        have p204 : 0 ≤ (x3_2 : Int) := of_decide_eq_true as_
        have q204 : x3_2 < (l0.length : Int) := of_decide_eq_true as_
        obtain ⟨ad204, e204, hx204_0, hx204_1, hx204_2, hx204_3⟩ := at_T37 HR0.out x3_2 p204 q204
        cases e204
        replace p204 := eq_true p204
        replace q204 := eq_true q204
        go_wp2
        go_ret
        exact ⟨rs_, dR_⟩
       rw [if_neg c10] at H
       have c10b0 : decide (300 < (((rd_T37 l0 x3_2).f0).size : Int)) = false := decide_eq_false c10
       have c10b1 : decide (300 < ((rd_T37 l0 x3_2).f0).size) = false := decide_eq_false r17_
       clear c10
       by_cases c11 : (((rd_T37 l0 x3_2).f3).size : Int) > 300
       ·rw [if_pos c11] at H
        have c11b0 : decide (300 < (((rd_T37 l0 x3_2).f3).size : Int)) = true := decide_eq_true c11
        have c11b1 : decide (300 < ((rd_T37 l0 x3_2).f3).size) = true := decide_eq_true r17_
        clear c11
        obtain rfl := Option.some.inj H
        have p204 : 0 ≤ (x3_2 : Int) := of_decide_eq_true as_
        have q204 : x3_2 < (l0.length : Int) := of_decide_eq_true as_
        obtain ⟨ad204, e204, hx204_0, hx204_1, hx204_2, hx204_3⟩ := at_T37 HR0.out x3_2 p204 q204
        cases e204
        replace p204 := eq_true p204
        replace q204 := eq_true q204
        have p205 : 0 ≤ (x3_2 : Int) := of_decide_eq_true as_
        have q205 : x3_2 < (l0.length : Int) := of_decide_eq_true as_
        obtain ⟨ad205, e205, hx205_0, hx205_1, hx205_2, hx205_3⟩ := at_T37 HR0.out x3_2 p205 q205
        obtain rfl : ad204 = ad205 := (by injection e205)
        replace p205 := eq_true p205
        replace q205 := eq_true q205
        go_wp2
        go_ret
        exact ⟨rs_, dR_⟩
       rw [if_neg c11] at H
       have c11b0 : decide (300 < (((rd_T37 l0 x3_2).f3).size : Int)) = false := decide_eq_false c11
       have c11b1 : decide (300 < ((rd_T37 l0 x3_2).f3).size) = false := decide_eq_false r17_
       clear c11
       have H' := Aside0.mk H
       clear H
       have p204 : 0 ≤ (x3_2 : Int) := of_decide_eq_true as_
       have q204 : x3_2 < (l0.length : Int) := of_decide_eq_true as_
       obtain ⟨ad204, e204, hx204_0, hx204_1, hx204_2, hx204_3⟩ := at_T37 HR0.out x3_2 p204 q204
       cases e204
       replace p204 := eq_true p204
       replace q204 := eq_true q204
       have p205 : 0 ≤ (x3_2 : Int) := of_decide_eq_true as_
       have q205 : x3_2 < (l0.length : Int) := of_decide_eq_true as_
       obtain ⟨ad205, e205, hx205_0, hx205_1, hx205_2, hx205_3⟩ := at_T37 HR0.out x3_2 p205 q205
       obtain rfl : ad204 = ad205 := (by injection e205)
       replace p205 := eq_true p205
       replace q205 := eq_true q205
       go_wp2
       go_roundg kj4
       case measure => have := HJ1.out; have := HK2.out; have := HJ4.out; omega
       case rel => exact ⟨(wrap64 (x3_2 + 1)), rs_, hH_, ⟨by have := HJ1.out; have := HK2.out; have := HJ4.out; omega⟩, dR_⟩

end Go.Proofs.Ytgdkikkjaofbfaa.P
