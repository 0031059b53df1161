-- Printed by a program of this session's own (wip/tools/pprint.sh, over the kit's print, with given contracts): not typed by hand.
import Derived.Test.YtcdadhgcjkgnoaaPx0
import Derived.Test.YtcdadhgcjkgnoaaPx9
namespace Go.Proofs.Ytcdadhgcjkgnoaa.P
open Go.RowKit Go.Proofs.YtcdadhgcjkgnoaaW.PrintWords Go.Proofs.YtcdadhgcjkgnoaaW.PrintLast Go.Proofs.YtcdadhgcjkgnoaaW.PrintMore
set_option linter.unusedVariables false
set_option linter.unusedSimpArgs false
-- SQUEEZED3

/-! ### screelaw17_large: function 11 -/
def screelaw17_large.l0 : Nat → List (S47) → Int → Int → Option (Bool)
 | 0, _, _, _ => none
 | k + 1, x0, x8, x9 => if x9 < x8 then (if 0 ≤ x9 then (if x9 < (x0.length : Int) then (if (((rd_T47 x0 x9).f0).size : Int) > 300 then (some true) else (if (((rd_T47 x0 x9).f3).size : Int) > 300 then (some true) else (screelaw17_large.l0 k x0 x8 (wrap64 (x9 + 1))))) else (none)) else (none)) else (some false)
def screelaw17_large.f (k : Nat) (l0 : List (S47)) : Option (Bool) := if (l0.length : Int) > 80 then (some true) else (screelaw17_large.l0 k l0 (l0.length : Int) 0)
theorem screelaw17_large.mono_l : ∀ k, (∀ y0 y1 y2, LeO (screelaw17_large.l0 k y0 y1 y2) (screelaw17_large.l0 (k + 1) y0 y1 y2))
 | 0 => fun _ _ _ r h => by simp [screelaw17_large.l0] at h
 | k + 1 => by
  have ih0 := screelaw17_large.mono_l k
  ·intro y0 y1 y2
   unfold screelaw17_large.l0
   repeat' first
   | (with_reducible exact ih0 _ _ _)
   | (with_reducible exact LeO.refl _)
   | (with_reducible exact LeO.none _)
   | (with_reducible refine LeO.ite ?_ ?_)
   | (with_reducible refine LeO.bind ?_ (fun _ => ?_))
   | exact ih0 _ _ _
   | exact LeO.none _
   | refine LeO.ite ?_ ?_
   | refine LeO.bind ?_ (fun _ => ?_)
theorem screelaw17_large.mono : ∀ a0 k, LeO (screelaw17_large.f k a0) (screelaw17_large.f (k + 1) a0) := by
 intro a0 k
 have ih0 := screelaw17_large.mono_l k
 unfold screelaw17_large.f
 repeat' first
   | (with_reducible exact ih0 _ _ _)
   | (with_reducible exact LeO.refl _)
   | (with_reducible exact LeO.none _)
   | (with_reducible refine LeO.ite ?_ ?_)
   | (with_reducible refine LeO.bind ?_ (fun _ => ?_))
   | exact ih0 _ _ _
   | exact LeO.none _
   | refine LeO.ite ?_ ?_
   | refine LeO.bind ?_ (fun _ => ?_)
set_option maxHeartbeats 8000000 in
set_option maxRecDepth 100000 in
theorem screelaw17_large.calls (k : Nat) (A0 : Option Addr) (c0 : Nat) (l0 : List (S47)) (r : Bool) (w : World) (hr0 : Kd.C k47 w A0 l0.length l0) (hc0 : l0.length ≤ c0) (h : screelaw17_large.f k l0 = some r) :
  Calls Try.prog 11 #[.slice A0 l0.length c0] w fun e w' => e = .returned (.bool r) ∧ Drawn0 w w' := by
 have HR0 := Aside0.mk hr0
 have HC0 := Aside0.mk hc0
 clear hr0 hc0
 have H : (if (l0.length : Int) > 80 then (some true) else (screelaw17_large.l0 k l0 (l0.length : Int) 0)) = some r := h
 clear h
 by_cases c2 : (l0.length : Int) > 80
 ·rw [if_pos c2] at H
  have c2b0 : decide (80 < (l0.length : Int)) = true := decide_eq_true c2
  have c2b1 : decide (80 < l0.length) = true := decide_eq_true r37_
  clear c2
  obtain rfl := Option.some.inj H
  go_enter Try.func11, Try.ntmps11
  go_wp2
  go_ret
  exact ⟨rs_, dR_⟩
 rw [if_neg c2] at H
 have c2b0 : decide (80 < (l0.length : Int)) = false := decide_eq_false c2
 have c2b1 : decide (80 < l0.length) = false := decide_eq_false r37_
 clear c2
 have H' := Aside0.mk H
 clear H
 go_enter Try.func11, Try.ntmps11
 go_wp2
 go_loopg [9] k (fun kq v9 w' => ∃ (x9_1 : Int), v9 = .int .i64 x9_1 ∧ Aside0 (screelaw17_large.l0 kq l0 (l0.length : Int) x9_1 = some r) ∧ Aside0 (kq ≤ k) ∧ Drawn0 w w')
 case atStart => exact ⟨(0), rs_, H', ⟨Nat.le_refl _⟩, dR_⟩
 case round =>
  clear H'
  try clear c2
  try clear c2b0
  try clear c2b1
  obtain ⟨x9_1, rfl, HA, HK1, ⟨m1, rfl⟩⟩ := hrel
  cases gk with
  | zero => exact absurd HA.out (by simp [screelaw17_large.l0])
  | succ k1 =>
   have H := HA.out
   clear HA
   simp only [screelaw17_large.l0] at H
   by_cases c3 : x9_1 < (l0.length : Int)
   rotate_left
   ·rw [if_neg c3] at H
    have c3b0 := decide_eq_false c3
    clear c3
    obtain rfl := Option.some.inj H
    go_wp2
    go_ret
    exact ⟨rs_, dR_⟩
   rw [if_pos c3] at H
   have c3b0 := decide_eq_true c3
   clear c3
   by_cases c4 : 0 ≤ x9_1
   rotate_left
   ·rw [if_neg c4] at H
    exact absurd H r34_
   rw [if_pos c4] at H
   have c4b0 := decide_eq_true c4
   clear c4
   by_cases c5 : x9_1 < (l0.length : Int)
   rotate_left
   ·rw [if_neg c5] at H
    exact absurd H r34_
   rw [if_pos c5] at H
   have c5b0 := decide_eq_true c5
   clear c5
   by_cases c6 : (((rd_T47 l0 x9_1).f0).size : Int) > 300
   ·rw [if_pos c6] at H
    have c6b0 : decide (300 < (((rd_T47 l0 x9_1).f0).size : Int)) = true := decide_eq_true c6
    have c6b1 : decide (300 < ((rd_T47 l0 x9_1).f0).size) = true := decide_eq_true r37_
    clear c6
    obtain rfl := Option.some.inj H
    have p303 : 0 ≤ (x9_1 : Int) := of_decide_eq_true as_
    have q303 : x9_1 < (l0.length : Int) := of_decide_eq_true as_
    obtain ⟨ad303, e303, hx303_0, hx303_1, hx303_2, hx303_3⟩ := at_T47 HR0.out x9_1 p303 q303
    cases e303
    replace p303 := eq_true p303
    replace q303 := eq_true q303
    go_wp2
    go_ret
    exact ⟨rs_, dR_⟩
   rw [if_neg c6] at H
   have c6b0 : decide (300 < (((rd_T47 l0 x9_1).f0).size : Int)) = false := decide_eq_false c6
   have c6b1 : decide (300 < ((rd_T47 l0 x9_1).f0).size) = false := decide_eq_false r37_
   clear c6
   by_cases c7 : (((rd_T47 l0 x9_1).f3).size : Int) > 300
   ·rw [if_pos c7] at H
    have c7b0 : decide (300 < (((rd_T47 l0 x9_1).f3).size : Int)) = true := decide_eq_true c7
    have c7b1 : decide (300 < ((rd_T47 l0 x9_1).f3).size) = true := decide_eq_true r37_
    clear c7
    obtain rfl := Option.some.inj H
    have p303 : 0 ≤ (x9_1 : Int) := of_decide_eq_true as_
    have q303 : x9_1 < (l0.length : Int) := of_decide_eq_true as_
    obtain ⟨ad303, e303, hx303_0, hx303_1, hx303_2, hx303_3⟩ := at_T47 HR0.out x9_1 p303 q303
    cases e303
    replace p303 := eq_true p303
    replace q303 := eq_true q303
    have p304 : 0 ≤ (x9_1 : Int) := of_decide_eq_true as_
    have q304 : x9_1 < (l0.length : Int) := of_decide_eq_true as_
    obtain ⟨ad304, e304, hx304_0, hx304_1, hx304_2, hx304_3⟩ := at_T47 HR0.out x9_1 p304 q304
    obtain rfl : ad303 = ad304 := (by injection e304)
    replace p304 := eq_true p304
    replace q304 := eq_true q304
    go_wp2
    go_ret
    exact ⟨rs_, dR_⟩
   rw [if_neg c7] at H
   have c7b0 : decide (300 < (((rd_T47 l0 x9_1).f3).size : Int)) = false := decide_eq_false c7
   have c7b1 : decide (300 < ((rd_T47 l0 x9_1).f3).size) = false := decide_eq_false r37_
   clear c7
   have H' := Aside0.mk H
   clear H
   have p303 : 0 ≤ (x9_1 : Int) := of_decide_eq_true as_
   have q303 : x9_1 < (l0.length : Int) := of_decide_eq_true as_
   obtain ⟨ad303, e303, hx303_0, hx303_1, hx303_2, hx303_3⟩ := at_T47 HR0.out x9_1 p303 q303
   cases e303
   replace p303 := eq_true p303
   replace q303 := eq_true q303
   have p304 : 0 ≤ (x9_1 : Int) := of_decide_eq_true as_
   have q304 : x9_1 < (l0.length : Int) := of_decide_eq_true as_
   obtain ⟨ad304, e304, hx304_0, hx304_1, hx304_2, hx304_3⟩ := at_T47 HR0.out x9_1 p304 q304
   obtain rfl : ad303 = ad304 := (by injection e304)
   replace p304 := eq_true p304
   replace q304 := eq_true q304
   go_wp2
   go_roundg k1
   case measure => have := HK1.out; omega
   case rel => exact ⟨(wrap64 (x9_1 + 1)), rs_, hH_, ⟨by have := HK1.out; omega⟩, dR_⟩

/-! ### screeref17_Rises: function 26 -/
def screeref17_Rises.l0 : Nat → List (S47) → Int → Option (Bool)
 | 0, _, _ => none
 | k + 1, x0, x3 => if (wrap64 (x3 + 1)) < (x0.length : Int) then (if 0 ≤ x3 then (if x3 < (x0.length : Int) then (if 0 ≤ (wrap64 (x3 + 1)) then (if ((Op.bytesLess (((rd_T47 x0 x3).f0).toList) (((rd_T47 x0 (wrap64 (x3 + 1))).f0).toList)) = true) then (screeref17_Rises.l0 k x0 (wrap64 (x3 + 1))) else (some false)) else (none)) else (none)) else (none)) else (some true)
def screeref17_Rises.f (k : Nat) (l0 : List (S47)) : Option (Bool) := screeref17_Rises.l0 k l0 0
theorem screeref17_Rises.mono_l : ∀ k, (∀ y0 y1, LeO (screeref17_Rises.l0 k y0 y1) (screeref17_Rises.l0 (k + 1) y0 y1))
 | 0 => fun _ _ r h => by simp [screeref17_Rises.l0] at h
 | k + 1 => by
  have ih0 := screeref17_Rises.mono_l k
  ·intro y0 y1
   unfold screeref17_Rises.l0
   repeat' first
   | (with_reducible exact ih0 _ _)
   | (with_reducible exact LeO.refl _)
   | (with_reducible exact LeO.none _)
   | (with_reducible refine LeO.ite ?_ ?_)
   | (with_reducible refine LeO.bind ?_ (fun _ => ?_))
   | exact ih0 _ _
   | exact LeO.none _
   | refine LeO.ite ?_ ?_
   | refine LeO.bind ?_ (fun _ => ?_)
theorem screeref17_Rises.mono : ∀ a0 k, LeO (screeref17_Rises.f k a0) (screeref17_Rises.f (k + 1) a0) := by
 intro a0 k
 have ih0 := screeref17_Rises.mono_l k
 unfold screeref17_Rises.f
 repeat' first
   | (with_reducible exact ih0 _ _)
   | (with_reducible exact LeO.refl _)
   | (with_reducible exact LeO.none _)
   | (with_reducible refine LeO.ite ?_ ?_)
   | (with_reducible refine LeO.bind ?_ (fun _ => ?_))
   | exact ih0 _ _
   | exact LeO.none _
   | refine LeO.ite ?_ ?_
   | refine LeO.bind ?_ (fun _ => ?_)
set_option maxHeartbeats 8000000 in
set_option maxRecDepth 100000 in
theorem screeref17_Rises.calls (k : Nat) (A0 : Option Addr) (c0 : Nat) (l0 : List (S47)) (r : Bool) (w : World) (hr0 : Kd.C k47 w A0 l0.length l0) (hc0 : l0.length ≤ c0) (h : screeref17_Rises.f k l0 = some r) :
  Calls Try.prog 26 #[.slice A0 l0.length c0] w fun e w' => e = .returned (.bool r) ∧ Drawn0 w w' := by
 have HR0 := Aside0.mk hr0
 have HC0 := Aside0.mk hc0
 clear hr0 hc0
 have H : (screeref17_Rises.l0 k l0 0) = some r := h
 clear h
 have H' := Aside0.mk H
 clear H
 go_enter Try.func26, Try.ntmps26
 go_wp2
 repeat (go_quiet (fail); try go_wp2)
 go_loopg [3] k (fun kq v3 w' => ∃ (x3_1 : Int), v3 = .int .i64 x3_1 ∧ Aside0 (screeref17_Rises.l0 kq l0 x3_1 = some r) ∧ Aside0 (kq ≤ k) ∧ Drawn0 w w')
 case atStart => exact ⟨(0), rs_, H', ⟨Nat.le_refl _⟩, dR_⟩
 case round =>
  clear H'
  obtain ⟨x3_1, rfl, HA, HK1, ⟨m1, rfl⟩⟩ := hrel
  cases gk with
  | zero => exact absurd HA.out (by simp [screeref17_Rises.l0])
  | succ k1 =>
   have H := HA.out
   clear HA
   simp only [screeref17_Rises.l0] at H
   by_cases c2 : (wrap64 (x3_1 + 1)) < (l0.length : Int)
   rotate_left
   ·rw [if_neg c2] at H
    have c2b0 := decide_eq_false c2
    clear c2
    obtain rfl := Option.some.inj H
    go_wp2
    repeat (go_quiet (fail); try go_wp2)
    go_ret
    exact ⟨rs_, dR_⟩
   rw [if_pos c2] at H
   have c2b0 := decide_eq_true c2
   clear c2
   by_cases c3 : 0 ≤ x3_1
   rotate_left
   ·rw [if_neg c3] at H
    exact absurd H r34_
   rw [if_pos c3] at H
   have c3b0 := decide_eq_true c3
   clear c3
   by_cases c4 : x3_1 < (l0.length : Int)
   rotate_left
   ·rw [if_neg c4] at H
    exact absurd H r34_
   rw [if_pos c4] at H
   have c4b0 := decide_eq_true c4
   clear c4
   obtain ⟨ji5, hji5⟩ : ∃ j_ : Int, (wrap64 (x3_1 + 1)) = j_ := ⟨_, rfl⟩
   replace H : (if 0 ≤ (ji5) then (if ((Op.bytesLess (((rd_T47 l0 x3_1).f0).toList) (((rd_T47 l0 (ji5)).f0).toList)) = true) then (screeref17_Rises.l0 k1 l0 ji5) else (some false)) else (none)) = some r := by first | (rw [hji5] at H; exact H) | (simp only [hji5] at H ⊢; exact H)
   (try rw [hji5])
   (try rw [hji5] at c2b0)
   have hji5w : (IntKind.i64.wrap (x3_1 + 1)) = ji5 := (i64_w _).trans hji5
   by_cases c6 : 0 ≤ (ji5)
   rotate_left
   ·rw [if_neg c6] at H
    exact absurd H r34_
   rw [if_pos c6] at H
   have c6b0 := decide_eq_true c6
   clear c6
   by_cases c7 : ((Op.bytesLess (((rd_T47 l0 x3_1).f0).toList) (((rd_T47 l0 (ji5)).f0).toList)) = true)
   rotate_left
   ·rw [if_neg c7] at H
    have c7b0 : (Op.bytesLess (((rd_T47 l0 x3_1).f0).toList) (((rd_T47 l0 (ji5)).f0).toList)) = false := by simpa using c7
    clear c7
    obtain rfl := Option.some.inj H
    have p305 : 0 ≤ (x3_1 : Int) := of_decide_eq_true as_
    have q305 : x3_1 < (l0.length : Int) := of_decide_eq_true as_
    obtain ⟨ad305, e305, hx305_0, hx305_1, hx305_2, hx305_3⟩ := at_T47 HR0.out x3_1 p305 q305
    cases e305
    replace p305 := eq_true p305
    replace q305 := eq_true q305
    have p306 : 0 ≤ ((ji5) : Int) := of_decide_eq_true as_
    have q306 : (ji5) < (l0.length : Int) := of_decide_eq_true as_
    obtain ⟨ad306, e306, hx306_0, hx306_1, hx306_2, hx306_3⟩ := at_T47 HR0.out (ji5) p306 q306
    obtain rfl : ad305 = ad306 := (by injection e306)
    replace p306 := eq_true p306
    replace q306 := eq_true q306
    go_wp2
    repeat (go_quiet (fail); try go_wp2)
    go_ret
    exact ⟨by first | rfl | (simp; done) | (simp only [← hji5] <;> (first | rfl | simp)) | (simp [*]; done), dR_⟩
   rw [if_pos c7] at H
   have c7b0 : (Op.bytesLess (((rd_T47 l0 x3_1).f0).toList) (((rd_T47 l0 (ji5)).f0).toList)) = true := c7
   clear c7
   have H' := Aside0.mk H
   clear H
   have p305 : 0 ≤ (x3_1 : Int) := of_decide_eq_true as_
   have q305 : x3_1 < (l0.length : Int) := of_decide_eq_true as_
   obtain ⟨ad305, e305, hx305_0, hx305_1, hx305_2, hx305_3⟩ := at_T47 HR0.out x3_1 p305 q305
   cases e305
   replace p305 := eq_true p305
   replace q305 := eq_true q305
   have p306 : 0 ≤ ((ji5) : Int) := of_decide_eq_true as_
   have q306 : (ji5) < (l0.length : Int) := of_decide_eq_true as_
   obtain ⟨ad306, e306, hx306_0, hx306_1, hx306_2, hx306_3⟩ := at_T47 HR0.out (ji5) p306 q306
   obtain rfl : ad305 = ad306 := (by injection e306)
   replace p306 := eq_true p306
   replace q306 := eq_true q306
   go_wp2
   repeat (go_quiet (fail); try go_wp2)
   go_roundg k1
   case measure => have := HK1.out; omega
   case rel => exact ⟨(ji5), (by first | rfl | (simp; done) | (simp only [← hji5] <;> (first | rfl | simp)) | (simp [*]; done)), hH_, ⟨by have := HK1.out; omega⟩, dR_⟩

/-! ### screeref02_Unescape: function 41 -/
mutual
def screeref02_Unescape.l0 : Nat → ByteArray → Int → Option (ByteArray × ByteArray × Int)
 | 0, _, _ => none
 | k + 1, x0, x5 => if x5 ≤ (x0.size : Int) then (if 0 ≤ (wrap64 (x5 - 2)) then (if (wrap64 (x5 - 2)) < (x0.size : Int) then (if (bt x0 (wrap64 (x5 - 2))) = 0 then (if 0 ≤ (wrap64 (x5 - 1)) then (if (wrap64 (x5 - 1)) < (x0.size : Int) then (screeref02_Unescape.j1 k x0 x5 ((bt x0 (wrap64 (x5 - 1))) != 1)) else (none)) else (none)) else (screeref02_Unescape.j1 k x0 x5 true)) else (none)) else (none)) else (some ((⟨#[]⟩ : ByteArray), (⟨#[]⟩ : ByteArray), 2))
def screeref02_Unescape.j1 : Nat → ByteArray → Int → Bool → Option (ByteArray × ByteArray × Int)
 | 0, _, _, _ => none
 | k + 1, x0, x5, x27 => if x27 = true then (screeref02_Unescape.l0 k x0 (wrap64 (x5 + 1))) else (screeref02_Unescape.l1 k x0 x5 (([] : List Int)) 0)
def screeref02_Unescape.l1 : Nat → ByteArray → Int → List Int → Int → Option (ByteArray × ByteArray × Int)
 | 0, _, _, _, _ => none
 | k + 1, x0, x5, x6, x7 => if x7 < (wrap64 (x5 - 2)) then (if 0 ≤ x7 then (if x7 < (x0.size : Int) then (if x6.length < 140737488355328 then ((some (x6 ++ [bt x0 x7] : List Int)).bind fun y310 => (if (bt x0 x7) = 0 then (screeref02_Unescape.l1 k x0 x5 y310 (wrap64 ((wrap64 (x7 + 1)) + 1))) else (screeref02_Unescape.l1 k x0 x5 y310 (wrap64 (x7 + 1))))) else (none)) else (none)) else (none)) else ((screeref02_Escape.f k (strOfNums x6)).bind fun bt313 => (if bt313.2 = 0 then (if 0 ≤ x5 then (if x5 ≤ (x0.size : Int) then (if bt313.1.toList = (x0.extract 0 (x5 : Int).toNat).toList then (some (strOfNums x6, x0.extract (x5 : Int).toNat x0.size, 0)) else (screeref02_Unescape.l0 k x0 (wrap64 (x5 + 1)))) else (none)) else (none)) else (screeref02_Unescape.l0 k x0 (wrap64 (x5 + 1)))))
end
def screeref02_Unescape.f (k : Nat) (a0 : ByteArray) : Option (ByteArray × ByteArray × Int) := screeref02_Unescape.l0 k a0 2
theorem screeref02_Unescape.mono_l : ∀ k, (∀ y0 y1, LeO (screeref02_Unescape.l0 k y0 y1) (screeref02_Unescape.l0 (k + 1) y0 y1)) ∧ (∀ y0 y1 y2, LeO (screeref02_Unescape.j1 k y0 y1 y2) (screeref02_Unescape.j1 (k + 1) y0 y1 y2)) ∧ (∀ y0 y1 y2 y3, LeO (screeref02_Unescape.l1 k y0 y1 y2 y3) (screeref02_Unescape.l1 (k + 1) y0 y1 y2 y3))
 | 0 => ⟨fun _ _ r h => by simp [screeref02_Unescape.l0] at h, fun _ _ _ r h => by simp [screeref02_Unescape.j1] at h, fun _ _ _ _ r h => by simp [screeref02_Unescape.l1] at h⟩
 | k + 1 => by
  obtain ⟨ih0, ih1, ih2⟩ := screeref02_Unescape.mono_l k
  refine ⟨?_, ?_, ?_⟩
  ·intro y0 y1
   unfold screeref02_Unescape.l0
   repeat' first
   | (with_reducible exact ih0 _ _)
   | (with_reducible exact ih1 _ _ _)
   | (with_reducible exact ih2 _ _ _ _)
   | (with_reducible exact LeO.refl _)
   | (with_reducible exact LeO.none _)
   | (with_reducible refine LeO.ite ?_ ?_)
   | (with_reducible refine LeO.bind ?_ (fun _ => ?_))
   | exact ih0 _ _
   | exact ih1 _ _ _
   | exact ih2 _ _ _ _
   | exact screeref02_Escape.mono _ _
   | exact LeO.none _
   | refine LeO.ite ?_ ?_
   | refine LeO.bind ?_ (fun _ => ?_)
  ·intro y0 y1 y2
   unfold screeref02_Unescape.j1
   repeat' first
   | (with_reducible exact ih0 _ _)
   | (with_reducible exact ih1 _ _ _)
   | (with_reducible exact ih2 _ _ _ _)
   | (with_reducible exact LeO.refl _)
   | (with_reducible exact LeO.none _)
   | (with_reducible refine LeO.ite ?_ ?_)
   | (with_reducible refine LeO.bind ?_ (fun _ => ?_))
   | exact ih0 _ _
   | exact ih1 _ _ _
   | exact ih2 _ _ _ _
   | exact screeref02_Escape.mono _ _
   | exact LeO.none _
   | refine LeO.ite ?_ ?_
   | refine LeO.bind ?_ (fun _ => ?_)
  ·intro y0 y1 y2 y3
   unfold screeref02_Unescape.l1
   repeat' first
   | (with_reducible exact ih0 _ _)
   | (with_reducible exact ih1 _ _ _)
   | (with_reducible exact ih2 _ _ _ _)
   | (with_reducible exact LeO.refl _)
   | (with_reducible exact LeO.none _)
   | (with_reducible refine LeO.ite ?_ ?_)
   | (with_reducible refine LeO.bind ?_ (fun _ => ?_))
   | exact ih0 _ _
   | exact ih1 _ _ _
   | exact ih2 _ _ _ _
   | exact screeref02_Escape.mono _ _
   | exact LeO.none _
   | refine LeO.ite ?_ ?_
   | refine LeO.bind ?_ (fun _ => ?_)
theorem screeref02_Unescape.mono : ∀ a0 k, LeO (screeref02_Unescape.f k a0) (screeref02_Unescape.f (k + 1) a0) := by
 intro a0 k
 obtain ⟨ih0, ih1, ih2⟩ := screeref02_Unescape.mono_l k
 unfold screeref02_Unescape.f
 repeat' first
   | (with_reducible exact ih0 _ _)
   | (with_reducible exact ih1 _ _ _)
   | (with_reducible exact ih2 _ _ _ _)
   | (with_reducible exact LeO.refl _)
   | (with_reducible exact LeO.none _)
   | (with_reducible refine LeO.ite ?_ ?_)
   | (with_reducible refine LeO.bind ?_ (fun _ => ?_))
   | exact ih0 _ _
   | exact ih1 _ _ _
   | exact ih2 _ _ _ _
   | exact screeref02_Escape.mono _ _
   | exact LeO.none _
   | refine LeO.ite ?_ ?_
   | refine LeO.bind ?_ (fun _ => ?_)
set_option maxHeartbeats 8000000 in
set_option maxRecDepth 100000 in
theorem screeref02_Unescape.calls (k : Nat) (a0 : ByteArray) (r1 : ByteArray) (r2 : ByteArray) (r3 : Int) (w : World) (h : screeref02_Unescape.f k a0 = some (r1, r2, r3)) :
  Calls Try.prog 41 #[.string a0] w fun e w' => e = .returned (.tuple #[.string r1, .string r2, .int .i64 r3]) ∧ Below w.heap.size w w' := by
 have HB := Aside0.mk (Below.refl w.heap.size w)
 have H : (screeref02_Unescape.l0 k a0 2) = some (r1, r2, r3) := h
 clear h
 have H' := Aside0.mk H
 clear H
 go_enter Try.func41, Try.ntmps41
 go_wp2
 repeat (go_quiet (fail); try go_wp2)
 go_loopg [5] k (fun kq v5 w' => ∃ (x5_1 : Int), v5 = .int .i64 x5_1 ∧ Aside0 (screeref02_Unescape.l0 kq a0 x5_1 = some (r1, r2, r3)) ∧ Aside0 (kq ≤ k) ∧ Aside0 (Below w.heap.size w w'))
 case atStart => exact ⟨(2), rs_, H', ⟨Nat.le_refl _⟩, ⟨hB_⟩⟩
 case round =>
  clear H'
  obtain ⟨x5_1, rfl, HA, HK1, HB⟩ := hrel
  cases gk with
  | zero => exact absurd HA.out (by simp [screeref02_Unescape.l0])
  | succ k1 =>
   have H := HA.out
   clear HA
   simp only [screeref02_Unescape.l0] at H
   by_cases c2 : x5_1 ≤ (a0.size : Int)
   rotate_left
   ·rw [if_neg c2] at H
    have c2b0 := decide_eq_false c2
    clear c2
    simp only [Option.some.injEq, Prod.mk.injEq] at H
    obtain ⟨rfl, rfl, rfl⟩ := H
    go_wp2
    repeat (go_quiet (fail); try go_wp2)
    go_ret3
    exact ⟨rf_, hB_⟩
   rw [if_pos c2] at H
   have c2b0 := decide_eq_true c2
   clear c2
   have HC3 := Aside0.mk H
   clear H
   go_upto_region 4 with (fail)
   repeat (go_quiet (fail); go_upto_region 4 with (fail))
   go_cut [27] (fun v27 wc => ∃ (kq : Nat) (x27_2 : Bool), v27 = .bool x27_2 ∧ Aside0 (screeref02_Unescape.j1 kq a0 x5_1 x27_2 = some (r1, r2, r3)) ∧ Aside0 (kq ≤ k1) ∧ Aside0 (Below w.heap.size w wc))
   case first =>
    have H := HC3.out
    clear HC3
    obtain ⟨ji4, hji4⟩ : ∃ j_ : Int, (wrap64 (x5_1 - 2)) = j_ := ⟨_, rfl⟩
    replace H : (if 0 ≤ (ji4) then (if (ji4) < (a0.size : Int) then (if (bt a0 (ji4)) = 0 then (if 0 ≤ (wrap64 (x5_1 - 1)) then (if (wrap64 (x5_1 - 1)) < (a0.size : Int) then (screeref02_Unescape.j1 k1 a0 x5_1 ((bt a0 (wrap64 (x5_1 - 1))) != 1)) else (none)) else (none)) else (screeref02_Unescape.j1 k1 a0 x5_1 true)) else (none)) else (none)) = some (r1, r2, r3) := by first | (rw [hji4] at H; exact H) | (simp only [hji4] at H ⊢; exact H)
    have hji4w : (IntKind.i64.wrap (x5_1 - 2)) = ji4 := (i64_w _).trans hji4
    by_cases c5 : 0 ≤ (ji4)
    rotate_left
    ·rw [if_neg c5] at H
     exact absurd H r34_
    rw [if_pos c5] at H
    have c5b0 := decide_eq_true c5
    clear c5
    (first | rw [c5b0] | (simp only [i64_w, i32_w]; rw [c5b0]) | skip)
    by_cases c6 : (ji4) < (a0.size : Int)
    rotate_left
    ·rw [if_neg c6] at H
     exact absurd H r34_
    rw [if_pos c6] at H
    have c6b0 := decide_eq_true c6
    clear c6
    by_cases c8 : (bt a0 (ji4)) = 0
    rotate_left
    ·rw [if_neg c8] at H
     have c8b0 := beq_eq_false_iff_ne.mpr c8
     have c8b1 := bne_iff_ne.mpr c8
     have H' := Aside0.mk H
     clear H
     have p7 : 0 ≤ ((ji4) : Int) := of_decide_eq_true as_
     have q7 : (ji4) < (a0.size : Int) := of_decide_eq_true as_
     have hx7 := bt_at a0 (ji4)
     replace p7 := eq_true p7
     replace q7 := eq_true q7
     go_wp2
     repeat (go_quiet (fail); try go_wp2)
     go_meet
     case rel => exact ⟨_, (true), rs_, hH_, ⟨by have := HK1.out; first | omega | exact Nat.le_refl _⟩, ⟨hB_⟩⟩
    rw [if_pos c8] at H
    have c8b0 := beq_iff_eq.mpr c8
    have c8b1 := bne_eq_false_iff_eq.mpr c8
    clear c8
    obtain ⟨ji9, hji9⟩ : ∃ j_ : Int, (wrap64 (x5_1 - 1)) = j_ := ⟨_, rfl⟩
    replace H : (if 0 ≤ (ji9) then (if (ji9) < (a0.size : Int) then (screeref02_Unescape.j1 k1 a0 x5_1 ((bt a0 (ji9)) != 1)) else (none)) else (none)) = some (r1, r2, r3) := by first | (rw [hji9] at H; exact H) | (simp only [hji9] at H ⊢; exact H)
    have hji9w : (IntKind.i64.wrap (x5_1 - 1)) = ji9 := (i64_w _).trans hji9
    by_cases c10 : 0 ≤ (ji9)
    rotate_left
    ·rw [if_neg c10] at H
     exact absurd H r34_
    rw [if_pos c10] at H
    have c10b0 := decide_eq_true c10
    clear c10
    by_cases c11 : (ji9) < (a0.size : Int)
    rotate_left
    ·rw [if_neg c11] at H
     exact absurd H r34_
    rw [if_pos c11] at H
    have c11b0 := decide_eq_true c11
    clear c11
    have H' := Aside0.mk H
    clear H
    have p7 : 0 ≤ ((ji4) : Int) := of_decide_eq_true as_
    have q7 : (ji4) < (a0.size : Int) := of_decide_eq_true as_
    have hx7 := bt_at a0 (ji4)
    replace p7 := eq_true p7
    replace q7 := eq_true q7
    have p12 : 0 ≤ ((ji9) : Int) := of_decide_eq_true as_
    have q12 : (ji9) < (a0.size : Int) := of_decide_eq_true as_
    have hx12 := bt_at a0 (ji9)
    replace p12 := eq_true p12
    replace q12 := eq_true q12
    go_wp2
    repeat (go_quiet (fail); try go_wp2)
    go_meet
    case rel => exact ⟨_, (((bt a0 (ji9)) != 1)), (by first | rfl | (simp; done) | (simp only [← hji9] <;> (first | rfl | simp)) | (simp [*]; done)), hH_, ⟨by have := HK1.out; first | omega | exact Nat.le_refl _⟩, ⟨hB_⟩⟩
   case rest =>
    clear HC3
    try clear c2
    try clear c2b0
    obtain ⟨kq, x27_2, rfl, HA, HJ2, HB⟩ := hcut
    cases kq with
    | zero => exact absurd HA.out (by simp [screeref02_Unescape.j1])
    | succ kj2 =>
     have H := HA.out
     clear HA
     simp only [screeref02_Unescape.j1] at H
     by_cases c13 : x27_2 = true
     ·subst c13
      rw [if_pos rfl] at H
      have H' := Aside0.mk H
      clear H
      go_wp2
      repeat (go_quiet (fail); try go_wp2)
      go_roundg kj2
      case measure => have := HK1.out; have := HJ2.out; omega
      case rel => exact ⟨(wrap64 (x5_1 + 1)), rs_, hH_, ⟨by have := HK1.out; have := HJ2.out; omega⟩, ⟨hB_⟩⟩
     replace c13 := Bool.eq_false_iff.mpr c13
     subst c13
     rw [if_neg ff_] at H
     obtain ⟨y307, hy307⟩ : ∃ y_ : List Int, y_ = (([] : List Int)) := ⟨_, rfl⟩
     replace H : (screeref02_Unescape.l1 kj2 a0 x5_1 y307 0) = some (r1, r2, r3) := by first | (rw [hy307]; with_reducible exact H) | (have H2_ := (Option.bind_some _ _).symm.trans H; rw [hy307]; with_reducible exact H2_) | (have H2_ := (Option.bind_some _ _).symm.trans H; with_reducible exact H2_) | with_reducible exact H | (rw [hy307]; exact H) | exact H
     have Ny307 := Aside0.mk hy307
     clear hy307
     have H' := Aside0.mk H
     clear H
     go_wp2_with (first | ((with_reducible refine gate_dst (N := 28) rfl ?_); refine Kd.R_lit (Kd.int .u8) _ 5 ?hg (N := 28) ?hd (xs := ([] : List Int)) (inner := []) (ok := fun _ => True) (okp := fun _ => True) ?hr ?hp (fun _ hk => hk) trivial (Below.refl _ _) (Nat.le_refl _) r34_ ?_; (case hd => rfl); (case hg => rfl); (case hr => first | (go_simp; done) | (go_simp; rfl)); (case hp => exact (Reps.none _ _)); intro v308 w14 ho15 hb hg_ hnew_; clear hg_ hnew_; (first | rw [← Ny307.out] at ho15 | (simp only [Int.reduceToNat] at ho15; rw [← Ny307.out] at ho15)); have HO309 := Aside0.mk (Kd.R_lower ho15 (below_size hB_)); replace HB := Aside0.mk (below_step hB_ hb); clear hb ho15))
     repeat (go_quiet (fail); try go_wp2_with (first | ((with_reducible refine gate_dst (N := 28) rfl ?_); refine Kd.R_lit (Kd.int .u8) _ 5 ?hg (N := 28) ?hd (xs := ([] : List Int)) (inner := []) (ok := fun _ => True) (okp := fun _ => True) ?hr ?hp (fun _ hk => hk) trivial (Below.refl _ _) (Nat.le_refl _) r34_ ?_; (case hd => rfl); (case hg => rfl); (case hr => first | (go_simp; done) | (go_simp; rfl)); (case hp => exact (Reps.none _ _)); intro v308 w14 ho15 hb hg_ hnew_; clear hg_ hnew_; (first | rw [← Ny307.out] at ho15 | (simp only [Int.reduceToNat] at ho15; rw [← Ny307.out] at ho15)); have HO309 := Aside0.mk (Kd.R_lower ho15 (below_size hB_)); replace HB := Aside0.mk (below_step hB_ hb); clear hb ho15)))
     go_loopg [6, 7] kj2 (fun kq v6 v7 w' => ∃ (x6_3 : List Int) (x7_3 : Int), v7 = .int .i64 x7_3 ∧ Aside0 (screeref02_Unescape.l1 kq a0 x5_1 x6_3 x7_3 = some (r1, r2, r3)) ∧ Aside0 (kq ≤ kj2) ∧ Aside0 (Kd.R (Kd.int .u8) 5 w' w.heap.size (fun _ => True) v6 x6_3) ∧ Aside0 (Below w.heap.size w w'))
     case atStart => exact ⟨(y307), (0), rs_, H', ⟨Nat.le_refl _⟩, ⟨by (with_reducible repeat (first | apply Kd.R_alloc | apply Kd.R_drewN | apply Kd.R_drew)); exact HO309.out⟩, ⟨hB_⟩⟩
     case round =>
      clear H'
      try clear c2
      try clear c2b0
      try clear c13
      obtain ⟨x6_3, x7_3, rfl, HA, HK3, HO_6, HB⟩ := hrel
      cases gk with
      | zero => exact absurd HA.out (by simp [screeref02_Unescape.l1])
      | succ k3 =>
       have H := HA.out
       clear HA
       simp only [screeref02_Unescape.l1] at H
       by_cases c16 : x7_3 < (wrap64 (x5_1 - 2))
       ·rw [if_pos c16] at H
        have c16b0 := decide_eq_true c16
        clear c16
        by_cases c17 : 0 ≤ x7_3
        rotate_left
        ·rw [if_neg c17] at H
         exact absurd H r34_
        rw [if_pos c17] at H
        have c17b0 := decide_eq_true c17
        clear c17
        by_cases c18 : x7_3 < (a0.size : Int)
        rotate_left
        ·rw [if_neg c18] at H
         exact absurd H r34_
        rw [if_pos c18] at H
        have c18b0 := decide_eq_true c18
        clear c18
        by_cases c20 : x6_3.length < 140737488355328
        rotate_left
        ·rw [if_neg c20] at H
         exact absurd H r34_
        rw [if_pos c20] at H
        have LMc20 := Aside0.mk c20
        clear c20
        obtain ⟨y310, hy310⟩ : ∃ y_ : List Int, y_ = (x6_3 ++ [bt a0 x7_3]) := ⟨_, rfl⟩
        replace H : (if (bt a0 x7_3) = 0 then (screeref02_Unescape.l1 k3 a0 x5_1 y310 (wrap64 ((wrap64 (x7_3 + 1)) + 1))) else (screeref02_Unescape.l1 k3 a0 x5_1 y310 (wrap64 (x7_3 + 1)))) = some (r1, r2, r3) := by first | (rw [hy310]; with_reducible exact H) | (have H2_ := (Option.bind_some _ _).symm.trans H; rw [hy310]; with_reducible exact H2_) | (have H2_ := (Option.bind_some _ _).symm.trans H; with_reducible exact H2_) | with_reducible exact H | (rw [hy310]; exact H) | exact H
        have Ny310 := Aside0.mk hy310
        clear hy310
        by_cases c22 : (bt a0 x7_3) = 0
        rotate_left
        ·rw [if_neg c22] at H
         have c22b0 := beq_eq_false_iff_ne.mpr c22
         have c22b1 := bne_iff_ne.mpr c22
         have H' := Aside0.mk H
         clear H
         have p19 : 0 ≤ (x7_3 : Int) := of_decide_eq_true as_
         have q19 : x7_3 < (a0.size : Int) := of_decide_eq_true as_
         have hx19 := bt_at a0 x7_3
         replace p19 := eq_true p19
         replace q19 := eq_true q19
         go_wp2_with (first | ((with_reducible refine gate_builtin (b := .append) (xs := #[.tmp 35, .tmp 39]) rfl ?_); at_builtin; refine Kd.R_append (Kd.int .u8) (w0 := w) w.heap.size rfl (.tmp 35) (.tmp 39) 96 5 (.int .u8 0) 1 rfl Try.underlying96 info5 rfl r44_ r37_ u6 x6_3 (bt a0 x7_3) [.int .u8 (bt a0 x7_3)] (fun _ => True) (fun _ => False) rfl rfl ?aP (fun _ hk => hk.elim) ?aF ?aO ?aB ?aS ?aL ?_; (case aP => exact rfl); (case aB => exact hB_); (case aF => exact (fun _ _ => trivial)); (case aO => exact r19_); (case aS => exact (below_size hB_)); (case aL => have := LMc20.out; omega); intro v311 w24 ho hb hg hat; rw [← Ny310.out] at ho; replace HB := Aside0.mk (hb); have HO312 := Aside0.mk (ho); clear HO_6; clear ho hb hg hat; have p21 : 0 ≤ (x7_3 : Int) := of_decide_eq_true as_; have q21 : x7_3 < (a0.size : Int) := of_decide_eq_true as_; have hx21 := bt_at a0 x7_3; replace p21 := eq_true p21; replace q21 := eq_true q21))
         repeat (go_quiet (fail); try go_wp2_with (first | ((with_reducible refine gate_builtin (b := .append) (xs := #[.tmp 35, .tmp 39]) rfl ?_); at_builtin; refine Kd.R_append (Kd.int .u8) (w0 := w) w.heap.size rfl (.tmp 35) (.tmp 39) 96 5 (.int .u8 0) 1 rfl Try.underlying96 info5 rfl r44_ r37_ u6 x6_3 (bt a0 x7_3) [.int .u8 (bt a0 x7_3)] (fun _ => True) (fun _ => False) rfl rfl ?aP (fun _ hk => hk.elim) ?aF ?aO ?aB ?aS ?aL ?_; (case aP => exact rfl); (case aB => exact hB_); (case aF => exact (fun _ _ => trivial)); (case aO => exact r19_); (case aS => exact (below_size hB_)); (case aL => have := LMc20.out; omega); intro v311 w24 ho hb hg hat; rw [← Ny310.out] at ho; replace HB := Aside0.mk (hb); have HO312 := Aside0.mk (ho); clear HO_6; clear ho hb hg hat; have p21 : 0 ≤ (x7_3 : Int) := of_decide_eq_true as_; have q21 : x7_3 < (a0.size : Int) := of_decide_eq_true as_; have hx21 := bt_at a0 x7_3; replace p21 := eq_true p21; replace q21 := eq_true q21)))
         go_roundg k3
         case measure => have := HK1.out; have := HJ2.out; have := HK3.out; omega
         case rel => exact ⟨(y310), (wrap64 (x7_3 + 1)), rs_, hH_, ⟨by have := HK1.out; have := HJ2.out; have := HK3.out; omega⟩, ⟨by (with_reducible repeat (first | apply Kd.R_alloc | apply Kd.R_drewN | apply Kd.R_drew)); exact HO312.out⟩, ⟨hB_⟩⟩
        rw [if_pos c22] at H
        have c22b0 := beq_iff_eq.mpr c22
        have c22b1 := bne_eq_false_iff_eq.mpr c22
        clear c22
        have H' := Aside0.mk H
        clear H
        have p19 : 0 ≤ (x7_3 : Int) := of_decide_eq_true as_
        have q19 : x7_3 < (a0.size : Int) := of_decide_eq_true as_
        have hx19 := bt_at a0 x7_3
        replace p19 := eq_true p19
        replace q19 := eq_true q19
        go_wp2_with (first | ((with_reducible refine gate_builtin (b := .append) (xs := #[.tmp 35, .tmp 39]) rfl ?_); at_builtin; refine Kd.R_append (Kd.int .u8) (w0 := w) w.heap.size rfl (.tmp 35) (.tmp 39) 96 5 (.int .u8 0) 1 rfl Try.underlying96 info5 rfl r44_ r37_ u6 x6_3 (bt a0 x7_3) [.int .u8 (bt a0 x7_3)] (fun _ => True) (fun _ => False) rfl rfl ?aP (fun _ hk => hk.elim) ?aF ?aO ?aB ?aS ?aL ?_; (case aP => exact rfl); (case aB => exact hB_); (case aF => exact (fun _ _ => trivial)); (case aO => exact r19_); (case aS => exact (below_size hB_)); (case aL => have := LMc20.out; omega); intro v311 w23 ho hb hg hat; rw [← Ny310.out] at ho; replace HB := Aside0.mk (hb); have HO312 := Aside0.mk (ho); clear HO_6; clear ho hb hg hat; have p21 : 0 ≤ (x7_3 : Int) := of_decide_eq_true as_; have q21 : x7_3 < (a0.size : Int) := of_decide_eq_true as_; have hx21 := bt_at a0 x7_3; replace p21 := eq_true p21; replace q21 := eq_true q21))
        repeat (go_quiet (fail); try go_wp2_with (first | ((with_reducible refine gate_builtin (b := .append) (xs := #[.tmp 35, .tmp 39]) rfl ?_); at_builtin; refine Kd.R_append (Kd.int .u8) (w0 := w) w.heap.size rfl (.tmp 35) (.tmp 39) 96 5 (.int .u8 0) 1 rfl Try.underlying96 info5 rfl r44_ r37_ u6 x6_3 (bt a0 x7_3) [.int .u8 (bt a0 x7_3)] (fun _ => True) (fun _ => False) rfl rfl ?aP (fun _ hk => hk.elim) ?aF ?aO ?aB ?aS ?aL ?_; (case aP => exact rfl); (case aB => exact hB_); (case aF => exact (fun _ _ => trivial)); (case aO => exact r19_); (case aS => exact (below_size hB_)); (case aL => have := LMc20.out; omega); intro v311 w23 ho hb hg hat; rw [← Ny310.out] at ho; replace HB := Aside0.mk (hb); have HO312 := Aside0.mk (ho); clear HO_6; clear ho hb hg hat; have p21 : 0 ≤ (x7_3 : Int) := of_decide_eq_true as_; have q21 : x7_3 < (a0.size : Int) := of_decide_eq_true as_; have hx21 := bt_at a0 x7_3; replace p21 := eq_true p21; replace q21 := eq_true q21)))
        go_roundg k3
        case measure => have := HK1.out; have := HJ2.out; have := HK3.out; omega
        case rel => exact ⟨(y310), (wrap64 ((wrap64 (x7_3 + 1)) + 1)), rs_, hH_, ⟨by have := HK1.out; have := HJ2.out; have := HK3.out; omega⟩, ⟨by (with_reducible repeat (first | apply Kd.R_alloc | apply Kd.R_drewN | apply Kd.R_drew)); exact HO312.out⟩, ⟨hB_⟩⟩
       rw [if_neg c16] at H
       have c16b0 := decide_eq_false c16
       clear c16
       replace H := Option.bind_eq_some_iff.mp H
       obtain ⟨⟨t313, t314⟩, A250, H⟩ := H
       try dsimp only at H
       have A25 := Aside0.mk A250
       clear A250
       by_cases c26 : t314 = 0
       rotate_left
       ·rw [if_neg c26] at H
        have c26b0 := beq_eq_false_iff_ne.mpr c26
        have c26b1 := bne_iff_ne.mpr c26
        have H' := Aside0.mk H
        clear H
        have hcv37 := own_string (P := Try.prog) Try.underlying96 Try.underlying5 Try.underlying9 (Kd.own_of_R (HO_6.out))
        go_wp2_with (first | (go_at_call 45; (with_reducible refine (screeref02_Escape.calls k3 (strOfNums x6_3) t313 t314 _ A25.out).mono ?_); rintro e w38 ⟨rfl, hb⟩; replace HO_6 := Aside0.mk (Kd.R_below r19_ hb); replace HB := Aside0.mk (below_step hB_ hb); clear hb A25))
        repeat (go_quiet (fail); try go_wp2_with (first | (go_at_call 45; (with_reducible refine (screeref02_Escape.calls k3 (strOfNums x6_3) t313 t314 _ A25.out).mono ?_); rintro e w38 ⟨rfl, hb⟩; replace HO_6 := Aside0.mk (Kd.R_below r19_ hb); replace HB := Aside0.mk (below_step hB_ hb); clear hb A25)))
        go_roundg k3
        case measure => have := HK1.out; have := HJ2.out; have := HK3.out; omega
        case rel => exact ⟨(wrap64 (x5_1 + 1)), rs_, hH_, ⟨by have := HK1.out; have := HJ2.out; have := HK3.out; omega⟩, ⟨hB_⟩⟩
       rw [if_pos c26] at H
       have c26b0 := beq_iff_eq.mpr c26
       have c26b1 := bne_eq_false_iff_eq.mpr c26
       clear c26
       by_cases c27 : 0 ≤ x5_1
       rotate_left
       ·rw [if_neg c27] at H
        exact absurd H r34_
       rw [if_pos c27] at H
       have c27b0 := eq_true c27
       have c27b1 : decide (0 ≤ x5_1) = true := decide_eq_true c27
       clear c27
       by_cases c28 : x5_1 ≤ (a0.size : Int)
       rotate_left
       ·rw [if_neg c28] at H
        exact absurd H r34_
       rw [if_pos c28] at H
       have c28b0 := eq_true c28
       have c28b1 : decide (x5_1 ≤ (a0.size : Int)) = true := decide_eq_true c28
       clear c28
       by_cases c29 : t313.toList = (a0.extract 0 (x5_1 : Int).toNat).toList
       rotate_left
       ·rw [if_neg c29] at H
        have c29b0 := beq_eq_false_iff_ne.mpr c29
        have c29b1 := bne_iff_ne.mpr c29
        have H' := Aside0.mk H
        clear H
        have hcv35 := own_string (P := Try.prog) Try.underlying96 Try.underlying5 Try.underlying9 (Kd.own_of_R (HO_6.out))
        go_wp2_with (first | (go_at_call 45; (with_reducible refine (screeref02_Escape.calls k3 (strOfNums x6_3) t313 t314 _ A25.out).mono ?_); rintro e w36 ⟨rfl, hb⟩; replace HO_6 := Aside0.mk (Kd.R_below r19_ hb); replace HB := Aside0.mk (below_step hB_ hb); clear hb A25))
        repeat (go_quiet (fail); try go_wp2_with (first | (go_at_call 45; (with_reducible refine (screeref02_Escape.calls k3 (strOfNums x6_3) t313 t314 _ A25.out).mono ?_); rintro e w36 ⟨rfl, hb⟩; replace HO_6 := Aside0.mk (Kd.R_below r19_ hb); replace HB := Aside0.mk (below_step hB_ hb); clear hb A25)))
        go_roundg k3
        case measure => have := HK1.out; have := HJ2.out; have := HK3.out; omega
        case rel => exact ⟨(wrap64 (x5_1 + 1)), rs_, hH_, ⟨by have := HK1.out; have := HJ2.out; have := HK3.out; omega⟩, ⟨hB_⟩⟩
       rw [if_pos c29] at H
       have c29b0 := beq_iff_eq.mpr c29
       have c29b1 := bne_eq_false_iff_eq.mpr c29
       clear c29
       have c30b0 := eq_true (of_decide_eq_true as_ : 0 ≤ x5_1)
       have c31b0 := eq_true (of_decide_eq_true as_ : x5_1 ≤ (a0.size : Int))
       simp only [Option.some.injEq, Prod.mk.injEq] at H
       obtain ⟨rfl, rfl, rfl⟩ := H
       have hcv32 := own_string (P := Try.prog) Try.underlying96 Try.underlying5 Try.underlying9 (Kd.own_of_R (HO_6.out))
       go_wp2_with (first | (go_at_call 45; (with_reducible refine (screeref02_Escape.calls k3 (strOfNums x6_3) t313 t314 _ A25.out).mono ?_); rintro e w33 ⟨rfl, hb⟩; replace HO_6 := Aside0.mk (Kd.R_below r19_ hb); replace HB := Aside0.mk (below_step hB_ hb); clear hb A25; have hcv34 := own_string (P := Try.prog) Try.underlying96 Try.underlying5 Try.underlying9 (Kd.own_of_R (HO_6.out))))
       try have hcvq0_ := fun (n_ : Nat) => own_string (P := Try.prog) Try.underlying96 Try.underlying5 Try.underlying9 (pw_own_drewN (Kd.own_of_R (HO_6.out)) n_)
       repeat (go_quiet (fail); try go_wp2_with (first | (go_at_call 45; (with_reducible refine (screeref02_Escape.calls k3 (strOfNums x6_3) t313 t314 _ A25.out).mono ?_); rintro e w33 ⟨rfl, hb⟩; replace HO_6 := Aside0.mk (Kd.R_below r19_ hb); replace HB := Aside0.mk (below_step hB_ hb); clear hb A25; have hcv34 := own_string (P := Try.prog) Try.underlying96 Try.underlying5 Try.underlying9 (Kd.own_of_R (HO_6.out)))))
       go_ret3
       exact ⟨rf_, hB_⟩

/-! ### screeref01_Unlong: function 60 -/
def screeref01_Unlong.l0 : Nat → ByteArray → Int → Int → Option (Int × Bool)
 | 0, _, _, _ => none
 | k + 1, x0, x4, x5 => if x5 < 8 then (if 0 ≤ x5 then (if x5 < (x0.size : Int) then (screeref01_Unlong.l0 k x0 (IntKind.u64.wrap ((IntKind.u64.wrap (x4 * 256)) + (IntKind.u64.wrap (bt x0 x5)))) (wrap64 (x5 + 1))) else (none)) else (none)) else (some (x4, true))
def screeref01_Unlong.f (k : Nat) (a0 : ByteArray) : Option (Int × Bool) := if (a0.size : Int) = 8 then (screeref01_Unlong.l0 k a0 0 0) else (some (0, false))
theorem screeref01_Unlong.mono_l : ∀ k, (∀ y0 y1 y2, LeO (screeref01_Unlong.l0 k y0 y1 y2) (screeref01_Unlong.l0 (k + 1) y0 y1 y2))
 | 0 => fun _ _ _ r h => by simp [screeref01_Unlong.l0] at h
 | k + 1 => by
  have ih0 := screeref01_Unlong.mono_l k
  ·intro y0 y1 y2
   unfold screeref01_Unlong.l0
   repeat' first
   | (with_reducible exact ih0 _ _ _)
   | (with_reducible exact LeO.refl _)
   | (with_reducible exact LeO.none _)
   | (with_reducible refine LeO.ite ?_ ?_)
   | (with_reducible refine LeO.bind ?_ (fun _ => ?_))
   | exact ih0 _ _ _
   | exact LeO.none _
   | refine LeO.ite ?_ ?_
   | refine LeO.bind ?_ (fun _ => ?_)
theorem screeref01_Unlong.mono : ∀ a0 k, LeO (screeref01_Unlong.f k a0) (screeref01_Unlong.f (k + 1) a0) := by
 intro a0 k
 have ih0 := screeref01_Unlong.mono_l k
 unfold screeref01_Unlong.f
 repeat' first
   | (with_reducible exact ih0 _ _ _)
   | (with_reducible exact LeO.refl _)
   | (with_reducible exact LeO.none _)
   | (with_reducible refine LeO.ite ?_ ?_)
   | (with_reducible refine LeO.bind ?_ (fun _ => ?_))
   | exact ih0 _ _ _
   | exact LeO.none _
   | refine LeO.ite ?_ ?_
   | refine LeO.bind ?_ (fun _ => ?_)
set_option maxHeartbeats 8000000 in
set_option maxRecDepth 100000 in
theorem screeref01_Unlong.calls (k : Nat) (a0 : ByteArray) (r1 : Int) (r2 : Bool) (w : World) (h : screeref01_Unlong.f k a0 = some (r1, r2)) :
  Calls Try.prog 60 #[.string a0] w fun e w' => e = .returned (.tuple #[.int .u64 r1, .bool r2]) ∧ Drawn0 w w' := by
 have H : (if (a0.size : Int) = 8 then (screeref01_Unlong.l0 k a0 0 0) else (some (0, false))) = some (r1, r2) := h
 clear h
 by_cases c2 : (a0.size : Int) = 8
 rotate_left
 ·rw [if_neg c2] at H
  have c2b0 := beq_eq_false_iff_ne.mpr c2
  have c2b1 := bne_iff_ne.mpr c2
  simp only [Option.some.injEq, Prod.mk.injEq] at H
  obtain ⟨rfl, rfl⟩ := H
  go_enter Try.func60, Try.ntmps60
  go_wp2
  go_ret2
  exact ⟨rs_, dR_⟩
 rw [if_pos c2] at H
 have c2b0 := beq_iff_eq.mpr c2
 have c2b1 := bne_eq_false_iff_eq.mpr c2
 clear c2
 have H' := Aside0.mk H
 clear H
 go_enter Try.func60, Try.ntmps60
 go_wp2
 go_loopg [4, 5] k (fun kq v4 v5 w' => ∃ (x4_1 : Int) (x5_1 : Int), v4 = .int .u64 x4_1 ∧ v5 = .int .i64 x5_1 ∧ Aside0 (screeref01_Unlong.l0 kq a0 x4_1 x5_1 = some (r1, r2)) ∧ Aside0 (kq ≤ k) ∧ Drawn0 w w')
 case atStart => exact ⟨(0), (0), rs_, rs_, H', ⟨Nat.le_refl _⟩, dR_⟩
 case round =>
  clear H'
  try clear c2
  try clear c2b0
  try clear c2b1
  obtain ⟨x4_1, x5_1, rfl, rfl, HA, HK1, ⟨m1, rfl⟩⟩ := hrel
  cases gk with
  | zero => exact absurd HA.out (by simp [screeref01_Unlong.l0])
  | succ k1 =>
   have H := HA.out
   clear HA
   simp only [screeref01_Unlong.l0] at H
   by_cases c3 : x5_1 < 8
   rotate_left
   ·rw [if_neg c3] at H
    have c3b0 := decide_eq_false c3
    clear c3
    simp only [Option.some.injEq, Prod.mk.injEq] at H
    obtain ⟨rfl, rfl⟩ := H
    go_wp2
    go_ret2
    exact ⟨rs_, dR_⟩
   rw [if_pos c3] at H
   have c3b0 := decide_eq_true c3
   clear c3
   by_cases c4 : 0 ≤ x5_1
   rotate_left
   ·rw [if_neg c4] at H
    exact absurd H r34_
   rw [if_pos c4] at H
   have c4b0 := decide_eq_true c4
   clear c4
   by_cases c5 : x5_1 < (a0.size : Int)
   rotate_left
   ·rw [if_neg c5] at H
    exact absurd H r34_
   rw [if_pos c5] at H
   have c5b0 := decide_eq_true c5
   clear c5
   have H' := Aside0.mk H
   clear H
   have p6 : 0 ≤ (x5_1 : Int) := of_decide_eq_true as_
   have q6 : x5_1 < (a0.size : Int) := of_decide_eq_true as_
   have hx6 := bt_at a0 x5_1
   replace p6 := eq_true p6
   replace q6 := eq_true q6
   go_wp2
   go_roundg k1
   case measure => have := HK1.out; omega
   case rel => exact ⟨(IntKind.u64.wrap ((IntKind.u64.wrap (x4_1 * 256)) + (IntKind.u64.wrap (bt a0 x5_1)))), (wrap64 (x5_1 + 1)), rs_, rs_, hH_, ⟨by have := HK1.out; omega⟩, dR_⟩

/-! ### screeref01_Unfall: function 42 -/
def screeref01_Unfall.f (k : Nat) (a0 : ByteArray) : Option (Int × Bool) := (screeref01_Unlong.f k a0).bind fun bt315 => (if bt315.2 = true then ((screeref01_Turned.f bt315.1).bind fun t317 => (some (t317, true))) else (some (0, false)))
theorem screeref01_Unfall.mono : ∀ a0 k, LeO (screeref01_Unfall.f k a0) (screeref01_Unfall.f (k + 1) a0) := by
 intro a0 k
 unfold screeref01_Unfall.f
 repeat' first
   | (with_reducible exact LeO.refl _)
   | (with_reducible exact LeO.none _)
   | (with_reducible refine LeO.ite ?_ ?_)
   | (with_reducible refine LeO.bind ?_ (fun _ => ?_))
   | exact screeref01_Unlong.mono _ _
   | exact LeO.none _
   | refine LeO.ite ?_ ?_
   | refine LeO.bind ?_ (fun _ => ?_)
set_option maxHeartbeats 8000000 in
set_option maxRecDepth 100000 in
theorem screeref01_Unfall.calls (k : Nat) (a0 : ByteArray) (r1 : Int) (r2 : Bool) (w : World) (h : screeref01_Unfall.f k a0 = some (r1, r2)) :
  Calls Try.prog 42 #[.string a0] w fun e w' => e = .returned (.tuple #[.int .u64 r1, .bool r2]) ∧ Drawn0 w w' := by
 have H : ((screeref01_Unlong.f k a0).bind fun bt315 => (if bt315.2 = true then ((screeref01_Turned.f bt315.1).bind fun t317 => (some (t317, true))) else (some (0, false)))) = some (r1, r2) := h
 clear h
 replace H := Option.bind_eq_some_iff.mp H
 obtain ⟨⟨t315, t316⟩, A20, H⟩ := H
 try dsimp only at H
 have A2 := Aside0.mk A20
 clear A20
 by_cases c3 : t316 = true
 rotate_left
 ·replace c3 := Bool.eq_false_iff.mpr c3
  subst c3
  rw [if_neg ff_] at H
  simp only [Option.some.injEq, Prod.mk.injEq] at H
  obtain ⟨rfl, rfl⟩ := H
  go_enter Try.func42, Try.ntmps42
  go_wp2_with (first | ((with_reducible refine gate_callee (f := 60) rfl ?_); refine goesL_ (some 8) rfl rfl Try.func60 r6_ rfl #[.string a0] rfl hA_ ?_; (with_reducible refine (screeref01_Unlong.calls k a0 t315 false _ A2.out).mono ?_); rintro e w' ⟨rfl, ⟨nd, rfl⟩⟩; refine ⟨_, rfl, ?_⟩))
  go_ret2
  exact ⟨rs_, dR_⟩
 subst c3
 rw [if_pos rfl] at H
 replace H := Option.bind_eq_some_iff.mp H
 obtain ⟨t317, A40, H⟩ := H
 try dsimp only at H
 have A4 := Aside0.mk A40
 clear A40
 simp only [Option.some.injEq, Prod.mk.injEq] at H
 obtain ⟨rfl, rfl⟩ := H
 go_enter Try.func42, Try.ntmps42
 go_wp2_with (first | ((with_reducible refine gate_callee (f := 60) rfl ?_); refine goesL_ (some 8) rfl rfl Try.func60 r6_ rfl #[.string a0] rfl hA_ ?_; (with_reducible refine (screeref01_Unlong.calls k a0 t315 true _ A2.out).mono ?_); rintro e w' ⟨rfl, ⟨nd, rfl⟩⟩; refine ⟨_, rfl, ?_⟩) | ((with_reducible refine gate_callee (f := 47) rfl ?_); refine goesL_ (some 14) rfl rfl Try.func47 r6_ rfl #[.int .u64 t315] rfl hA_ ?_; (with_reducible refine (screeref01_Turned.calls t315 t317 _ A4.out).mono ?_); rintro e w' ⟨rfl, ⟨nd, rfl⟩⟩; refine ⟨_, rfl, ?_⟩))
 go_ret2
 exact ⟨rs_, dR_⟩

end Go.Proofs.Ytcdadhgcjkgnoaa.P
