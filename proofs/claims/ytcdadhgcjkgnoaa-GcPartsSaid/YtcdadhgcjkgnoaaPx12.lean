-- Printed by a program of this session's own (wip/tools/pprint.sh, over the kit's print, with given contracts): not typed by hand.
import Derived.Test.YtcdadhgcjkgnoaaPx0
import Derived.Test.YtcdadhgcjkgnoaaPx1
import Derived.Test.YtcdadhgcjkgnoaaPx8
import Derived.Test.YtcdadhgcjkgnoaaPx11
namespace Go.Proofs.Ytcdadhgcjkgnoaa.P
open Go.RowKit Go.Proofs.YtcdadhgcjkgnoaaW.PrintWords Go.Proofs.YtcdadhgcjkgnoaaW.PrintLast Go.Proofs.YtcdadhgcjkgnoaaW.PrintMore
set_option linter.unusedVariables false
set_option linter.unusedSimpArgs false

attribute [local go_sem high] eqA47
/-! ### screelaw17_large: function 11 -/
def screelaw17_large.l0 : Nat → List (S47) → Int → Int → Option (Bool)
  | 0, _, _, _ => none
  | k + 1, x0, x8, x9 => if x9 < x8 then (if 0 ≤ x9 then (if x9 < (x0.length : Int) then (if (((rd_T47 x0 x9).f0).size : Int) > 300 then (some true) else (if (((rd_T47 x0 x9).f3).size : Int) > 300 then (some true) else (screelaw17_large.l0 k x0 x8 (wrap64 (x9 + 1))))) else (none)) else (none)) else (some false)
def screelaw17_large.f (k : Nat) (l0 : List (S47)) : Option (Bool) := if (l0.length : Int) > 80 then (some true) else (screelaw17_large.l0 k l0 (l0.length : Int) 0)
theorem screelaw17_large.mono_l : ∀ k, (∀ y0 y1 y2, LeO (screelaw17_large.l0 k y0 y1 y2) (screelaw17_large.l0 (k + 1) y0 y1 y2))
  | 0 => fun _ _ _ r h => by simp [screelaw17_large.l0] at h
  | k + 1 => by
    have ih0 := screelaw17_large.mono_l k
    · intro y0 y1 y2
      unfold screelaw17_large.l0
      repeat' first
      | (with_reducible exact ih0 _ _ _)
      | (with_reducible exact LeO.refl _)
      | (with_reducible exact LeO.none _)
      | (with_reducible refine LeO.ite ?_ ?_)
      | (with_reducible refine LeO.bind ?_ (fun _ => ?_))
      | exact ih0 _ _ _
      | exact LeO.none _
      | refine LeO.ite ?_ ?_
      | refine LeO.bind ?_ (fun _ => ?_)
theorem screelaw17_large.mono : ∀ a0 k, LeO (screelaw17_large.f k a0) (screelaw17_large.f (k + 1) a0) := by
  intro a0 k
  have ih0 := screelaw17_large.mono_l k
  unfold screelaw17_large.f
  repeat' first
      | (with_reducible exact ih0 _ _ _)
      | (with_reducible exact LeO.refl _)
      | (with_reducible exact LeO.none _)
      | (with_reducible refine LeO.ite ?_ ?_)
      | (with_reducible refine LeO.bind ?_ (fun _ => ?_))
      | exact ih0 _ _ _
      | exact LeO.none _
      | refine LeO.ite ?_ ?_
      | refine LeO.bind ?_ (fun _ => ?_)
set_option maxHeartbeats 8000000 in
set_option maxRecDepth 100000 in
theorem screelaw17_large.calls (k : Nat) (A0 : Option Addr) (c0 : Nat) (l0 : List (S47)) (r : Bool) (w : World) (hr0 : Kd.C k47 w A0 l0.length l0) (hc0 : l0.length ≤ c0) (h : screelaw17_large.f k l0 = some r) :
    Calls Try.prog 11 #[.slice A0 l0.length c0] w fun e w' => e = .returned (.bool r) ∧ Drawn0 w w' := by
  have HR0 := Aside0.mk hr0
  have HC0 := Aside0.mk hc0
  clear hr0 hc0
  have H : (if (l0.length : Int) > 80 then (some true) else (screelaw17_large.l0 k l0 (l0.length : Int) 0)) = some r := h
  clear h
  by_cases c2 : (l0.length : Int) > 80
  · rw [if_pos c2] at H
    have c2b0 : decide (80 < (l0.length : Int)) = true := decide_eq_true c2
    have c2b1 : decide (80 < l0.length) = true := decide_eq_true (by omega)
    clear c2
    obtain rfl := Option.some.inj H
    go_enter Try.func11, Try.ntmps11
    go_wp2
    go_ret
    exact ⟨by first | rfl | (simp; done) | (simp [*]; done), by repeat (first | exact Drawn0.refl _ | apply Drawn0.step)⟩
  · rw [if_neg c2] at H
    have c2b0 : decide (80 < (l0.length : Int)) = false := decide_eq_false c2
    have c2b1 : decide (80 < l0.length) = false := decide_eq_false (by omega)
    clear c2
    have H' := Aside0.mk H
    clear H
    go_enter Try.func11, Try.ntmps11
    go_wp2
    go_loopg [9] k (fun kq v9 w' => ∃ (x9_1 : Int), v9 = .int .i64 x9_1 ∧ Aside0 (screelaw17_large.l0 kq l0 (l0.length : Int) x9_1 = some r) ∧ Aside0 (kq ≤ k) ∧ Drawn0 w w')
    case atStart => exact ⟨(0), (by first | rfl | (simp; done) | (simp [*]; done)), H', ⟨Nat.le_refl _⟩, by repeat (first | exact Drawn0.refl _ | apply Drawn0.step)⟩
    case round =>
      clear H'
      try clear c1
      try clear c2
      try clear c2b0
      try clear c2b1
      try clear p2
      obtain ⟨x9_1, rfl, HA, HK1, ⟨m1, rfl⟩⟩ := hrel
      cases gk with
      | zero => exact absurd HA.out (by simp [screelaw17_large.l0])
      | succ k1 =>
        have H := HA.out
        clear HA
        simp only [screelaw17_large.l0] at H
        by_cases c3 : x9_1 < (l0.length : Int)
        · rw [if_pos c3] at H
          have c3b0 : decide (x9_1 < (l0.length : Int)) = true := decide_eq_true c3
          clear c3
          by_cases c4 : 0 ≤ x9_1
          · rw [if_pos c4] at H
            have c4b0 : decide (0 ≤ x9_1) = true := decide_eq_true c4
            clear c4
            by_cases c5 : x9_1 < (l0.length : Int)
            · rw [if_pos c5] at H
              have c5b0 : decide (x9_1 < (l0.length : Int)) = true := decide_eq_true c5
              clear c5
              by_cases c6 : (((rd_T47 l0 x9_1).f0).size : Int) > 300
              · rw [if_pos c6] at H
                have c6b0 : decide (300 < (((rd_T47 l0 x9_1).f0).size : Int)) = true := decide_eq_true c6
                have c6b1 : decide (300 < ((rd_T47 l0 x9_1).f0).size) = true := decide_eq_true (by omega)
                clear c6
                obtain rfl := Option.some.inj H
                have p303 : 0 ≤ (x9_1 : Int) := of_decide_eq_true (by first | (with_reducible assumption) | assumption)
                have q303 : x9_1 < (l0.length : Int) := of_decide_eq_true (by first | (with_reducible assumption) | assumption)
                obtain ⟨ad303, e303, hx303_0, hx303_1, hx303_2, hx303_3⟩ := at_T47 HR0.out x9_1 p303 q303
                cases e303
                replace p303 := eq_true p303
                replace q303 := eq_true q303
                go_wp2
                go_ret
                exact ⟨by first | rfl | (simp; done) | (simp [*]; done), by repeat (first | exact Drawn0.refl _ | apply Drawn0.step)⟩
              · rw [if_neg c6] at H
                have c6b0 : decide (300 < (((rd_T47 l0 x9_1).f0).size : Int)) = false := decide_eq_false c6
                have c6b1 : decide (300 < ((rd_T47 l0 x9_1).f0).size) = false := decide_eq_false (by omega)
                clear c6
                by_cases c7 : (((rd_T47 l0 x9_1).f3).size : Int) > 300
                · rw [if_pos c7] at H
                  have c7b0 : decide (300 < (((rd_T47 l0 x9_1).f3).size : Int)) = true := decide_eq_true c7
                  have c7b1 : decide (300 < ((rd_T47 l0 x9_1).f3).size) = true := decide_eq_true (by omega)
                  clear c7
                  obtain rfl := Option.some.inj H
                  have p303 : 0 ≤ (x9_1 : Int) := of_decide_eq_true (by first | (with_reducible assumption) | assumption)
                  have q303 : x9_1 < (l0.length : Int) := of_decide_eq_true (by first | (with_reducible assumption) | assumption)
                  obtain ⟨ad303, e303, hx303_0, hx303_1, hx303_2, hx303_3⟩ := at_T47 HR0.out x9_1 p303 q303
                  cases e303
                  replace p303 := eq_true p303
                  replace q303 := eq_true q303
                  have p304 : 0 ≤ (x9_1 : Int) := of_decide_eq_true (by first | (with_reducible assumption) | assumption)
                  have q304 : x9_1 < (l0.length : Int) := of_decide_eq_true (by first | (with_reducible assumption) | assumption)
                  obtain ⟨ad304, e304, hx304_0, hx304_1, hx304_2, hx304_3⟩ := at_T47 HR0.out x9_1 p304 q304
                  obtain rfl : ad303 = ad304 := (by injection e304)
                  replace p304 := eq_true p304
                  replace q304 := eq_true q304
                  go_wp2
                  go_ret
                  exact ⟨by first | rfl | (simp; done) | (simp [*]; done), by repeat (first | exact Drawn0.refl _ | apply Drawn0.step)⟩
                · rw [if_neg c7] at H
                  have c7b0 : decide (300 < (((rd_T47 l0 x9_1).f3).size : Int)) = false := decide_eq_false c7
                  have c7b1 : decide (300 < ((rd_T47 l0 x9_1).f3).size) = false := decide_eq_false (by omega)
                  clear c7
                  have H' := Aside0.mk H
                  clear H
                  have p303 : 0 ≤ (x9_1 : Int) := of_decide_eq_true (by first | (with_reducible assumption) | assumption)
                  have q303 : x9_1 < (l0.length : Int) := of_decide_eq_true (by first | (with_reducible assumption) | assumption)
                  obtain ⟨ad303, e303, hx303_0, hx303_1, hx303_2, hx303_3⟩ := at_T47 HR0.out x9_1 p303 q303
                  cases e303
                  replace p303 := eq_true p303
                  replace q303 := eq_true q303
                  have p304 : 0 ≤ (x9_1 : Int) := of_decide_eq_true (by first | (with_reducible assumption) | assumption)
                  have q304 : x9_1 < (l0.length : Int) := of_decide_eq_true (by first | (with_reducible assumption) | assumption)
                  obtain ⟨ad304, e304, hx304_0, hx304_1, hx304_2, hx304_3⟩ := at_T47 HR0.out x9_1 p304 q304
                  obtain rfl : ad303 = ad304 := (by injection e304)
                  replace p304 := eq_true p304
                  replace q304 := eq_true q304
                  go_wp2
                  go_roundg k1
                  case measure => have := HK1.out; omega
                  case rel => exact ⟨(wrap64 (x9_1 + 1)), (by first | rfl | (simp; done) | (simp [*]; done)), (by first | (with_reducible exact H') | exact H' | (subst_vars; exact H')), ⟨by have := HK1.out; omega⟩, by repeat (first | exact Drawn0.refl _ | apply Drawn0.step)⟩
            · rw [if_neg c5] at H
              exact absurd H (by simp)
          · rw [if_neg c4] at H
            exact absurd H (by simp)
        · rw [if_neg c3] at H
          have c3b0 : decide (x9_1 < (l0.length : Int)) = false := decide_eq_false c3
          clear c3
          obtain rfl := Option.some.inj H
          go_wp2
          go_ret
          exact ⟨by first | rfl | (simp; done) | (simp [*]; done), by repeat (first | exact Drawn0.refl _ | apply Drawn0.step)⟩

/-! ### screelaw17_GcParts: function 6 -/
mutual
def screelaw17_GcParts.l0 : Nat → List (S47) → List ByteArray → List (S47) → Int → Int → Option (Bool)
  | 0, _, _, _, _, _ => none
  | k + 1, x0, x5, x7, x48, x49 => if x49 < x48 then (if (x5.length : Int) > 0 then (if 0 < (x5.length : Int) then (if 0 ≤ x49 then (if x49 < (x0.length : Int) then (screelaw17_GcParts.j1 k x0 x5 x7 x49 x48 x49 ((rdOf ByteArray.empty x5 0).toList == ((rd_T47 x0 x49).f0).toList)) else (none)) else (none)) else (none)) else (screelaw17_GcParts.j1 k x0 x5 x7 x49 x48 x49 false)) else (some true)
def screelaw17_GcParts.j1 : Nat → List (S47) → List ByteArray → List (S47) → Int → Int → Int → Bool → Option (Bool)
  | 0, _, _, _, _, _, _, _ => none
  | k + 1, x0, x5, x7, x9, x48, x49, x65 => if x65 = true then (if 1 ≤ (x5.length : Int) then (screelaw17_GcParts.l0 k x0 (x5.drop (1 : Int).toNat) x7 x48 (wrap64 (x49 + 1))) else (none)) else (if (x7.length : Int) = 0 then (none) else (if 0 < (x7.length : Int) then (if 0 ≤ x9 then (if x9 < (x0.length : Int) then (if (!((((rd_T47 x7 0).f0).toList) == (((rd_T47 x0 x9).f0).toList)) || (!(((rd_T47 x7 0).f1) == ((rd_T47 x0 x9).f1)) || (!(((rd_T47 x7 0).f2) == ((rd_T47 x0 x9).f2)) || (!((((rd_T47 x7 0).f3).toList) == (((rd_T47 x0 x9).f3).toList)))))) = true then (none) else (if 1 ≤ (x7.length : Int) then (screelaw17_GcParts.l0 k x0 x5 (x7.drop (1 : Int).toNat) x48 (wrap64 (x49 + 1))) else (none))) else (none)) else (none)) else (none)))
end
def screelaw17_GcParts.f (k : Nat) (l0 : List (S47)) (a1 : Int) : Option (Bool) := (screelaw17_awake.f k).bind fun t305 => (if t305 = true then ((screelaw17_large.f k l0).bind fun t306 => (if t306 = true then (some true) else ((gc_Garbage.f k l0 a1).bind fun bt307 => ((gc_Left.f k l0 a1).bind fun bt311 => (if bt307.2 = bt311.2 then (if bt307.2 = 0 then (if (wrap64 ((bt307.1.length : Int) + (bt311.1.length : Int))) = (l0.length : Int) then (screelaw17_GcParts.l0 k l0 bt307.1 bt311.1 (l0.length : Int) 0) else (none)) else (if (bt307.1.length : Int) = 0 then (some ((bt311.1.length : Int) == 0)) else (none))) else (none)))))) else (none))
theorem screelaw17_GcParts.mono_l : ∀ k, (∀ y0 y1 y2 y3 y4, LeO (screelaw17_GcParts.l0 k y0 y1 y2 y3 y4) (screelaw17_GcParts.l0 (k + 1) y0 y1 y2 y3 y4)) ∧ (∀ y0 y1 y2 y3 y4 y5 y6, LeO (screelaw17_GcParts.j1 k y0 y1 y2 y3 y4 y5 y6) (screelaw17_GcParts.j1 (k + 1) y0 y1 y2 y3 y4 y5 y6))
  | 0 => ⟨fun _ _ _ _ _ r h => by simp [screelaw17_GcParts.l0] at h, fun _ _ _ _ _ _ _ r h => by simp [screelaw17_GcParts.j1] at h⟩
  | k + 1 => by
    obtain ⟨ih0, ih1⟩ := screelaw17_GcParts.mono_l k
    refine ⟨?_, ?_⟩
    · intro y0 y1 y2 y3 y4
      unfold screelaw17_GcParts.l0
      repeat' first
      | (with_reducible exact ih0 _ _ _ _ _)
      | (with_reducible exact ih1 _ _ _ _ _ _ _)
      | (with_reducible exact gc_Garbage.mono _ _ _)
      | (with_reducible exact gc_Left.mono _ _ _)
      | (with_reducible exact screelaw17_awake.mono _)
      | (with_reducible exact screelaw17_large.mono _ _)
      | (with_reducible exact LeO.refl _)
      | (with_reducible exact LeO.none _)
      | (with_reducible refine LeO.ite ?_ ?_)
      | (with_reducible refine LeO.bind ?_ (fun _ => ?_))
      | exact ih0 _ _ _ _ _
      | exact ih1 _ _ _ _ _ _ _
      | exact gc_Garbage.mono _ _ _
      | exact gc_Left.mono _ _ _
      | exact screelaw17_awake.mono _
      | exact screelaw17_large.mono _ _
      | exact LeO.none _
      | refine LeO.ite ?_ ?_
      | refine LeO.bind ?_ (fun _ => ?_)
    · intro y0 y1 y2 y3 y4 y5 y6
      unfold screelaw17_GcParts.j1
      repeat' first
      | (with_reducible exact ih0 _ _ _ _ _)
      | (with_reducible exact ih1 _ _ _ _ _ _ _)
      | (with_reducible exact gc_Garbage.mono _ _ _)
      | (with_reducible exact gc_Left.mono _ _ _)
      | (with_reducible exact screelaw17_awake.mono _)
      | (with_reducible exact screelaw17_large.mono _ _)
      | (with_reducible exact LeO.refl _)
      | (with_reducible exact LeO.none _)
      | (with_reducible refine LeO.ite ?_ ?_)
      | (with_reducible refine LeO.bind ?_ (fun _ => ?_))
      | exact ih0 _ _ _ _ _
      | exact ih1 _ _ _ _ _ _ _
      | exact gc_Garbage.mono _ _ _
      | exact gc_Left.mono _ _ _
      | exact screelaw17_awake.mono _
      | exact screelaw17_large.mono _ _
      | exact LeO.none _
      | refine LeO.ite ?_ ?_
      | refine LeO.bind ?_ (fun _ => ?_)
theorem screelaw17_GcParts.mono : ∀ a0 a1 k, LeO (screelaw17_GcParts.f k a0 a1) (screelaw17_GcParts.f (k + 1) a0 a1) := by
  intro a0 a1 k
  obtain ⟨ih0, ih1⟩ := screelaw17_GcParts.mono_l k
  unfold screelaw17_GcParts.f
  repeat' first
      | (with_reducible exact ih0 _ _ _ _ _)
      | (with_reducible exact ih1 _ _ _ _ _ _ _)
      | (with_reducible exact gc_Garbage.mono _ _ _)
      | (with_reducible exact gc_Left.mono _ _ _)
      | (with_reducible exact screelaw17_awake.mono _)
      | (with_reducible exact screelaw17_large.mono _ _)
      | (with_reducible exact LeO.refl _)
      | (with_reducible exact LeO.none _)
      | (with_reducible refine LeO.ite ?_ ?_)
      | (with_reducible refine LeO.bind ?_ (fun _ => ?_))
      | exact ih0 _ _ _ _ _
      | exact ih1 _ _ _ _ _ _ _
      | exact gc_Garbage.mono _ _ _
      | exact gc_Left.mono _ _ _
      | exact screelaw17_awake.mono _
      | exact screelaw17_large.mono _ _
      | exact LeO.none _
      | refine LeO.ite ?_ ?_
      | refine LeO.bind ?_ (fun _ => ?_)
set_option maxHeartbeats 8000000 in
set_option maxRecDepth 100000 in
theorem screelaw17_GcParts.calls (k : Nat) (A0 : Option Addr) (c0 : Nat) (l0 : List (S47)) (a1 : Int) (r : Bool) (w : World) (hr0 : Kd.C k47 w A0 l0.length l0) (hc0 : l0.length ≤ c0) (h : screelaw17_GcParts.f k l0 a1 = some r) :
    Calls Try.prog 6 #[.slice A0 l0.length c0, .int .u64 a1] w fun e w' => e = .returned (.bool r) ∧ Below w.heap.size w w' := by
  have hu47 := Try.underlying47
  have HR0 := Aside0.mk hr0
  have HC0 := Aside0.mk hc0
  clear hr0 hc0
  have HB := Aside0.mk (Below.refl w.heap.size w)
  have H : ((screelaw17_awake.f k).bind fun t305 => (if t305 = true then ((screelaw17_large.f k l0).bind fun t306 => (if t306 = true then (some true) else ((gc_Garbage.f k l0 a1).bind fun bt307 => ((gc_Left.f k l0 a1).bind fun bt311 => (if bt307.2 = bt311.2 then (if bt307.2 = 0 then (if (wrap64 ((bt307.1.length : Int) + (bt311.1.length : Int))) = (l0.length : Int) then (screelaw17_GcParts.l0 k l0 bt307.1 bt311.1 (l0.length : Int) 0) else (none)) else (if (bt307.1.length : Int) = 0 then (some ((bt311.1.length : Int) == 0)) else (none))) else (none)))))) else (none))) = some r := h
  clear h
  replace H := Option.bind_eq_some_iff.mp H
  obtain ⟨t305, A30, H⟩ := H
  replace H : (if t305 = true then ((screelaw17_large.f k l0).bind fun t306 => (if t306 = true then (some true) else ((gc_Garbage.f k l0 a1).bind fun bt307 => ((gc_Left.f k l0 a1).bind fun bt311 => (if bt307.2 = bt311.2 then (if bt307.2 = 0 then (if (wrap64 ((bt307.1.length : Int) + (bt311.1.length : Int))) = (l0.length : Int) then (screelaw17_GcParts.l0 k l0 bt307.1 bt311.1 (l0.length : Int) 0) else (none)) else (if (bt307.1.length : Int) = 0 then (some ((bt311.1.length : Int) == 0)) else (none))) else (none)))))) else (none)) = some r := H
  have A3 := Aside0.mk A30
  clear A30
  by_cases c4 : t305 = true
  · subst c4
    have H1 : ((screelaw17_large.f k l0).bind fun t306 => (if t306 = true then (some true) else ((gc_Garbage.f k l0 a1).bind fun bt307 => ((gc_Left.f k l0 a1).bind fun bt311 => (if bt307.2 = bt311.2 then (if bt307.2 = 0 then (if (wrap64 ((bt307.1.length : Int) + (bt311.1.length : Int))) = (l0.length : Int) then (screelaw17_GcParts.l0 k l0 bt307.1 bt311.1 (l0.length : Int) 0) else (none)) else (if (bt307.1.length : Int) = 0 then (some ((bt311.1.length : Int) == 0)) else (none))) else (none)))))) = some r := by rw [if_pos rfl] at H; exact H
    clear H
    have H := H1
    clear H1
    replace H := Option.bind_eq_some_iff.mp H
    obtain ⟨t306, A50, H⟩ := H
    replace H : (if t306 = true then (some true) else ((gc_Garbage.f k l0 a1).bind fun bt307 => ((gc_Left.f k l0 a1).bind fun bt311 => (if bt307.2 = bt311.2 then (if bt307.2 = 0 then (if (wrap64 ((bt307.1.length : Int) + (bt311.1.length : Int))) = (l0.length : Int) then (screelaw17_GcParts.l0 k l0 bt307.1 bt311.1 (l0.length : Int) 0) else (none)) else (if (bt307.1.length : Int) = 0 then (some ((bt311.1.length : Int) == 0)) else (none))) else (none))))) = some r := H
    have A5 := Aside0.mk A50
    clear A50
    by_cases c6 : t306 = true
    · subst c6
      have H1 : (some true) = some r := by rw [if_pos rfl] at H; exact H
      clear H
      have H := H1
      clear H1
      obtain rfl := Option.some.inj H
      go_enter Try.func6, Try.ntmps6
      go_wp2_with (first | (go_at_call 10; (with_reducible refine (screelaw17_awake.calls k  true _ A3.out).mono ?_); rintro e w7 ⟨rfl, hb⟩; have n0_ := Aside0.mk (below_step (by repeat (first | (with_reducible first | exact HB.out | apply below_alloc | apply pw_below_drewN | apply below_drew1) | exact HB.out)) hb); clear HB; have HB := n0_; clear n0_; (try clear hb); (try clear hb2); (try clear hk); (try clear hi); (try clear A3)) | (go_at_call 11; (with_reducible refine (screelaw17_large.calls k _ _ l0 true _ ?side1 ?side2 A5.out).mono ?_); (case side1 => repeat (first | exact (Kd.C_below HR0.out HB.out) | (with_reducible refine Kd.C_alloc ?_ _) | (with_reducible refine Kd.C_drewN ?_ _) | (with_reducible refine Kd.C_drew ?_))); (case side2 => exact HC0.out); rintro e w' ⟨rfl, ⟨nd, rfl⟩⟩; (try first | exact ⟨rfl, _, World.drewN_drewN _ _ _⟩ | exact ⟨rfl, _, Eq.trans (World.drewN_drewN _ _ _) (congrArg (World.drewN _) (Nat.add_assoc _ _ _))⟩)))
      repeat (go_quiet (first | (go_at_call 10; (with_reducible refine (screelaw17_awake.calls k  true _ A3.out).mono ?_); rintro e w7 ⟨rfl, hb⟩; have n0_ := Aside0.mk (below_step (by repeat (first | (with_reducible first | exact HB.out | apply below_alloc | apply pw_below_drewN | apply below_drew1) | exact HB.out)) hb); clear HB; have HB := n0_; clear n0_; (try clear hb); (try clear hb2); (try clear hk); (try clear hi); (try clear A3)) | (go_at_call 11; (with_reducible refine (screelaw17_large.calls k _ _ l0 true _ ?side1 ?side2 A5.out).mono ?_); (case side1 => repeat (first | exact (Kd.C_below HR0.out HB.out) | (with_reducible refine Kd.C_alloc ?_ _) | (with_reducible refine Kd.C_drewN ?_ _) | (with_reducible refine Kd.C_drew ?_))); (case side2 => exact HC0.out); rintro e w' ⟨rfl, ⟨nd, rfl⟩⟩; (try first | exact ⟨rfl, _, World.drewN_drewN _ _ _⟩ | exact ⟨rfl, _, Eq.trans (World.drewN_drewN _ _ _) (congrArg (World.drewN _) (Nat.add_assoc _ _ _))⟩))); try go_wp2_with (first | (go_at_call 10; (with_reducible refine (screelaw17_awake.calls k  true _ A3.out).mono ?_); rintro e w7 ⟨rfl, hb⟩; have n0_ := Aside0.mk (below_step (by repeat (first | (with_reducible first | exact HB.out | apply below_alloc | apply pw_below_drewN | apply below_drew1) | exact HB.out)) hb); clear HB; have HB := n0_; clear n0_; (try clear hb); (try clear hb2); (try clear hk); (try clear hi); (try clear A3)) | (go_at_call 11; (with_reducible refine (screelaw17_large.calls k _ _ l0 true _ ?side1 ?side2 A5.out).mono ?_); (case side1 => repeat (first | exact (Kd.C_below HR0.out HB.out) | (with_reducible refine Kd.C_alloc ?_ _) | (with_reducible refine Kd.C_drewN ?_ _) | (with_reducible refine Kd.C_drew ?_))); (case side2 => exact HC0.out); rintro e w' ⟨rfl, ⟨nd, rfl⟩⟩; (try first | exact ⟨rfl, _, World.drewN_drewN _ _ _⟩ | exact ⟨rfl, _, Eq.trans (World.drewN_drewN _ _ _) (congrArg (World.drewN _) (Nat.add_assoc _ _ _))⟩))))
      go_ret
      exact ⟨by first | rfl | (simp [errW_none, errW_some] <;> rfl) | (simp (disch := omega) only [← i64_w, IntWalk.i64_in]; rfl) | (simp [*, errW_none, errW_some] <;> rfl), by repeat (first | (with_reducible first | exact HB.out | apply below_alloc | apply pw_below_drewN | apply below_drew1) | exact HB.out)⟩
    · replace c6 := Bool.eq_false_iff.mpr c6
      subst c6
      have H1 : ((gc_Garbage.f k l0 a1).bind fun bt307 => ((gc_Left.f k l0 a1).bind fun bt311 => (if bt307.2 = bt311.2 then (if bt307.2 = 0 then (if (wrap64 ((bt307.1.length : Int) + (bt311.1.length : Int))) = (l0.length : Int) then (screelaw17_GcParts.l0 k l0 bt307.1 bt311.1 (l0.length : Int) 0) else (none)) else (if (bt307.1.length : Int) = 0 then (some ((bt311.1.length : Int) == 0)) else (none))) else (none)))) = some r := by rw [if_neg (show ¬ (false = true) by decide)] at H; exact H
      clear H
      have H := H1
      clear H1
      replace H := Option.bind_eq_some_iff.mp H
      obtain ⟨⟨t307, t308⟩, A80, H⟩ := H
      replace H : ((gc_Left.f k l0 a1).bind fun bt311 => (if t308 = bt311.2 then (if t308 = 0 then (if (wrap64 ((t307.length : Int) + (bt311.1.length : Int))) = (l0.length : Int) then (screelaw17_GcParts.l0 k l0 t307 bt311.1 (l0.length : Int) 0) else (none)) else (if (t307.length : Int) = 0 then (some ((bt311.1.length : Int) == 0)) else (none))) else (none))) = some r := H
      have A8 := Aside0.mk A80
      clear A80
      replace H := Option.bind_eq_some_iff.mp H
      obtain ⟨⟨t311, t312⟩, A90, H⟩ := H
      replace H : (if t308 = t312 then (if t308 = 0 then (if (wrap64 ((t307.length : Int) + (t311.length : Int))) = (l0.length : Int) then (screelaw17_GcParts.l0 k l0 t307 t311 (l0.length : Int) 0) else (none)) else (if (t307.length : Int) = 0 then (some ((t311.length : Int) == 0)) else (none))) else (none)) = some r := H
      have A9 := Aside0.mk A90
      clear A90
      by_cases c10 : t308 = t312
      · rw [if_pos c10] at H
        have c10b0 : (t308 == t312) = true := beq_iff_eq.mpr c10
        have c10b1 : (t308 != t312) = false := bne_eq_false_iff_eq.mpr c10
        clear c10
        by_cases c11 : t308 = 0
        · rw [if_pos c11] at H
          have c11b0 : (t308 == 0) = true := beq_iff_eq.mpr c11
          have c11b1 : (t308 != 0) = false := bne_eq_false_iff_eq.mpr c11
          clear c11
          by_cases c12 : (wrap64 ((t307.length : Int) + (t311.length : Int))) = (l0.length : Int)
          · rw [if_pos c12] at H
            have c12b0 : ((wrap64 ((t307.length : Int) + (t311.length : Int))) == (l0.length : Int)) = true := beq_iff_eq.mpr c12
            have c12b1 : ((wrap64 ((t307.length : Int) + (t311.length : Int))) != (l0.length : Int)) = false := bne_eq_false_iff_eq.mpr c12
            clear c12
            have H' := Aside0.mk H
            clear H
            go_enter Try.func6, Try.ntmps6
            go_wp2_with (first | (go_at_call 10; (with_reducible refine (screelaw17_awake.calls k  true _ A3.out).mono ?_); rintro e w13 ⟨rfl, hb⟩; have n0_ := Aside0.mk (below_step (by repeat (first | (with_reducible first | exact HB.out | apply below_alloc | apply pw_below_drewN | apply below_drew1) | exact HB.out)) hb); clear HB; have HB := n0_; clear n0_; (try clear hb); (try clear hb2); (try clear hk); (try clear hi); (try clear A3)) | (go_at_call 11; (with_reducible refine (screelaw17_large.calls k _ _ l0 false _ ?side1 ?side2 A5.out).mono ?_); (case side1 => repeat (first | exact (Kd.C_below HR0.out HB.out) | (with_reducible refine Kd.C_alloc ?_ _) | (with_reducible refine Kd.C_drewN ?_ _) | (with_reducible refine Kd.C_drew ?_))); (case side2 => exact HC0.out); rintro e w' ⟨rfl, ⟨nd, rfl⟩⟩; (try first | exact ⟨rfl, _, World.drewN_drewN _ _ _⟩ | exact ⟨rfl, _, Eq.trans (World.drewN_drewN _ _ _) (congrArg (World.drewN _) (Nat.add_assoc _ _ _))⟩)) | (go_at_call 12; (with_reducible refine (gc_Garbage.calls k _ _ l0 a1 t307 t308 _ ?side1 ?side2 A8.out).mono ?_); (case side1 => repeat (first | exact (Kd.C_below HR0.out (by repeat (first | (with_reducible first | exact HB.out | apply below_alloc | apply pw_below_drewN | apply below_drew1) | exact HB.out))) | (with_reducible refine Kd.C_alloc ?_ _) | (with_reducible refine Kd.C_drewN ?_ _) | (with_reducible refine Kd.C_drew ?_))); (case side2 => exact HC0.out); rintro e w14 ⟨v309, rfl, ho0, hb⟩; have n0_ := Aside0.mk (Kd.R_lower ho0 (below_size (by repeat (first | (with_reducible first | exact HB.out | apply below_alloc | apply pw_below_drewN | apply below_drew1) | exact HB.out)))); have n1_ := Aside0.mk (below_step (by repeat (first | (with_reducible first | exact HB.out | apply below_alloc | apply pw_below_drewN | apply below_drew1) | exact HB.out)) hb); clear HB; have HO310 := n0_; have HB := n1_; clear n0_ n1_; (try clear hb); (try clear hb2); (try clear hk); (try clear hi); (try clear ho0); (try clear A8)) | (go_at_call 14; (with_reducible refine (gc_Left.calls k _ _ l0 a1 t311 t312 _ ?side1 ?side2 A9.out).mono ?_); (case side1 => repeat (first | exact (Kd.C_below HR0.out HB.out) | (with_reducible refine Kd.C_alloc ?_ _) | (with_reducible refine Kd.C_drewN ?_ _) | (with_reducible refine Kd.C_drew ?_))); (case side2 => exact HC0.out); rintro e w15 ⟨v313, rfl, ho0, hb⟩; have n0_ := Aside0.mk (Kd.R_below (by (with_reducible repeat (first | apply Kd.R_alloc | apply Kd.R_drewN | apply Kd.R_drew)); exact HO310.out) hb); have n1_ := Aside0.mk (Kd.R_lower ho0 (below_size (by repeat (first | (with_reducible first | exact HB.out | apply below_alloc | apply pw_below_drewN | apply below_drew1) | exact HB.out)))); have n2_ := Aside0.mk (below_step (by repeat (first | (with_reducible first | exact HB.out | apply below_alloc | apply pw_below_drewN | apply below_drew1) | exact HB.out)) hb); clear HO310; clear HB; have HO310 := n0_; have HO314 := n1_; have HB := n2_; clear n0_ n1_ n2_; (try clear hb); (try clear hb2); (try clear hk); (try clear hi); (try clear ho0); (try clear A9); obtain ⟨Ao16, co16, eo16⟩ := Kd.R_slice HO310.out; subst eo16; obtain ⟨Ao17, co17, eo17⟩ := Kd.R_slice HO314.out; subst eo17))
            repeat (go_quiet (first | (go_at_call 10; (with_reducible refine (screelaw17_awake.calls k  true _ A3.out).mono ?_); rintro e w13 ⟨rfl, hb⟩; have n0_ := Aside0.mk (below_step (by repeat (first | (with_reducible first | exact HB.out | apply below_alloc | apply pw_below_drewN | apply below_drew1) | exact HB.out)) hb); clear HB; have HB := n0_; clear n0_; (try clear hb); (try clear hb2); (try clear hk); (try clear hi); (try clear A3)) | (go_at_call 11; (with_reducible refine (screelaw17_large.calls k _ _ l0 false _ ?side1 ?side2 A5.out).mono ?_); (case side1 => repeat (first | exact (Kd.C_below HR0.out HB.out) | (with_reducible refine Kd.C_alloc ?_ _) | (with_reducible refine Kd.C_drewN ?_ _) | (with_reducible refine Kd.C_drew ?_))); (case side2 => exact HC0.out); rintro e w' ⟨rfl, ⟨nd, rfl⟩⟩; (try first | exact ⟨rfl, _, World.drewN_drewN _ _ _⟩ | exact ⟨rfl, _, Eq.trans (World.drewN_drewN _ _ _) (congrArg (World.drewN _) (Nat.add_assoc _ _ _))⟩)) | (go_at_call 12; (with_reducible refine (gc_Garbage.calls k _ _ l0 a1 t307 t308 _ ?side1 ?side2 A8.out).mono ?_); (case side1 => repeat (first | exact (Kd.C_below HR0.out (by repeat (first | (with_reducible first | exact HB.out | apply below_alloc | apply pw_below_drewN | apply below_drew1) | exact HB.out))) | (with_reducible refine Kd.C_alloc ?_ _) | (with_reducible refine Kd.C_drewN ?_ _) | (with_reducible refine Kd.C_drew ?_))); (case side2 => exact HC0.out); rintro e w14 ⟨v309, rfl, ho0, hb⟩; have n0_ := Aside0.mk (Kd.R_lower ho0 (below_size (by repeat (first | (with_reducible first | exact HB.out | apply below_alloc | apply pw_below_drewN | apply below_drew1) | exact HB.out)))); have n1_ := Aside0.mk (below_step (by repeat (first | (with_reducible first | exact HB.out | apply below_alloc | apply pw_below_drewN | apply below_drew1) | exact HB.out)) hb); clear HB; have HO310 := n0_; have HB := n1_; clear n0_ n1_; (try clear hb); (try clear hb2); (try clear hk); (try clear hi); (try clear ho0); (try clear A8)) | (go_at_call 14; (with_reducible refine (gc_Left.calls k _ _ l0 a1 t311 t312 _ ?side1 ?side2 A9.out).mono ?_); (case side1 => repeat (first | exact (Kd.C_below HR0.out HB.out) | (with_reducible refine Kd.C_alloc ?_ _) | (with_reducible refine Kd.C_drewN ?_ _) | (with_reducible refine Kd.C_drew ?_))); (case side2 => exact HC0.out); rintro e w15 ⟨v313, rfl, ho0, hb⟩; have n0_ := Aside0.mk (Kd.R_below (by (with_reducible repeat (first | apply Kd.R_alloc | apply Kd.R_drewN | apply Kd.R_drew)); exact HO310.out) hb); have n1_ := Aside0.mk (Kd.R_lower ho0 (below_size (by repeat (first | (with_reducible first | exact HB.out | apply below_alloc | apply pw_below_drewN | apply below_drew1) | exact HB.out)))); have n2_ := Aside0.mk (below_step (by repeat (first | (with_reducible first | exact HB.out | apply below_alloc | apply pw_below_drewN | apply below_drew1) | exact HB.out)) hb); clear HO310; clear HB; have HO310 := n0_; have HO314 := n1_; have HB := n2_; clear n0_ n1_ n2_; (try clear hb); (try clear hb2); (try clear hk); (try clear hi); (try clear ho0); (try clear A9); obtain ⟨Ao16, co16, eo16⟩ := Kd.R_slice HO310.out; subst eo16; obtain ⟨Ao17, co17, eo17⟩ := Kd.R_slice HO314.out; subst eo17)); try go_wp2_with (first | (go_at_call 10; (with_reducible refine (screelaw17_awake.calls k  true _ A3.out).mono ?_); rintro e w13 ⟨rfl, hb⟩; have n0_ := Aside0.mk (below_step (by repeat (first | (with_reducible first | exact HB.out | apply below_alloc | apply pw_below_drewN | apply below_drew1) | exact HB.out)) hb); clear HB; have HB := n0_; clear n0_; (try clear hb); (try clear hb2); (try clear hk); (try clear hi); (try clear A3)) | (go_at_call 11; (with_reducible refine (screelaw17_large.calls k _ _ l0 false _ ?side1 ?side2 A5.out).mono ?_); (case side1 => repeat (first | exact (Kd.C_below HR0.out HB.out) | (with_reducible refine Kd.C_alloc ?_ _) | (with_reducible refine Kd.C_drewN ?_ _) | (with_reducible refine Kd.C_drew ?_))); (case side2 => exact HC0.out); rintro e w' ⟨rfl, ⟨nd, rfl⟩⟩; (try first | exact ⟨rfl, _, World.drewN_drewN _ _ _⟩ | exact ⟨rfl, _, Eq.trans (World.drewN_drewN _ _ _) (congrArg (World.drewN _) (Nat.add_assoc _ _ _))⟩)) | (go_at_call 12; (with_reducible refine (gc_Garbage.calls k _ _ l0 a1 t307 t308 _ ?side1 ?side2 A8.out).mono ?_); (case side1 => repeat (first | exact (Kd.C_below HR0.out (by repeat (first | (with_reducible first | exact HB.out | apply below_alloc | apply pw_below_drewN | apply below_drew1) | exact HB.out))) | (with_reducible refine Kd.C_alloc ?_ _) | (with_reducible refine Kd.C_drewN ?_ _) | (with_reducible refine Kd.C_drew ?_))); (case side2 => exact HC0.out); rintro e w14 ⟨v309, rfl, ho0, hb⟩; have n0_ := Aside0.mk (Kd.R_lower ho0 (below_size (by repeat (first | (with_reducible first | exact HB.out | apply below_alloc | apply pw_below_drewN | apply below_drew1) | exact HB.out)))); have n1_ := Aside0.mk (below_step (by repeat (first | (with_reducible first | exact HB.out | apply below_alloc | apply pw_below_drewN | apply below_drew1) | exact HB.out)) hb); clear HB; have HO310 := n0_; have HB := n1_; clear n0_ n1_; (try clear hb); (try clear hb2); (try clear hk); (try clear hi); (try clear ho0); (try clear A8)) | (go_at_call 14; (with_reducible refine (gc_Left.calls k _ _ l0 a1 t311 t312 _ ?side1 ?side2 A9.out).mono ?_); (case side1 => repeat (first | exact (Kd.C_below HR0.out HB.out) | (with_reducible refine Kd.C_alloc ?_ _) | (with_reducible refine Kd.C_drewN ?_ _) | (with_reducible refine Kd.C_drew ?_))); (case side2 => exact HC0.out); rintro e w15 ⟨v313, rfl, ho0, hb⟩; have n0_ := Aside0.mk (Kd.R_below (by (with_reducible repeat (first | apply Kd.R_alloc | apply Kd.R_drewN | apply Kd.R_drew)); exact HO310.out) hb); have n1_ := Aside0.mk (Kd.R_lower ho0 (below_size (by repeat (first | (with_reducible first | exact HB.out | apply below_alloc | apply pw_below_drewN | apply below_drew1) | exact HB.out)))); have n2_ := Aside0.mk (below_step (by repeat (first | (with_reducible first | exact HB.out | apply below_alloc | apply pw_below_drewN | apply below_drew1) | exact HB.out)) hb); clear HO310; clear HB; have HO310 := n0_; have HO314 := n1_; have HB := n2_; clear n0_ n1_ n2_; (try clear hb); (try clear hb2); (try clear hk); (try clear hi); (try clear ho0); (try clear A9); obtain ⟨Ao16, co16, eo16⟩ := Kd.R_slice HO310.out; subst eo16; obtain ⟨Ao17, co17, eo17⟩ := Kd.R_slice HO314.out; subst eo17)))
            go_loopg [5, 7, 49] k (fun kq v5 v7 v49 w' => ∃ (x5_1 : List ByteArray) (x7_1 : List (S47)) (x49_1 : Int), v49 = .int .i64 x49_1 ∧ Aside0 (screelaw17_GcParts.l0 kq l0 x5_1 x7_1 (l0.length : Int) x49_1 = some r) ∧ Aside0 (kq ≤ k) ∧ Aside0 (Kd.Q Kd.string 9 w' w.heap.size (fun _ => True) v5 x5_1) ∧ Aside0 (Kd.Q k47 47 w' w.heap.size (fun _ => True) v7 x7_1) ∧ Aside0 (Below w.heap.size w w'))
            case atStart => exact ⟨(t307), (t311), (0), (by first | rfl | (simp; done) | (simp [*]; done)), H', ⟨Nat.le_refl _⟩, ⟨Kd.Q_of_R (by (with_reducible repeat (first | apply Kd.R_alloc | apply Kd.R_drewN | apply Kd.R_drew)); exact HO310.out)⟩, ⟨Kd.Q_of_R (by (with_reducible repeat (first | apply Kd.R_alloc | apply Kd.R_drewN | apply Kd.R_drew)); exact HO314.out)⟩, ⟨by repeat (first | (with_reducible first | exact HB.out | apply below_alloc | apply pw_below_drewN | apply below_drew1) | exact HB.out)⟩⟩
            case round =>
              clear H'
              try clear c1
              try clear p2
              try clear c4
              try clear c6
              try clear p6
              try clear c10
              try clear c10b0
              try clear c10b1
              try clear c11
              try clear c11b0
              try clear c11b1
              try clear c12
              try clear c12b0
              try clear c12b1
              obtain ⟨x5_1, x7_1, x49_1, rfl, HA, HK1, HO_5, HO_7, HB⟩ := hrel
              cases gk with
              | zero => exact absurd HA.out (by simp [screelaw17_GcParts.l0])
              | succ k1 =>
                have H := HA.out
                clear HA
                simp only [screelaw17_GcParts.l0] at H
                by_cases c18 : x49_1 < (l0.length : Int)
                · rw [if_pos c18] at H
                  have c18b0 : decide (x49_1 < (l0.length : Int)) = true := decide_eq_true c18
                  clear c18
                  have HC19 := Aside0.mk H
                  clear H
                  go_upto_region 16 with (fail)
                  repeat (go_quiet (fail); go_upto_region 16 with (fail))
                  go_cut [65] (fun v65 wc => ∃ (kq : Nat) (x65_18 : Bool), v65 = .bool x65_18 ∧ Aside0 (screelaw17_GcParts.j1 kq l0 x5_1 x7_1 x49_1 (l0.length : Int) x49_1 x65_18 = some r) ∧ Aside0 (kq ≤ k1) ∧ Aside0 (Kd.Q Kd.string 9 wc w.heap.size (fun _ => True) u5 x5_1) ∧ Aside0 (Kd.Q k47 47 wc w.heap.size (fun _ => True) u7 x7_1) ∧ Aside0 (Below w.heap.size w wc))
                  case first =>
                    have H := HC19.out
                    clear HC19
                    by_cases c20 : (x5_1.length : Int) > 0
                    · rw [if_pos c20] at H
                      have c20b0 : decide (0 < (x5_1.length : Int)) = true := decide_eq_true c20
                      have c20b1 : decide (0 < x5_1.length) = true := decide_eq_true (by omega)
                      clear c20
                      (first | rw [c20b0] | (simp only [i64_w, i32_w]; rw [c20b0]) | skip)
                      by_cases c21 : 0 < (x5_1.length : Int)
                      · rw [if_pos c21] at H
                        have c21b0 : decide (0 < (x5_1.length : Int)) = true := decide_eq_true c21
                        have c21b1 : decide (0 < x5_1.length) = true := decide_eq_true (by omega)
                        clear c21
                        by_cases c22 : 0 ≤ x49_1
                        · rw [if_pos c22] at H
                          have c22b0 : decide (0 ≤ x49_1) = true := decide_eq_true c22
                          clear c22
                          by_cases c23 : x49_1 < (l0.length : Int)
                          · rw [if_pos c23] at H
                            have c23b0 : decide (x49_1 < (l0.length : Int)) = true := decide_eq_true c23
                            clear c23
                            have H' := Aside0.mk H
                            clear H
                            obtain ⟨Ao24, co24, eo24, _⟩ := Kd.Q_slice HO_5.out
                            subst eo24
                            have p315 : 0 ≤ (0 : Int) := (by omega)
                            have q315 : 0 < (x5_1.length : Int) := of_decide_eq_true (by first | (with_reducible assumption) | assumption)
                            obtain ⟨ad315, e315, hx315_0⟩ := Kd.at_string (Kd.Q_reads' HO_5.out).2.2 0 p315 q315
                            cases e315
                            have qi315 : (0 < x5_1.length) = True := eq_true (by omega)
                            (try rw [show ((0 : Int)).toNat = 0 from rfl] at hx315_0)
                            (try rw [Addr.add_zero'] at hx315_0)
                            replace p315 := eq_true p315
                            replace q315 := eq_true q315
                            have p316 : 0 ≤ (x49_1 : Int) := of_decide_eq_true (by first | (with_reducible assumption) | assumption)
                            have q316 : x49_1 < (l0.length : Int) := of_decide_eq_true (by first | (with_reducible assumption) | assumption)
                            obtain ⟨ad316, e316, hx316_0, hx316_1, hx316_2, hx316_3⟩ := at_T47 HR0.out x49_1 p316 q316
                            cases e316
                            replace hx316_0 := (HB.out.cell (World.block_lt_of_cell? w _ hx316_0)).trans hx316_0
                            replace hx316_1 := (HB.out.cell (World.block_lt_of_cell? w _ hx316_1)).trans hx316_1
                            replace hx316_2 := (HB.out.cell (World.block_lt_of_cell? w _ hx316_2)).trans hx316_2
                            replace hx316_3 := (HB.out.cell (World.block_lt_of_cell? w _ hx316_3)).trans hx316_3
                            replace p316 := eq_true p316
                            replace q316 := eq_true q316
                            go_wp2
                            repeat (go_quiet (fail); try go_wp2)
                            go_meet
                            case rel => exact ⟨_, (((rdOf ByteArray.empty x5_1 0).toList == ((rd_T47 l0 x49_1).f0).toList)), (by first | rfl | (simp; done) | (simp [*]; done)), (by first | (with_reducible exact H') | exact H' | (subst_vars; exact H')), ⟨by have := HK1.out; first | omega | exact Nat.le_refl _⟩, ⟨by (with_reducible repeat (first | apply Kd.Q_alloc | apply Kd.Q_drewN | apply Kd.Q_drew)); exact HO_5.out⟩, ⟨by (with_reducible repeat (first | apply Kd.Q_alloc | apply Kd.Q_drewN | apply Kd.Q_drew)); exact HO_7.out⟩, ⟨by repeat (first | (with_reducible first | exact HB.out | apply below_alloc | apply pw_below_drewN | apply below_drew1) | exact HB.out)⟩⟩
                          · rw [if_neg c23] at H
                            exact absurd H (by simp)
                        · rw [if_neg c22] at H
                          exact absurd H (by simp)
                      · rw [if_neg c21] at H
                        exact absurd H (by simp)
                    · rw [if_neg c20] at H
                      have c20b0 : decide (0 < (x5_1.length : Int)) = false := decide_eq_false c20
                      have c20b1 : decide (0 < x5_1.length) = false := decide_eq_false (by omega)
                      clear c20
                      (first | rw [c20b0] | (simp only [i64_w, i32_w]; rw [c20b0]) | skip)
                      have H' := Aside0.mk H
                      clear H
                      obtain ⟨Ao25, co25, eo25, _⟩ := Kd.Q_slice HO_5.out
                      subst eo25
                      go_wp2
                      repeat (go_quiet (fail); try go_wp2)
                      go_meet
                      case rel => exact ⟨_, (false), (by first | rfl | (simp; done) | (simp [*]; done)), (by first | (with_reducible exact H') | exact H' | (subst_vars; exact H')), ⟨by have := HK1.out; first | omega | exact Nat.le_refl _⟩, ⟨by (with_reducible repeat (first | apply Kd.Q_alloc | apply Kd.Q_drewN | apply Kd.Q_drew)); exact HO_5.out⟩, ⟨by (with_reducible repeat (first | apply Kd.Q_alloc | apply Kd.Q_drewN | apply Kd.Q_drew)); exact HO_7.out⟩, ⟨by repeat (first | (with_reducible first | exact HB.out | apply below_alloc | apply pw_below_drewN | apply below_drew1) | exact HB.out)⟩⟩
                  case rest =>
                    clear HC19
                    try clear c1
                    try clear c2
                    try clear p2
                    try clear p3
                    try clear q3
                    try clear hx3
                    try clear qi3
                    try clear c4
                    try clear c6
                    try clear p6
                    try clear c10
                    try clear c10b0
                    try clear c10b1
                    try clear c11
                    try clear c11b0
                    try clear c11b1
                    try clear c12
                    try clear c12b0
                    try clear c12b1
                    try clear c18
                    try clear c18b0
                    try clear c20
                    try clear c20b0
                    try clear c20b1
                    try clear c21
                    try clear c21b0
                    try clear c21b1
                    try clear c22
                    try clear c22b0
                    try clear c23
                    try clear c23b0
                    try clear hx315_0
                    try clear hx316_0
                    try clear hx316_1
                    try clear hx316_2
                    try clear hx316_3
                    try clear p2
                    try clear p315
                    try clear p316
                    try clear p6
                    try clear q315
                    try clear q316
                    obtain ⟨kq, x65_18, rfl, HA, HJ18, HO_5, HO_7, HB⟩ := hcut
                    cases kq with
                    | zero => exact absurd HA.out (by simp [screelaw17_GcParts.j1])
                    | succ kj18 =>
                      have H := HA.out
                      clear HA
                      simp only [screelaw17_GcParts.j1] at H
                      by_cases c26 : x65_18 = true
                      · subst c26
                        have H1 : (if 1 ≤ (x5_1.length : Int) then (screelaw17_GcParts.l0 kj18 l0 (x5_1.drop (1 : Int).toNat) x7_1 (l0.length : Int) (wrap64 (x49_1 + 1))) else (none)) = some r := by rw [if_pos rfl] at H; exact H
                        clear H
                        have H := H1
                        clear H1
                        by_cases c27 : 1 ≤ (x5_1.length : Int)
                        · rw [if_pos c27] at H
                          have c27b0 := eq_true c27
                          have c27b1 : decide (1 ≤ (x5_1.length : Int)) = true := decide_eq_true c27
                          clear c27
                          obtain ⟨y317, hy317⟩ : ∃ y_ : List ByteArray, y_ = (x5_1.drop (1 : Int).toNat) := ⟨_, rfl⟩
                          replace H : (screelaw17_GcParts.l0 kj18 l0 y317 x7_1 (l0.length : Int) (wrap64 (x49_1 + 1))) = some r := by first | (rw [hy317]; with_reducible exact H) | (have H2_ := (Option.bind_some _ _).symm.trans H; rw [hy317]; with_reducible exact H2_) | (have H2_ := (Option.bind_some _ _).symm.trans H; with_reducible exact H2_) | with_reducible exact H | (rw [hy317]; exact H) | exact H
                          have Ny317 := Aside0.mk hy317
                          clear hy317
                          have H' := Aside0.mk H
                          clear H
                          obtain ⟨Ao28, co28, eo28, _⟩ := Kd.Q_slice HO_5.out
                          subst eo28
                          have q29 : (1 : Int) ≤ ((x5_1.length : Int) : Int) := of_decide_eq_true (by first | (with_reducible assumption) | assumption)
                          obtain ⟨i029, hi029, _, hsz29, _⟩ := info_parts info9
                          have hcut29 := cut_from (P := Try.prog) 26 9 .i64 Try.underlying26 hi029 1 hsz29 Ao28 x5_1.length co28 1 (by omega) q29
                          have hr29 := Kd.Q_drop (k := (1 : Int).toNat) HO_5.out (by omega)
                          obtain ⟨A29, hA29⟩ : ∃ A1, A1 = (if co28 = (1 : Int).toNat then Ao28 else (Ao28 : Option Addr).map (·.add ((1 : Int).toNat * 1))) := ⟨_, rfl⟩
                          obtain ⟨c29, hc29⟩ : ∃ c1, c1 = co28 - (1 : Int).toNat := ⟨_, rfl⟩
                          have hy29 : y317.length = x5_1.length - (1 : Int).toNat := (by rw [Ny317.out, List.length_drop])
                          rw [← Ny317.out] at hr29
                          rw [← hy29, ← hA29, ← hc29] at hcut29
                          replace hr29 : Kd.Q Kd.string 9 wc w.heap.size (fun _ => True) (.slice A29 y317.length c29) y317 := (by rw [hA29, hc29, hy29]; exact hr29)
                          have HE29 : Aside0 ((Value.slice A29 y317.length c29).ownBlock = (.slice Ao28 x5_1.length co28 : Value).ownBlock) := ⟨by rw [hA29]; split <;> (cases (Ao28 : Option Addr) <;> rfl)⟩
                          clear hy29 hi029 hsz29 HO_5 hA29 hc29
                          have HO319 := Aside0.mk hr29
                          clear hr29
                          replace q29 := eq_true q29
                          go_wp2
                          repeat (go_quiet (fail); try go_wp2)
                          go_roundg kj18
                          case measure => have := HK1.out; have := HJ18.out; omega
                          case rel => exact ⟨(y317), (x7_1), (wrap64 (x49_1 + 1)), (by first | rfl | (simp; done) | (simp [*]; done)), (by first | (with_reducible exact H') | exact H' | (subst_vars; exact H')), ⟨by have := HK1.out; have := HJ18.out; omega⟩, ⟨by (with_reducible repeat (first | apply Kd.Q_alloc | apply Kd.Q_drewN | apply Kd.Q_drew)); exact HO319.out⟩, ⟨by (with_reducible repeat (first | apply Kd.Q_alloc | apply Kd.Q_drewN | apply Kd.Q_drew)); exact HO_7.out⟩, ⟨by repeat (first | (with_reducible first | exact HB.out | apply below_alloc | apply pw_below_drewN | apply below_drew1) | exact HB.out)⟩⟩
                        · rw [if_neg c27] at H
                          exact absurd H (by simp)
                      · replace c26 := Bool.eq_false_iff.mpr c26
                        subst c26
                        have H1 : (if (x7_1.length : Int) = 0 then (none) else (if 0 < (x7_1.length : Int) then (if 0 ≤ x49_1 then (if x49_1 < (l0.length : Int) then (if (!((((rd_T47 x7_1 0).f0).toList) == (((rd_T47 l0 x49_1).f0).toList)) || (!(((rd_T47 x7_1 0).f1) == ((rd_T47 l0 x49_1).f1)) || (!(((rd_T47 x7_1 0).f2) == ((rd_T47 l0 x49_1).f2)) || (!((((rd_T47 x7_1 0).f3).toList) == (((rd_T47 l0 x49_1).f3).toList)))))) = true then (none) else (if 1 ≤ (x7_1.length : Int) then (screelaw17_GcParts.l0 kj18 l0 x5_1 (x7_1.drop (1 : Int).toNat) (l0.length : Int) (wrap64 (x49_1 + 1))) else (none))) else (none)) else (none)) else (none))) = some r := by rw [if_neg (show ¬ (false = true) by decide)] at H; exact H
                        clear H
                        have H := H1
                        clear H1
                        by_cases c30 : (x7_1.length : Int) = 0
                        · rw [if_pos c30] at H
                          exact absurd H (by simp)
                        · rw [if_neg c30] at H
                          have c30b0 : ((x7_1.length : Int) == 0) = false := beq_eq_false_iff_ne.mpr c30
                          have c30b1 : ((x7_1.length : Int) != 0) = true := bne_iff_ne.mpr c30
                          have c30b2 : ¬ (x7_1 = []) := fun h_ => c30 (by rw [h_]; rfl)
                          by_cases c31 : 0 < (x7_1.length : Int)
                          · rw [if_pos c31] at H
                            have c31b0 : decide (0 < (x7_1.length : Int)) = true := decide_eq_true c31
                            have c31b1 : decide (0 < x7_1.length) = true := decide_eq_true (by omega)
                            clear c31
                            by_cases c32 : 0 ≤ x49_1
                            · rw [if_pos c32] at H
                              have c32b0 : decide (0 ≤ x49_1) = true := decide_eq_true c32
                              clear c32
                              by_cases c33 : x49_1 < (l0.length : Int)
                              · rw [if_pos c33] at H
                                have c33b0 : decide (x49_1 < (l0.length : Int)) = true := decide_eq_true c33
                                clear c33
                                by_cases c34 : (!((((rd_T47 x7_1 0).f0).toList) == (((rd_T47 l0 x49_1).f0).toList)) || (!(((rd_T47 x7_1 0).f1) == ((rd_T47 l0 x49_1).f1)) || (!(((rd_T47 x7_1 0).f2) == ((rd_T47 l0 x49_1).f2)) || (!((((rd_T47 x7_1 0).f3).toList) == (((rd_T47 l0 x49_1).f3).toList)))))) = true
                                · rw [if_pos c34] at H
                                  exact absurd H (by simp)
                                · rw [if_neg c34] at H
                                  have c34b0 : (!((((rd_T47 x7_1 0).f0).toList) == (((rd_T47 l0 x49_1).f0).toList)) || (!(((rd_T47 x7_1 0).f1) == ((rd_T47 l0 x49_1).f1)) || (!(((rd_T47 x7_1 0).f2) == ((rd_T47 l0 x49_1).f2)) || (!((((rd_T47 x7_1 0).f3).toList) == (((rd_T47 l0 x49_1).f3).toList)))))) = false := by simpa using c34
                                  clear c34
                                  by_cases c35 : 1 ≤ (x7_1.length : Int)
                                  · rw [if_pos c35] at H
                                    have c35b0 := eq_true c35
                                    have c35b1 : decide (1 ≤ (x7_1.length : Int)) = true := decide_eq_true c35
                                    clear c35
                                    obtain ⟨y322, hy322⟩ : ∃ y_ : List (S47), y_ = (x7_1.drop (1 : Int).toNat) := ⟨_, rfl⟩
                                    replace H : (screelaw17_GcParts.l0 kj18 l0 x5_1 y322 (l0.length : Int) (wrap64 (x49_1 + 1))) = some r := by first | (rw [hy322]; with_reducible exact H) | (have H2_ := (Option.bind_some _ _).symm.trans H; rw [hy322]; with_reducible exact H2_) | (have H2_ := (Option.bind_some _ _).symm.trans H; with_reducible exact H2_) | with_reducible exact H | (rw [hy322]; exact H) | exact H
                                    have Ny322 := Aside0.mk hy322
                                    clear hy322
                                    have H' := Aside0.mk H
                                    clear H
                                    obtain ⟨Ao36, co36, eo36, _⟩ := Kd.Q_slice HO_7.out
                                    subst eo36
                                    have p320 : 0 ≤ (0 : Int) := (by omega)
                                    have q320 : 0 < (x7_1.length : Int) := of_decide_eq_true (by first | (with_reducible assumption) | assumption)
                                    obtain ⟨ad320, e320, hx320_0, hx320_1, hx320_2, hx320_3⟩ := at_T47 (Kd.Q_reads' HO_7.out).2.2 0 p320 q320
                                    cases e320
                                    have qi320 : (0 < x7_1.length) = True := eq_true (by omega)
                                    (try rw [show ((0 : Int)).toNat = 0 from rfl] at hx320_0)
                                    (try rw [show 0 * 4 = 0 from rfl] at hx320_0)
                                    (try rw [Addr.add_zero'] at hx320_0)
                                    (try rw [show ((0 : Int)).toNat = 0 from rfl] at hx320_1)
                                    (try rw [show 0 * 4 = 0 from rfl] at hx320_1)
                                    (try rw [Addr.add_zero'] at hx320_1)
                                    (try rw [show ((0 : Int)).toNat = 0 from rfl] at hx320_2)
                                    (try rw [show 0 * 4 = 0 from rfl] at hx320_2)
                                    (try rw [Addr.add_zero'] at hx320_2)
                                    (try rw [show ((0 : Int)).toNat = 0 from rfl] at hx320_3)
                                    (try rw [show 0 * 4 = 0 from rfl] at hx320_3)
                                    (try rw [Addr.add_zero'] at hx320_3)
                                    replace p320 := eq_true p320
                                    replace q320 := eq_true q320
                                    have p321 : 0 ≤ (x49_1 : Int) := of_decide_eq_true (by first | (with_reducible assumption) | assumption)
                                    have q321 : x49_1 < (l0.length : Int) := of_decide_eq_true (by first | (with_reducible assumption) | assumption)
                                    obtain ⟨ad321, e321, hx321_0, hx321_1, hx321_2, hx321_3⟩ := at_T47 HR0.out x49_1 p321 q321
                                    cases e321
                                    replace hx321_0 := (HB.out.cell (World.block_lt_of_cell? w _ hx321_0)).trans hx321_0
                                    replace hx321_1 := (HB.out.cell (World.block_lt_of_cell? w _ hx321_1)).trans hx321_1
                                    replace hx321_2 := (HB.out.cell (World.block_lt_of_cell? w _ hx321_2)).trans hx321_2
                                    replace hx321_3 := (HB.out.cell (World.block_lt_of_cell? w _ hx321_3)).trans hx321_3
                                    replace p321 := eq_true p321
                                    replace q321 := eq_true q321
                                    have q37 : (1 : Int) ≤ ((x7_1.length : Int) : Int) := of_decide_eq_true (by first | (with_reducible assumption) | assumption)
                                    obtain ⟨i037, hi037, _, hsz37, _⟩ := info_parts info47
                                    have hcut37 := cut_from (P := Try.prog) 22 47 .i64 Try.underlying22 hi037 4 hsz37 (some ad320) x7_1.length co36 1 (by omega) q37
                                    have hr37 := Kd.Q_drop (k := (1 : Int).toNat) HO_7.out (by omega)
                                    obtain ⟨A37, hA37⟩ : ∃ A1, A1 = (if co36 = (1 : Int).toNat then (some ad320) else ((some ad320) : Option Addr).map (·.add ((1 : Int).toNat * 4))) := ⟨_, rfl⟩
                                    obtain ⟨c37, hc37⟩ : ∃ c1, c1 = co36 - (1 : Int).toNat := ⟨_, rfl⟩
                                    have hy37 : y322.length = x7_1.length - (1 : Int).toNat := (by rw [Ny322.out, List.length_drop])
                                    rw [← Ny322.out] at hr37
                                    rw [← hy37, ← hA37, ← hc37] at hcut37
                                    replace hr37 : Kd.Q k47 47 wc w.heap.size (fun _ => True) (.slice A37 y322.length c37) y322 := (by rw [hA37, hc37, hy37]; exact hr37)
                                    have HE37 : Aside0 ((Value.slice A37 y322.length c37).ownBlock = (.slice (some ad320) x7_1.length co36 : Value).ownBlock) := ⟨by rw [hA37]; split <;> (cases ((some ad320) : Option Addr) <;> rfl)⟩
                                    clear hy37 hi037 hsz37 HO_7 hA37 hc37
                                    have HO324 := Aside0.mk hr37
                                    clear hr37
                                    replace q37 := eq_true q37
                                    go_wp2
                                    repeat (go_quiet (fail); try go_wp2)
                                    go_roundg kj18
                                    case measure => have := HK1.out; have := HJ18.out; omega
                                    case rel => exact ⟨(x5_1), (y322), (wrap64 (x49_1 + 1)), (by first | rfl | (simp; done) | (simp [*]; done)), (by first | (with_reducible exact H') | exact H' | (subst_vars; exact H')), ⟨by have := HK1.out; have := HJ18.out; omega⟩, ⟨by (with_reducible repeat (first | apply Kd.Q_alloc | apply Kd.Q_drewN | apply Kd.Q_drew)); exact HO_5.out⟩, ⟨by (with_reducible repeat (first | apply Kd.Q_alloc | apply Kd.Q_drewN | apply Kd.Q_drew)); exact HO324.out⟩, ⟨by repeat (first | (with_reducible first | exact HB.out | apply below_alloc | apply pw_below_drewN | apply below_drew1) | exact HB.out)⟩⟩
                                  · rw [if_neg c35] at H
                                    exact absurd H (by simp)
                              · rw [if_neg c33] at H
                                exact absurd H (by simp)
                            · rw [if_neg c32] at H
                              exact absurd H (by simp)
                          · rw [if_neg c31] at H
                            exact absurd H (by simp)
                · rw [if_neg c18] at H
                  have c18b0 : decide (x49_1 < (l0.length : Int)) = false := decide_eq_false c18
                  clear c18
                  obtain rfl := Option.some.inj H
                  go_wp2
                  repeat (go_quiet (fail); try go_wp2)
                  go_ret
                  exact ⟨by first | rfl | (simp [errW_none, errW_some] <;> rfl) | (simp (disch := omega) only [← i64_w, IntWalk.i64_in]; rfl) | (simp [*, errW_none, errW_some] <;> rfl), by repeat (first | (with_reducible first | exact HB.out | apply below_alloc | apply pw_below_drewN | apply below_drew1) | exact HB.out)⟩
          · rw [if_neg c12] at H
            exact absurd H (by simp)
        · rw [if_neg c11] at H
          have c11b0 : (t308 == 0) = false := beq_eq_false_iff_ne.mpr c11
          have c11b1 : (t308 != 0) = true := bne_iff_ne.mpr c11
          by_cases c38 : (t307.length : Int) = 0
          · rw [if_pos c38] at H
            have c38b0 : ((t307.length : Int) == 0) = true := beq_iff_eq.mpr c38
            have c38b1 : ((t307.length : Int) != 0) = false := bne_eq_false_iff_eq.mpr c38
            clear c38
            obtain rfl := Option.some.inj H
            go_enter Try.func6, Try.ntmps6
            go_wp2_with (first | (go_at_call 10; (with_reducible refine (screelaw17_awake.calls k  true _ A3.out).mono ?_); rintro e w39 ⟨rfl, hb⟩; have n0_ := Aside0.mk (below_step (by repeat (first | (with_reducible first | exact HB.out | apply below_alloc | apply pw_below_drewN | apply below_drew1) | exact HB.out)) hb); clear HB; have HB := n0_; clear n0_; (try clear hb); (try clear hb2); (try clear hk); (try clear hi); (try clear A3)) | (go_at_call 11; (with_reducible refine (screelaw17_large.calls k _ _ l0 false _ ?side1 ?side2 A5.out).mono ?_); (case side1 => repeat (first | exact (Kd.C_below HR0.out HB.out) | (with_reducible refine Kd.C_alloc ?_ _) | (with_reducible refine Kd.C_drewN ?_ _) | (with_reducible refine Kd.C_drew ?_))); (case side2 => exact HC0.out); rintro e w' ⟨rfl, ⟨nd, rfl⟩⟩; (try first | exact ⟨rfl, _, World.drewN_drewN _ _ _⟩ | exact ⟨rfl, _, Eq.trans (World.drewN_drewN _ _ _) (congrArg (World.drewN _) (Nat.add_assoc _ _ _))⟩)) | (go_at_call 12; (with_reducible refine (gc_Garbage.calls k _ _ l0 a1 t307 t308 _ ?side1 ?side2 A8.out).mono ?_); (case side1 => repeat (first | exact (Kd.C_below HR0.out (by repeat (first | (with_reducible first | exact HB.out | apply below_alloc | apply pw_below_drewN | apply below_drew1) | exact HB.out))) | (with_reducible refine Kd.C_alloc ?_ _) | (with_reducible refine Kd.C_drewN ?_ _) | (with_reducible refine Kd.C_drew ?_))); (case side2 => exact HC0.out); rintro e w40 ⟨v309, rfl, ho0, hb⟩; have n0_ := Aside0.mk (Kd.R_lower ho0 (below_size (by repeat (first | (with_reducible first | exact HB.out | apply below_alloc | apply pw_below_drewN | apply below_drew1) | exact HB.out)))); have n1_ := Aside0.mk (below_step (by repeat (first | (with_reducible first | exact HB.out | apply below_alloc | apply pw_below_drewN | apply below_drew1) | exact HB.out)) hb); clear HB; have HO310 := n0_; have HB := n1_; clear n0_ n1_; (try clear hb); (try clear hb2); (try clear hk); (try clear hi); (try clear ho0); (try clear A8)) | (go_at_call 14; (with_reducible refine (gc_Left.calls k _ _ l0 a1 t311 t312 _ ?side1 ?side2 A9.out).mono ?_); (case side1 => repeat (first | exact (Kd.C_below HR0.out HB.out) | (with_reducible refine Kd.C_alloc ?_ _) | (with_reducible refine Kd.C_drewN ?_ _) | (with_reducible refine Kd.C_drew ?_))); (case side2 => exact HC0.out); rintro e w41 ⟨v313, rfl, ho0, hb⟩; have n0_ := Aside0.mk (Kd.R_below (by (with_reducible repeat (first | apply Kd.R_alloc | apply Kd.R_drewN | apply Kd.R_drew)); exact HO310.out) hb); have n1_ := Aside0.mk (Kd.R_lower ho0 (below_size (by repeat (first | (with_reducible first | exact HB.out | apply below_alloc | apply pw_below_drewN | apply below_drew1) | exact HB.out)))); have n2_ := Aside0.mk (below_step (by repeat (first | (with_reducible first | exact HB.out | apply below_alloc | apply pw_below_drewN | apply below_drew1) | exact HB.out)) hb); clear HO310; clear HB; have HO310 := n0_; have HO314 := n1_; have HB := n2_; clear n0_ n1_ n2_; (try clear hb); (try clear hb2); (try clear hk); (try clear hi); (try clear ho0); (try clear A9); obtain ⟨Ao42, co42, eo42⟩ := Kd.R_slice HO310.out; subst eo42; obtain ⟨Ao43, co43, eo43⟩ := Kd.R_slice HO314.out; subst eo43))
            repeat (go_quiet (first | (go_at_call 10; (with_reducible refine (screelaw17_awake.calls k  true _ A3.out).mono ?_); rintro e w39 ⟨rfl, hb⟩; have n0_ := Aside0.mk (below_step (by repeat (first | (with_reducible first | exact HB.out | apply below_alloc | apply pw_below_drewN | apply below_drew1) | exact HB.out)) hb); clear HB; have HB := n0_; clear n0_; (try clear hb); (try clear hb2); (try clear hk); (try clear hi); (try clear A3)) | (go_at_call 11; (with_reducible refine (screelaw17_large.calls k _ _ l0 false _ ?side1 ?side2 A5.out).mono ?_); (case side1 => repeat (first | exact (Kd.C_below HR0.out HB.out) | (with_reducible refine Kd.C_alloc ?_ _) | (with_reducible refine Kd.C_drewN ?_ _) | (with_reducible refine Kd.C_drew ?_))); (case side2 => exact HC0.out); rintro e w' ⟨rfl, ⟨nd, rfl⟩⟩; (try first | exact ⟨rfl, _, World.drewN_drewN _ _ _⟩ | exact ⟨rfl, _, Eq.trans (World.drewN_drewN _ _ _) (congrArg (World.drewN _) (Nat.add_assoc _ _ _))⟩)) | (go_at_call 12; (with_reducible refine (gc_Garbage.calls k _ _ l0 a1 t307 t308 _ ?side1 ?side2 A8.out).mono ?_); (case side1 => repeat (first | exact (Kd.C_below HR0.out (by repeat (first | (with_reducible first | exact HB.out | apply below_alloc | apply pw_below_drewN | apply below_drew1) | exact HB.out))) | (with_reducible refine Kd.C_alloc ?_ _) | (with_reducible refine Kd.C_drewN ?_ _) | (with_reducible refine Kd.C_drew ?_))); (case side2 => exact HC0.out); rintro e w40 ⟨v309, rfl, ho0, hb⟩; have n0_ := Aside0.mk (Kd.R_lower ho0 (below_size (by repeat (first | (with_reducible first | exact HB.out | apply below_alloc | apply pw_below_drewN | apply below_drew1) | exact HB.out)))); have n1_ := Aside0.mk (below_step (by repeat (first | (with_reducible first | exact HB.out | apply below_alloc | apply pw_below_drewN | apply below_drew1) | exact HB.out)) hb); clear HB; have HO310 := n0_; have HB := n1_; clear n0_ n1_; (try clear hb); (try clear hb2); (try clear hk); (try clear hi); (try clear ho0); (try clear A8)) | (go_at_call 14; (with_reducible refine (gc_Left.calls k _ _ l0 a1 t311 t312 _ ?side1 ?side2 A9.out).mono ?_); (case side1 => repeat (first | exact (Kd.C_below HR0.out HB.out) | (with_reducible refine Kd.C_alloc ?_ _) | (with_reducible refine Kd.C_drewN ?_ _) | (with_reducible refine Kd.C_drew ?_))); (case side2 => exact HC0.out); rintro e w41 ⟨v313, rfl, ho0, hb⟩; have n0_ := Aside0.mk (Kd.R_below (by (with_reducible repeat (first | apply Kd.R_alloc | apply Kd.R_drewN | apply Kd.R_drew)); exact HO310.out) hb); have n1_ := Aside0.mk (Kd.R_lower ho0 (below_size (by repeat (first | (with_reducible first | exact HB.out | apply below_alloc | apply pw_below_drewN | apply below_drew1) | exact HB.out)))); have n2_ := Aside0.mk (below_step (by repeat (first | (with_reducible first | exact HB.out | apply below_alloc | apply pw_below_drewN | apply below_drew1) | exact HB.out)) hb); clear HO310; clear HB; have HO310 := n0_; have HO314 := n1_; have HB := n2_; clear n0_ n1_ n2_; (try clear hb); (try clear hb2); (try clear hk); (try clear hi); (try clear ho0); (try clear A9); obtain ⟨Ao42, co42, eo42⟩ := Kd.R_slice HO310.out; subst eo42; obtain ⟨Ao43, co43, eo43⟩ := Kd.R_slice HO314.out; subst eo43)); try go_wp2_with (first | (go_at_call 10; (with_reducible refine (screelaw17_awake.calls k  true _ A3.out).mono ?_); rintro e w39 ⟨rfl, hb⟩; have n0_ := Aside0.mk (below_step (by repeat (first | (with_reducible first | exact HB.out | apply below_alloc | apply pw_below_drewN | apply below_drew1) | exact HB.out)) hb); clear HB; have HB := n0_; clear n0_; (try clear hb); (try clear hb2); (try clear hk); (try clear hi); (try clear A3)) | (go_at_call 11; (with_reducible refine (screelaw17_large.calls k _ _ l0 false _ ?side1 ?side2 A5.out).mono ?_); (case side1 => repeat (first | exact (Kd.C_below HR0.out HB.out) | (with_reducible refine Kd.C_alloc ?_ _) | (with_reducible refine Kd.C_drewN ?_ _) | (with_reducible refine Kd.C_drew ?_))); (case side2 => exact HC0.out); rintro e w' ⟨rfl, ⟨nd, rfl⟩⟩; (try first | exact ⟨rfl, _, World.drewN_drewN _ _ _⟩ | exact ⟨rfl, _, Eq.trans (World.drewN_drewN _ _ _) (congrArg (World.drewN _) (Nat.add_assoc _ _ _))⟩)) | (go_at_call 12; (with_reducible refine (gc_Garbage.calls k _ _ l0 a1 t307 t308 _ ?side1 ?side2 A8.out).mono ?_); (case side1 => repeat (first | exact (Kd.C_below HR0.out (by repeat (first | (with_reducible first | exact HB.out | apply below_alloc | apply pw_below_drewN | apply below_drew1) | exact HB.out))) | (with_reducible refine Kd.C_alloc ?_ _) | (with_reducible refine Kd.C_drewN ?_ _) | (with_reducible refine Kd.C_drew ?_))); (case side2 => exact HC0.out); rintro e w40 ⟨v309, rfl, ho0, hb⟩; have n0_ := Aside0.mk (Kd.R_lower ho0 (below_size (by repeat (first | (with_reducible first | exact HB.out | apply below_alloc | apply pw_below_drewN | apply below_drew1) | exact HB.out)))); have n1_ := Aside0.mk (below_step (by repeat (first | (with_reducible first | exact HB.out | apply below_alloc | apply pw_below_drewN | apply below_drew1) | exact HB.out)) hb); clear HB; have HO310 := n0_; have HB := n1_; clear n0_ n1_; (try clear hb); (try clear hb2); (try clear hk); (try clear hi); (try clear ho0); (try clear A8)) | (go_at_call 14; (with_reducible refine (gc_Left.calls k _ _ l0 a1 t311 t312 _ ?side1 ?side2 A9.out).mono ?_); (case side1 => repeat (first | exact (Kd.C_below HR0.out HB.out) | (with_reducible refine Kd.C_alloc ?_ _) | (with_reducible refine Kd.C_drewN ?_ _) | (with_reducible refine Kd.C_drew ?_))); (case side2 => exact HC0.out); rintro e w41 ⟨v313, rfl, ho0, hb⟩; have n0_ := Aside0.mk (Kd.R_below (by (with_reducible repeat (first | apply Kd.R_alloc | apply Kd.R_drewN | apply Kd.R_drew)); exact HO310.out) hb); have n1_ := Aside0.mk (Kd.R_lower ho0 (below_size (by repeat (first | (with_reducible first | exact HB.out | apply below_alloc | apply pw_below_drewN | apply below_drew1) | exact HB.out)))); have n2_ := Aside0.mk (below_step (by repeat (first | (with_reducible first | exact HB.out | apply below_alloc | apply pw_below_drewN | apply below_drew1) | exact HB.out)) hb); clear HO310; clear HB; have HO310 := n0_; have HO314 := n1_; have HB := n2_; clear n0_ n1_ n2_; (try clear hb); (try clear hb2); (try clear hk); (try clear hi); (try clear ho0); (try clear A9); obtain ⟨Ao42, co42, eo42⟩ := Kd.R_slice HO310.out; subst eo42; obtain ⟨Ao43, co43, eo43⟩ := Kd.R_slice HO314.out; subst eo43)))
            go_ret
            exact ⟨by first | rfl | (simp [errW_none, errW_some] <;> rfl) | (simp (disch := omega) only [← i64_w, IntWalk.i64_in]; rfl) | (simp [*, errW_none, errW_some] <;> rfl), by repeat (first | (with_reducible first | exact HB.out | apply below_alloc | apply pw_below_drewN | apply below_drew1) | exact HB.out)⟩
          · rw [if_neg c38] at H
            exact absurd H (by simp)
      · rw [if_neg c10] at H
        exact absurd H (by simp)
  · replace c4 := Bool.eq_false_iff.mpr c4
    subst c4
    have H1 : (none) = some r := by rw [if_neg (show ¬ (false = true) by decide)] at H; exact H
    clear H
    have H := H1
    clear H1
    exact absurd H (by simp)

end Go.Proofs.Ytcdadhgcjkgnoaa.P
