-- Printed by a program of this session's own (wip/tools/pprint.sh, over the kit's print, with given contracts): not typed by hand.
import Derived.Test.YthgefbabajpelaaPx0
import Derived.Test.YthgefbabajpelaaPx1
import Derived.Test.YthgefbabajpelaaPx2
import Derived.Test.YthgefbabajpelaaPx3
namespace Go.Proofs.Ythgefbabajpelaa.P
open Go.RowKit Go.Proofs.YthgefbabajpelaaW.PrintWords Go.Proofs.YthgefbabajpelaaW.PrintLast Go.Proofs.YthgefbabajpelaaW.PrintMore
attribute [local go_sem] max2_int min2_int max_two min_two max_three min_three max_four min_four   -- for this text's walks alone
set_option linter.unusedVariables false
set_option linter.unusedSimpArgs false

/-! ### screeref10_Full: function 19 -/
def screeref10_Full.l0 : Nat → ByteArray → Int → Int → Option (Int)
  | 0, _, _, _ => none
  | k + 1, x0, x3, x4 => if x4 < (wrap64 (8 * (x0.size : Int))) then ((screeref10_Set.f k x0 x4).bind fun t153 => (if t153 = true then (screeref10_Full.l0 k x0 (wrap64 (x3 + 1)) (wrap64 (x4 + 1))) else (screeref10_Full.l0 k x0 x3 (wrap64 (x4 + 1))))) else (some x3)
def screeref10_Full.f (k : Nat) (a0 : ByteArray) : Option (Int) := screeref10_Full.l0 k a0 0 0
theorem screeref10_Full.mono_l : ∀ k, (∀ y0 y1 y2, LeO (screeref10_Full.l0 k y0 y1 y2) (screeref10_Full.l0 (k + 1) y0 y1 y2))
  | 0 => fun _ _ _ r h => by simp [screeref10_Full.l0] at h
  | k + 1 => by
    have ih0 := screeref10_Full.mono_l k
    · intro y0 y1 y2
      unfold screeref10_Full.l0
      repeat' first
      | (with_reducible exact ih0 _ _ _)
      | (with_reducible exact screeref10_Set.mono _ _ _)
      | (with_reducible exact LeO.refl _)
      | (with_reducible exact LeO.none _)
      | (with_reducible refine LeO.ite ?_ ?_)
      | (with_reducible refine LeO.bind ?_ (fun _ => ?_))
      | exact ih0 _ _ _
      | exact screeref10_Set.mono _ _ _
      | exact LeO.none _
      | refine LeO.ite ?_ ?_
      | refine LeO.bind ?_ (fun _ => ?_)
theorem screeref10_Full.mono : ∀ a0 k, LeO (screeref10_Full.f k a0) (screeref10_Full.f (k + 1) a0) := by
  intro a0 k
  have ih0 := screeref10_Full.mono_l k
  unfold screeref10_Full.f
  repeat' first
      | (with_reducible exact ih0 _ _ _)
      | (with_reducible exact screeref10_Set.mono _ _ _)
      | (with_reducible exact LeO.refl _)
      | (with_reducible exact LeO.none _)
      | (with_reducible refine LeO.ite ?_ ?_)
      | (with_reducible refine LeO.bind ?_ (fun _ => ?_))
      | exact ih0 _ _ _
      | exact screeref10_Set.mono _ _ _
      | exact LeO.none _
      | refine LeO.ite ?_ ?_
      | refine LeO.bind ?_ (fun _ => ?_)
set_option maxHeartbeats 8000000 in
set_option maxRecDepth 100000 in
theorem screeref10_Full.calls (k : Nat) (a0 : ByteArray) (r : Int) (w : World) (h : screeref10_Full.f k a0 = some r) :
    Calls Try.prog 19 #[.string a0] w fun e w' => e = .returned (.int .i64 r) ∧ Drawn0 w w' := by
  have H : (screeref10_Full.l0 k a0 0 0) = some r := h
  clear h
  have H' := Aside0.mk H
  clear H
  go_enter Try.func19, Try.ntmps19
  go_wp2
  go_loopg [3, 4] k (fun kq v3 v4 w' => ∃ (x3_1 : Int) (x4_1 : Int), v3 = .int .i64 x3_1 ∧ v4 = .int .i64 x4_1 ∧ Aside0 (screeref10_Full.l0 kq a0 x3_1 x4_1 = some r) ∧ Aside0 (kq ≤ k) ∧ Drawn0 w w')
  case atStart => exact ⟨(0), (0), (by first | rfl | (simp; done) | (simp [*]; done)), (by first | rfl | (simp; done) | (simp [*]; done)), H', ⟨Nat.le_refl _⟩, by repeat (first | exact Drawn0.refl _ | apply Drawn0.step)⟩
  case round =>
    clear H'
    try clear c1
    obtain ⟨x3_1, x4_1, rfl, rfl, HA, HK1, ⟨m1, rfl⟩⟩ := hrel
    cases gk with
    | zero => exact absurd HA.out (by simp [screeref10_Full.l0])
    | succ k1 =>
      have H := HA.out
      clear HA
      simp only [screeref10_Full.l0] at H
      by_cases c2 : x4_1 < (wrap64 (8 * (a0.size : Int)))
      · rw [if_pos c2] at H
        have c2b0 : decide (x4_1 < (wrap64 (8 * (a0.size : Int)))) = true := decide_eq_true c2
        clear c2
        replace H := Option.bind_eq_some_iff.mp H
        obtain ⟨t153, A30, H⟩ := H
        replace H : (if t153 = true then (screeref10_Full.l0 k1 a0 (wrap64 (x3_1 + 1)) (wrap64 (x4_1 + 1))) else (screeref10_Full.l0 k1 a0 x3_1 (wrap64 (x4_1 + 1)))) = some r := H
        have A3 := Aside0.mk A30
        clear A30
        by_cases c4 : t153 = true
        · subst c4
          have H1 : (screeref10_Full.l0 k1 a0 (wrap64 (x3_1 + 1)) (wrap64 (x4_1 + 1))) = some r := by rw [if_pos rfl] at H; exact H
          clear H
          have H := H1
          clear H1
          have H' := Aside0.mk H
          clear H
          go_wp2_with (first | ((with_reducible refine gate_callee (f := 23) rfl ?_); refine goesL_ (some 14) rfl rfl Try.func23 (by kernel_rfl) rfl #[.string a0, .int .i64 x4_1] rfl (by (try simp only [List.map_toArray, List.map_cons, List.map_nil]); first | done | rfl | (simp only [List.length_drop, List.length_take]; rfl) | (simp (disch := omega) only [IntWalk.u64_in, IntWalk.i64_in, IntWalk.u8_in]; rfl)) ?_; (with_reducible refine (screeref10_Set.calls k1 a0 x4_1 true _ A3.out).mono ?_); rintro e w' ⟨rfl, ⟨nd, rfl⟩⟩; refine ⟨_, rfl, ?_⟩))
          go_roundg k1
          case measure => have := HK1.out; omega
          case rel => exact ⟨(wrap64 (x3_1 + 1)), (wrap64 (x4_1 + 1)), (by first | rfl | (simp; done) | (simp [*]; done)), (by first | rfl | (simp; done) | (simp [*]; done)), (by first | (with_reducible exact H') | exact H' | (subst_vars; exact H')), ⟨by have := HK1.out; omega⟩, by repeat (first | exact Drawn0.refl _ | apply Drawn0.step)⟩
        · replace c4 := Bool.eq_false_iff.mpr c4
          subst c4
          have H1 : (screeref10_Full.l0 k1 a0 x3_1 (wrap64 (x4_1 + 1))) = some r := by rw [if_neg (show ¬ (false = true) by decide)] at H; exact H
          clear H
          have H := H1
          clear H1
          have H' := Aside0.mk H
          clear H
          go_wp2_with (first | ((with_reducible refine gate_callee (f := 23) rfl ?_); refine goesL_ (some 14) rfl rfl Try.func23 (by kernel_rfl) rfl #[.string a0, .int .i64 x4_1] rfl (by (try simp only [List.map_toArray, List.map_cons, List.map_nil]); first | done | rfl | (simp only [List.length_drop, List.length_take]; rfl) | (simp (disch := omega) only [IntWalk.u64_in, IntWalk.i64_in, IntWalk.u8_in]; rfl)) ?_; (with_reducible refine (screeref10_Set.calls k1 a0 x4_1 false _ A3.out).mono ?_); rintro e w' ⟨rfl, ⟨nd, rfl⟩⟩; refine ⟨_, rfl, ?_⟩))
          go_roundg k1
          case measure => have := HK1.out; omega
          case rel => exact ⟨(x3_1), (wrap64 (x4_1 + 1)), (by first | rfl | (simp; done) | (simp [*]; done)), (by first | rfl | (simp; done) | (simp [*]; done)), (by first | (with_reducible exact H') | exact H' | (subst_vars; exact H')), ⟨by have := HK1.out; omega⟩, by repeat (first | exact Drawn0.refl _ | apply Drawn0.step)⟩
      · rw [if_neg c2] at H
        have c2b0 : decide (x4_1 < (wrap64 (8 * (a0.size : Int)))) = false := decide_eq_false c2
        clear c2
        obtain rfl := Option.some.inj H
        go_wp2
        go_ret
        exact ⟨by first | rfl | (simp; done) | (simp [*]; done), by repeat (first | exact Drawn0.refl _ | apply Drawn0.step)⟩

/-! ### screelaw10_BloomTells: function 3 -/
mutual
def screelaw10_BloomTells.j0 : Nat → List ByteArray → ByteArray → ByteArray → Int → Bool → Option (Bool)
  | 0, _, _, _, _, _ => none
  | k + 1, x0, x1, x2, x3, x29 => if x29 = true then (some true) else ((bloom_Make.f k x0).bind fun bt156 => ((screeref10_Make.f k x0).bind fun bt158 => (if bt156.1.toList = bt158.1.toList then (if bt156.2 = bt158.2 then ((bloom_Mix.f k x2).bind fun t160 => ((screeref10_Mix.f k x2).bind fun t161 => (if t160 = t161 then ((bloom_May.f k x1 x2).bind fun t162 => ((screeref10_May.f k x1 x2).bind fun t163 => (if (t162 != t163) = true then (screelaw10_BloomTells.j1 k x2 x3 true) else ((bloom_Full.f k x1).bind fun t164 => ((screeref10_Full.f k x1).bind fun t165 => (screelaw10_BloomTells.j1 k x2 x3 (t164 != t165))))))) else (screelaw10_BloomTells.j1 k x2 x3 true)))) else (screelaw10_BloomTells.j1 k x2 x3 true)) else (screelaw10_BloomTells.j1 k x2 x3 true))))
def screelaw10_BloomTells.j1 : Nat → ByteArray → Int → Bool → Option (Bool)
  | 0, _, _, _ => none
  | k + 1, x2, x3, x70 => if x70 = true then (none) else ((bloom_Bits.f k x2 x3).bind fun t166 => ((screeref10_Bits.f k x2 x3).bind fun t169 => (if (t166.length : Int) = (t169.length : Int) then (screelaw10_BloomTells.l0 k t166 t169 (t166.length : Int) 0) else (none))))
def screelaw10_BloomTells.l0 : Nat → List Int → List Int → Int → Int → Option (Bool)
  | 0, _, _, _, _ => none
  | k + 1, x13, x14, x83, x84 => if x84 < x83 then (if 0 ≤ x84 then (if x84 < (x13.length : Int) then (if x84 < (x14.length : Int) then (if (rd x13 x84) = (rd x14 x84) then (screelaw10_BloomTells.l0 k x13 x14 x83 (wrap64 (x84 + 1))) else (none)) else (none)) else (none)) else (none)) else (some true)
end
def screelaw10_BloomTells.f (k : Nat) (l0 : List ByteArray) (a1 : ByteArray) (a2 : ByteArray) (a3 : Int) : Option (Bool) := (screelaw10_awake.f k).bind fun t154 => (if t154 = true then ((screelaw10_large.f k l0).bind fun t155 => (if t155 = true then (screelaw10_BloomTells.j0 k l0 a1 a2 a3 true) else (if (a1.size : Int) > 200 then (screelaw10_BloomTells.j0 k l0 a1 a2 a3 true) else (screelaw10_BloomTells.j0 k l0 a1 a2 a3 (decide ((a2.size : Int) > 300)))))) else (none))
theorem screelaw10_BloomTells.mono_l : ∀ k, (∀ y0 y1 y2 y3 y4, LeO (screelaw10_BloomTells.j0 k y0 y1 y2 y3 y4) (screelaw10_BloomTells.j0 (k + 1) y0 y1 y2 y3 y4)) ∧ (∀ y0 y1 y2, LeO (screelaw10_BloomTells.j1 k y0 y1 y2) (screelaw10_BloomTells.j1 (k + 1) y0 y1 y2)) ∧ (∀ y0 y1 y2 y3, LeO (screelaw10_BloomTells.l0 k y0 y1 y2 y3) (screelaw10_BloomTells.l0 (k + 1) y0 y1 y2 y3))
  | 0 => ⟨fun _ _ _ _ _ r h => by simp [screelaw10_BloomTells.j0] at h, fun _ _ _ r h => by simp [screelaw10_BloomTells.j1] at h, fun _ _ _ _ r h => by simp [screelaw10_BloomTells.l0] at h⟩
  | k + 1 => by
    obtain ⟨ih0, ih1, ih2⟩ := screelaw10_BloomTells.mono_l k
    refine ⟨?_, ?_, ?_⟩
    · intro y0 y1 y2 y3 y4
      unfold screelaw10_BloomTells.j0
      repeat' first
      | (with_reducible exact ih0 _ _ _ _ _)
      | (with_reducible exact ih1 _ _ _)
      | (with_reducible exact ih2 _ _ _ _)
      | (with_reducible exact bloom_Bits.mono _ _ _)
      | (with_reducible exact bloom_Full.mono _ _)
      | (with_reducible exact bloom_Make.mono _ _)
      | (with_reducible exact bloom_May.mono _ _ _)
      | (with_reducible exact bloom_Mix.mono _ _)
      | (with_reducible exact screelaw10_awake.mono _)
      | (with_reducible exact screelaw10_large.mono _ _)
      | (with_reducible exact screeref10_Bits.mono _ _ _)
      | (with_reducible exact screeref10_Full.mono _ _)
      | (with_reducible exact screeref10_Make.mono _ _)
      | (with_reducible exact screeref10_May.mono _ _ _)
      | (with_reducible exact screeref10_Mix.mono _ _)
      | (with_reducible exact LeO.refl _)
      | (with_reducible exact LeO.none _)
      | (with_reducible refine LeO.ite ?_ ?_)
      | (with_reducible refine LeO.bind ?_ (fun _ => ?_))
      | exact ih0 _ _ _ _ _
      | exact ih1 _ _ _
      | exact ih2 _ _ _ _
      | exact bloom_Bits.mono _ _ _
      | exact bloom_Full.mono _ _
      | exact bloom_Make.mono _ _
      | exact bloom_May.mono _ _ _
      | exact bloom_Mix.mono _ _
      | exact screelaw10_awake.mono _
      | exact screelaw10_large.mono _ _
      | exact screeref10_Bits.mono _ _ _
      | exact screeref10_Full.mono _ _
      | exact screeref10_Make.mono _ _
      | exact screeref10_May.mono _ _ _
      | exact screeref10_Mix.mono _ _
      | exact LeO.none _
      | refine LeO.ite ?_ ?_
      | refine LeO.bind ?_ (fun _ => ?_)
    · intro y0 y1 y2
      unfold screelaw10_BloomTells.j1
      repeat' first
      | (with_reducible exact ih0 _ _ _ _ _)
      | (with_reducible exact ih1 _ _ _)
      | (with_reducible exact ih2 _ _ _ _)
      | (with_reducible exact bloom_Bits.mono _ _ _)
      | (with_reducible exact bloom_Full.mono _ _)
      | (with_reducible exact bloom_Make.mono _ _)
      | (with_reducible exact bloom_May.mono _ _ _)
      | (with_reducible exact bloom_Mix.mono _ _)
      | (with_reducible exact screelaw10_awake.mono _)
      | (with_reducible exact screelaw10_large.mono _ _)
      | (with_reducible exact screeref10_Bits.mono _ _ _)
      | (with_reducible exact screeref10_Full.mono _ _)
      | (with_reducible exact screeref10_Make.mono _ _)
      | (with_reducible exact screeref10_May.mono _ _ _)
      | (with_reducible exact screeref10_Mix.mono _ _)
      | (with_reducible exact LeO.refl _)
      | (with_reducible exact LeO.none _)
      | (with_reducible refine LeO.ite ?_ ?_)
      | (with_reducible refine LeO.bind ?_ (fun _ => ?_))
      | exact ih0 _ _ _ _ _
      | exact ih1 _ _ _
      | exact ih2 _ _ _ _
      | exact bloom_Bits.mono _ _ _
      | exact bloom_Full.mono _ _
      | exact bloom_Make.mono _ _
      | exact bloom_May.mono _ _ _
      | exact bloom_Mix.mono _ _
      | exact screelaw10_awake.mono _
      | exact screelaw10_large.mono _ _
      | exact screeref10_Bits.mono _ _ _
      | exact screeref10_Full.mono _ _
      | exact screeref10_Make.mono _ _
      | exact screeref10_May.mono _ _ _
      | exact screeref10_Mix.mono _ _
      | exact LeO.none _
      | refine LeO.ite ?_ ?_
      | refine LeO.bind ?_ (fun _ => ?_)
    · intro y0 y1 y2 y3
      unfold screelaw10_BloomTells.l0
      repeat' first
      | (with_reducible exact ih0 _ _ _ _ _)
      | (with_reducible exact ih1 _ _ _)
      | (with_reducible exact ih2 _ _ _ _)
      | (with_reducible exact bloom_Bits.mono _ _ _)
      | (with_reducible exact bloom_Full.mono _ _)
      | (with_reducible exact bloom_Make.mono _ _)
      | (with_reducible exact bloom_May.mono _ _ _)
      | (with_reducible exact bloom_Mix.mono _ _)
      | (with_reducible exact screelaw10_awake.mono _)
      | (with_reducible exact screelaw10_large.mono _ _)
      | (with_reducible exact screeref10_Bits.mono _ _ _)
      | (with_reducible exact screeref10_Full.mono _ _)
      | (with_reducible exact screeref10_Make.mono _ _)
      | (with_reducible exact screeref10_May.mono _ _ _)
      | (with_reducible exact screeref10_Mix.mono _ _)
      | (with_reducible exact LeO.refl _)
      | (with_reducible exact LeO.none _)
      | (with_reducible refine LeO.ite ?_ ?_)
      | (with_reducible refine LeO.bind ?_ (fun _ => ?_))
      | exact ih0 _ _ _ _ _
      | exact ih1 _ _ _
      | exact ih2 _ _ _ _
      | exact bloom_Bits.mono _ _ _
      | exact bloom_Full.mono _ _
      | exact bloom_Make.mono _ _
      | exact bloom_May.mono _ _ _
      | exact bloom_Mix.mono _ _
      | exact screelaw10_awake.mono _
      | exact screelaw10_large.mono _ _
      | exact screeref10_Bits.mono _ _ _
      | exact screeref10_Full.mono _ _
      | exact screeref10_Make.mono _ _
      | exact screeref10_May.mono _ _ _
      | exact screeref10_Mix.mono _ _
      | exact LeO.none _
      | refine LeO.ite ?_ ?_
      | refine LeO.bind ?_ (fun _ => ?_)
theorem screelaw10_BloomTells.mono : ∀ a0 a1 a2 a3 k, LeO (screelaw10_BloomTells.f k a0 a1 a2 a3) (screelaw10_BloomTells.f (k + 1) a0 a1 a2 a3) := by
  intro a0 a1 a2 a3 k
  obtain ⟨ih0, ih1, ih2⟩ := screelaw10_BloomTells.mono_l k
  unfold screelaw10_BloomTells.f
  repeat' first
      | (with_reducible exact ih0 _ _ _ _ _)
      | (with_reducible exact ih1 _ _ _)
      | (with_reducible exact ih2 _ _ _ _)
      | (with_reducible exact bloom_Bits.mono _ _ _)
      | (with_reducible exact bloom_Full.mono _ _)
      | (with_reducible exact bloom_Make.mono _ _)
      | (with_reducible exact bloom_May.mono _ _ _)
      | (with_reducible exact bloom_Mix.mono _ _)
      | (with_reducible exact screelaw10_awake.mono _)
      | (with_reducible exact screelaw10_large.mono _ _)
      | (with_reducible exact screeref10_Bits.mono _ _ _)
      | (with_reducible exact screeref10_Full.mono _ _)
      | (with_reducible exact screeref10_Make.mono _ _)
      | (with_reducible exact screeref10_May.mono _ _ _)
      | (with_reducible exact screeref10_Mix.mono _ _)
      | (with_reducible exact LeO.refl _)
      | (with_reducible exact LeO.none _)
      | (with_reducible refine LeO.ite ?_ ?_)
      | (with_reducible refine LeO.bind ?_ (fun _ => ?_))
      | exact ih0 _ _ _ _ _
      | exact ih1 _ _ _
      | exact ih2 _ _ _ _
      | exact bloom_Bits.mono _ _ _
      | exact bloom_Full.mono _ _
      | exact bloom_Make.mono _ _
      | exact bloom_May.mono _ _ _
      | exact bloom_Mix.mono _ _
      | exact screelaw10_awake.mono _
      | exact screelaw10_large.mono _ _
      | exact screeref10_Bits.mono _ _ _
      | exact screeref10_Full.mono _ _
      | exact screeref10_Make.mono _ _
      | exact screeref10_May.mono _ _ _
      | exact screeref10_Mix.mono _ _
      | exact LeO.none _
      | refine LeO.ite ?_ ?_
      | refine LeO.bind ?_ (fun _ => ?_)
set_option maxHeartbeats 8000000 in
set_option maxRecDepth 100000 in
theorem screelaw10_BloomTells.calls (k : Nat) (A0 : Option Addr) (c0 : Nat) (l0 : List ByteArray) (a1 : ByteArray) (a2 : ByteArray) (a3 : Int) (r : Bool) (w : World) (hr0 : Kd.C Kd.string w A0 l0.length l0) (hc0 : l0.length ≤ c0) (h : screelaw10_BloomTells.f k l0 a1 a2 a3 = some r) :
    Calls Try.prog 3 #[.slice A0 l0.length c0, .string a1, .string a2, .int .i64 a3] w fun e w' => e = .returned (.bool r) ∧ Below w.heap.size w w' := by
  have HR0 := Aside0.mk hr0
  have HC0 := Aside0.mk hc0
  clear hr0 hc0
  have HB := Aside0.mk (Below.refl w.heap.size w)
  have H : ((screelaw10_awake.f k).bind fun t154 => (if t154 = true then ((screelaw10_large.f k l0).bind fun t155 => (if t155 = true then (screelaw10_BloomTells.j0 k l0 a1 a2 a3 true) else (if (a1.size : Int) > 200 then (screelaw10_BloomTells.j0 k l0 a1 a2 a3 true) else (screelaw10_BloomTells.j0 k l0 a1 a2 a3 (decide ((a2.size : Int) > 300)))))) else (none))) = some r := h
  clear h
  replace H := Option.bind_eq_some_iff.mp H
  obtain ⟨t154, A50, H⟩ := H
  replace H : (if t154 = true then ((screelaw10_large.f k l0).bind fun t155 => (if t155 = true then (screelaw10_BloomTells.j0 k l0 a1 a2 a3 true) else (if (a1.size : Int) > 200 then (screelaw10_BloomTells.j0 k l0 a1 a2 a3 true) else (screelaw10_BloomTells.j0 k l0 a1 a2 a3 (decide ((a2.size : Int) > 300)))))) else (none)) = some r := H
  have A5 := Aside0.mk A50
  clear A50
  by_cases c6 : t154 = true
  · subst c6
    have H1 : ((screelaw10_large.f k l0).bind fun t155 => (if t155 = true then (screelaw10_BloomTells.j0 k l0 a1 a2 a3 true) else (if (a1.size : Int) > 200 then (screelaw10_BloomTells.j0 k l0 a1 a2 a3 true) else (screelaw10_BloomTells.j0 k l0 a1 a2 a3 (decide ((a2.size : Int) > 300)))))) = some r := by rw [if_pos rfl] at H; exact H
    clear H
    have H := H1
    clear H1
    have HC7 := Aside0.mk H
    clear H
    go_enter Try.func3, Try.ntmps3
    go_upto_region 3 with (first | (go_at_call 10; (with_reducible refine (screelaw10_awake.calls k  true _ A5.out).mono ?_); rintro e w8 ⟨rfl, hb⟩; have n0_ := Aside0.mk (below_step (by repeat (first | (with_reducible first | exact HB.out | apply below_alloc | apply pw_below_drewN | apply below_drew1) | exact HB.out)) hb); clear HB; have HB := n0_; clear n0_; (try clear hb); (try clear hb2); (try clear hk); (try clear hi); (try clear A5)))
    repeat (go_quiet (first | (go_at_call 10; (with_reducible refine (screelaw10_awake.calls k  true _ A5.out).mono ?_); rintro e w8 ⟨rfl, hb⟩; have n0_ := Aside0.mk (below_step (by repeat (first | (with_reducible first | exact HB.out | apply below_alloc | apply pw_below_drewN | apply below_drew1) | exact HB.out)) hb); clear HB; have HB := n0_; clear n0_; (try clear hb); (try clear hb2); (try clear hk); (try clear hi); (try clear A5))); go_upto_region 3 with (first | (go_at_call 10; (with_reducible refine (screelaw10_awake.calls k  true _ A5.out).mono ?_); rintro e w8 ⟨rfl, hb⟩; have n0_ := Aside0.mk (below_step (by repeat (first | (with_reducible first | exact HB.out | apply below_alloc | apply pw_below_drewN | apply below_drew1) | exact HB.out)) hb); clear HB; have HB := n0_; clear n0_; (try clear hb); (try clear hb2); (try clear hk); (try clear hi); (try clear A5))))
    (try simp only [Act.put, List.setIfInBounds_toArray, List.set_cons_zero, List.set_cons_succ])
    go_cut [29] (fun v29 wc => ∃ (kq : Nat) (x29_6 : Bool), v29 = .bool x29_6 ∧ Aside0 (screelaw10_BloomTells.j0 kq l0 a1 a2 a3 x29_6 = some r) ∧ Aside0 (kq ≤ k) ∧ Aside0 (Below w.heap.size w wc))
    case first =>
      have H := HC7.out
      clear HC7
      replace H := Option.bind_eq_some_iff.mp H
      obtain ⟨t155, A90, H⟩ := H
      replace H : (if t155 = true then (screelaw10_BloomTells.j0 k l0 a1 a2 a3 true) else (if (a1.size : Int) > 200 then (screelaw10_BloomTells.j0 k l0 a1 a2 a3 true) else (screelaw10_BloomTells.j0 k l0 a1 a2 a3 (decide ((a2.size : Int) > 300))))) = some r := H
      have A9 := Aside0.mk A90
      clear A90
      by_cases c10 : t155 = true
      · subst c10
        have H1 : (screelaw10_BloomTells.j0 k l0 a1 a2 a3 true) = some r := by rw [if_pos rfl] at H; exact H
        clear H
        have H := H1
        clear H1
        have H' := Aside0.mk H
        clear H
        go_wp2_with (first | (go_at_call 11; (with_reducible refine (screelaw10_large.calls k _ _ l0 true _ ?side1 ?side2 A9.out).mono ?_); (case side1 => repeat (first | exact (Kd.C_below HR0.out HB.out) | (with_reducible refine Kd.C_alloc ?_ _) | (with_reducible refine Kd.C_drewN ?_ _) | (with_reducible refine Kd.C_drew ?_))); (case side2 => exact HC0.out); rintro e w' ⟨rfl, ⟨nd, rfl⟩⟩; (try first | exact ⟨rfl, _, World.drewN_drewN _ _ _⟩ | exact ⟨rfl, _, Eq.trans (World.drewN_drewN _ _ _) (congrArg (World.drewN _) (Nat.add_assoc _ _ _))⟩)))
        repeat (go_quiet (first | (go_at_call 11; (with_reducible refine (screelaw10_large.calls k _ _ l0 true _ ?side1 ?side2 A9.out).mono ?_); (case side1 => repeat (first | exact (Kd.C_below HR0.out HB.out) | (with_reducible refine Kd.C_alloc ?_ _) | (with_reducible refine Kd.C_drewN ?_ _) | (with_reducible refine Kd.C_drew ?_))); (case side2 => exact HC0.out); rintro e w' ⟨rfl, ⟨nd, rfl⟩⟩; (try first | exact ⟨rfl, _, World.drewN_drewN _ _ _⟩ | exact ⟨rfl, _, Eq.trans (World.drewN_drewN _ _ _) (congrArg (World.drewN _) (Nat.add_assoc _ _ _))⟩))); try go_wp2_with (first | (go_at_call 11; (with_reducible refine (screelaw10_large.calls k _ _ l0 true _ ?side1 ?side2 A9.out).mono ?_); (case side1 => repeat (first | exact (Kd.C_below HR0.out HB.out) | (with_reducible refine Kd.C_alloc ?_ _) | (with_reducible refine Kd.C_drewN ?_ _) | (with_reducible refine Kd.C_drew ?_))); (case side2 => exact HC0.out); rintro e w' ⟨rfl, ⟨nd, rfl⟩⟩; (try first | exact ⟨rfl, _, World.drewN_drewN _ _ _⟩ | exact ⟨rfl, _, Eq.trans (World.drewN_drewN _ _ _) (congrArg (World.drewN _) (Nat.add_assoc _ _ _))⟩))))
        go_meet
        case rel => exact ⟨_, (true), (by first | rfl | (simp; done) | (simp [*]; done)), (by first | (with_reducible exact H') | exact H' | (subst_vars; exact H')), ⟨by first | omega | exact Nat.le_refl _⟩, ⟨by repeat (first | (with_reducible first | exact HB.out | apply below_alloc | apply pw_below_drewN | apply below_drew1) | exact HB.out)⟩⟩
      · replace c10 := Bool.eq_false_iff.mpr c10
        subst c10
        have H1 : (if (a1.size : Int) > 200 then (screelaw10_BloomTells.j0 k l0 a1 a2 a3 true) else (screelaw10_BloomTells.j0 k l0 a1 a2 a3 (decide ((a2.size : Int) > 300)))) = some r := by rw [if_neg (show ¬ (false = true) by decide)] at H; exact H
        clear H
        have H := H1
        clear H1
        by_cases c11 : (a1.size : Int) > 200
        · rw [if_pos c11] at H
          have c11b0 : decide (200 < (a1.size : Int)) = true := decide_eq_true c11
          have c11b1 : decide (200 < a1.size) = true := decide_eq_true (by omega)
          clear c11
          (first | rw [c11b0] | (simp only [i64_w, i32_w]; rw [c11b0]) | skip)
          have H' := Aside0.mk H
          clear H
          go_wp2_with (first | (go_at_call 11; (with_reducible refine (screelaw10_large.calls k _ _ l0 false _ ?side1 ?side2 A9.out).mono ?_); (case side1 => repeat (first | exact (Kd.C_below HR0.out HB.out) | (with_reducible refine Kd.C_alloc ?_ _) | (with_reducible refine Kd.C_drewN ?_ _) | (with_reducible refine Kd.C_drew ?_))); (case side2 => exact HC0.out); rintro e w' ⟨rfl, ⟨nd, rfl⟩⟩; (try first | exact ⟨rfl, _, World.drewN_drewN _ _ _⟩ | exact ⟨rfl, _, Eq.trans (World.drewN_drewN _ _ _) (congrArg (World.drewN _) (Nat.add_assoc _ _ _))⟩)))
          repeat (go_quiet (first | (go_at_call 11; (with_reducible refine (screelaw10_large.calls k _ _ l0 false _ ?side1 ?side2 A9.out).mono ?_); (case side1 => repeat (first | exact (Kd.C_below HR0.out HB.out) | (with_reducible refine Kd.C_alloc ?_ _) | (with_reducible refine Kd.C_drewN ?_ _) | (with_reducible refine Kd.C_drew ?_))); (case side2 => exact HC0.out); rintro e w' ⟨rfl, ⟨nd, rfl⟩⟩; (try first | exact ⟨rfl, _, World.drewN_drewN _ _ _⟩ | exact ⟨rfl, _, Eq.trans (World.drewN_drewN _ _ _) (congrArg (World.drewN _) (Nat.add_assoc _ _ _))⟩))); try go_wp2_with (first | (go_at_call 11; (with_reducible refine (screelaw10_large.calls k _ _ l0 false _ ?side1 ?side2 A9.out).mono ?_); (case side1 => repeat (first | exact (Kd.C_below HR0.out HB.out) | (with_reducible refine Kd.C_alloc ?_ _) | (with_reducible refine Kd.C_drewN ?_ _) | (with_reducible refine Kd.C_drew ?_))); (case side2 => exact HC0.out); rintro e w' ⟨rfl, ⟨nd, rfl⟩⟩; (try first | exact ⟨rfl, _, World.drewN_drewN _ _ _⟩ | exact ⟨rfl, _, Eq.trans (World.drewN_drewN _ _ _) (congrArg (World.drewN _) (Nat.add_assoc _ _ _))⟩))))
          go_meet
          case rel => exact ⟨_, (true), (by first | rfl | (simp; done) | (simp [*]; done)), (by first | (with_reducible exact H') | exact H' | (subst_vars; exact H')), ⟨by first | omega | exact Nat.le_refl _⟩, ⟨by repeat (first | (with_reducible first | exact HB.out | apply below_alloc | apply pw_below_drewN | apply below_drew1) | exact HB.out)⟩⟩
        · rw [if_neg c11] at H
          have c11b0 : decide (200 < (a1.size : Int)) = false := decide_eq_false c11
          have c11b1 : decide (200 < a1.size) = false := decide_eq_false (by omega)
          clear c11
          (first | rw [c11b0] | (simp only [i64_w, i32_w]; rw [c11b0]) | skip)
          have H' := Aside0.mk H
          clear H
          go_wp2_with (first | (go_at_call 11; (with_reducible refine (screelaw10_large.calls k _ _ l0 false _ ?side1 ?side2 A9.out).mono ?_); (case side1 => repeat (first | exact (Kd.C_below HR0.out HB.out) | (with_reducible refine Kd.C_alloc ?_ _) | (with_reducible refine Kd.C_drewN ?_ _) | (with_reducible refine Kd.C_drew ?_))); (case side2 => exact HC0.out); rintro e w' ⟨rfl, ⟨nd, rfl⟩⟩; (try first | exact ⟨rfl, _, World.drewN_drewN _ _ _⟩ | exact ⟨rfl, _, Eq.trans (World.drewN_drewN _ _ _) (congrArg (World.drewN _) (Nat.add_assoc _ _ _))⟩)))
          repeat (go_quiet (first | (go_at_call 11; (with_reducible refine (screelaw10_large.calls k _ _ l0 false _ ?side1 ?side2 A9.out).mono ?_); (case side1 => repeat (first | exact (Kd.C_below HR0.out HB.out) | (with_reducible refine Kd.C_alloc ?_ _) | (with_reducible refine Kd.C_drewN ?_ _) | (with_reducible refine Kd.C_drew ?_))); (case side2 => exact HC0.out); rintro e w' ⟨rfl, ⟨nd, rfl⟩⟩; (try first | exact ⟨rfl, _, World.drewN_drewN _ _ _⟩ | exact ⟨rfl, _, Eq.trans (World.drewN_drewN _ _ _) (congrArg (World.drewN _) (Nat.add_assoc _ _ _))⟩))); try go_wp2_with (first | (go_at_call 11; (with_reducible refine (screelaw10_large.calls k _ _ l0 false _ ?side1 ?side2 A9.out).mono ?_); (case side1 => repeat (first | exact (Kd.C_below HR0.out HB.out) | (with_reducible refine Kd.C_alloc ?_ _) | (with_reducible refine Kd.C_drewN ?_ _) | (with_reducible refine Kd.C_drew ?_))); (case side2 => exact HC0.out); rintro e w' ⟨rfl, ⟨nd, rfl⟩⟩; (try first | exact ⟨rfl, _, World.drewN_drewN _ _ _⟩ | exact ⟨rfl, _, Eq.trans (World.drewN_drewN _ _ _) (congrArg (World.drewN _) (Nat.add_assoc _ _ _))⟩))))
          go_meet
          case rel => exact ⟨_, (decide ((a2.size : Int) > 300)), (by first | rfl | (simp; done) | (simp [*]; done)), (by first | (with_reducible exact H') | exact H' | (subst_vars; exact H')), ⟨by first | omega | exact Nat.le_refl _⟩, ⟨by repeat (first | (with_reducible first | exact HB.out | apply below_alloc | apply pw_below_drewN | apply below_drew1) | exact HB.out)⟩⟩
    case rest =>
      clear HC7
      try clear c1
      try clear p2
      try clear c3
      try clear c6
      try clear c10
      try clear c11
      try clear c11b0
      try clear c11b1
      obtain ⟨kq, x29_6, rfl, HA, HJ6, HB⟩ := hcut
      cases kq with
      | zero => exact absurd HA.out (by simp [screelaw10_BloomTells.j0])
      | succ kj6 =>
        have H := HA.out
        clear HA
        simp only [screelaw10_BloomTells.j0] at H
        by_cases c12 : x29_6 = true
        · subst c12
          have H1 : (some true) = some r := by rw [if_pos rfl] at H; exact H
          clear H
          have H := H1
          clear H1
          obtain rfl := Option.some.inj H
          go_wp2
          repeat (go_quiet (fail); try go_wp2)
          go_ret
          exact ⟨by first | rfl | (simp [errW_none, errW_some] <;> rfl) | (simp (disch := omega) only [← i64_w, IntWalk.i64_in]; rfl) | (simp [*, errW_none, errW_some] <;> rfl), by repeat (first | (with_reducible first | exact HB.out | apply below_alloc | apply pw_below_drewN | apply below_drew1) | exact HB.out)⟩
        · replace c12 := Bool.eq_false_iff.mpr c12
          subst c12
          have H1 : ((bloom_Make.f kj6 l0).bind fun bt156 => ((screeref10_Make.f kj6 l0).bind fun bt158 => (if bt156.1.toList = bt158.1.toList then (if bt156.2 = bt158.2 then ((bloom_Mix.f kj6 a2).bind fun t160 => ((screeref10_Mix.f kj6 a2).bind fun t161 => (if t160 = t161 then ((bloom_May.f kj6 a1 a2).bind fun t162 => ((screeref10_May.f kj6 a1 a2).bind fun t163 => (if (t162 != t163) = true then (screelaw10_BloomTells.j1 kj6 a2 a3 true) else ((bloom_Full.f kj6 a1).bind fun t164 => ((screeref10_Full.f kj6 a1).bind fun t165 => (screelaw10_BloomTells.j1 kj6 a2 a3 (t164 != t165))))))) else (screelaw10_BloomTells.j1 kj6 a2 a3 true)))) else (screelaw10_BloomTells.j1 kj6 a2 a3 true)) else (screelaw10_BloomTells.j1 kj6 a2 a3 true)))) = some r := by rw [if_neg (show ¬ (false = true) by decide)] at H; exact H
          clear H
          have H := H1
          clear H1
          replace H := Option.bind_eq_some_iff.mp H
          obtain ⟨⟨t156, t157⟩, A130, H⟩ := H
          replace H : ((screeref10_Make.f kj6 l0).bind fun bt158 => (if t156.toList = bt158.1.toList then (if t157 = bt158.2 then ((bloom_Mix.f kj6 a2).bind fun t160 => ((screeref10_Mix.f kj6 a2).bind fun t161 => (if t160 = t161 then ((bloom_May.f kj6 a1 a2).bind fun t162 => ((screeref10_May.f kj6 a1 a2).bind fun t163 => (if (t162 != t163) = true then (screelaw10_BloomTells.j1 kj6 a2 a3 true) else ((bloom_Full.f kj6 a1).bind fun t164 => ((screeref10_Full.f kj6 a1).bind fun t165 => (screelaw10_BloomTells.j1 kj6 a2 a3 (t164 != t165))))))) else (screelaw10_BloomTells.j1 kj6 a2 a3 true)))) else (screelaw10_BloomTells.j1 kj6 a2 a3 true)) else (screelaw10_BloomTells.j1 kj6 a2 a3 true))) = some r := H
          have A13 := Aside0.mk A130
          clear A130
          replace H := Option.bind_eq_some_iff.mp H
          obtain ⟨⟨t158, t159⟩, A140, H⟩ := H
          replace H : (if t156.toList = t158.toList then (if t157 = t159 then ((bloom_Mix.f kj6 a2).bind fun t160 => ((screeref10_Mix.f kj6 a2).bind fun t161 => (if t160 = t161 then ((bloom_May.f kj6 a1 a2).bind fun t162 => ((screeref10_May.f kj6 a1 a2).bind fun t163 => (if (t162 != t163) = true then (screelaw10_BloomTells.j1 kj6 a2 a3 true) else ((bloom_Full.f kj6 a1).bind fun t164 => ((screeref10_Full.f kj6 a1).bind fun t165 => (screelaw10_BloomTells.j1 kj6 a2 a3 (t164 != t165))))))) else (screelaw10_BloomTells.j1 kj6 a2 a3 true)))) else (screelaw10_BloomTells.j1 kj6 a2 a3 true)) else (screelaw10_BloomTells.j1 kj6 a2 a3 true)) = some r := H
          have A14 := Aside0.mk A140
          clear A140
          have HC15 := Aside0.mk H
          clear H
          go_upto_region 7 with (first | (go_at_call 12; (with_reducible refine (bloom_Make.calls kj6 _ _ l0 t156 t157 _ ?side1 ?side2 A13.out).mono ?_); (case side1 => repeat (first | exact (Kd.C_below HR0.out HB.out) | (with_reducible refine Kd.C_alloc ?_ _) | (with_reducible refine Kd.C_drewN ?_ _) | (with_reducible refine Kd.C_drew ?_))); (case side2 => exact HC0.out); rintro e w16 ⟨rfl, hb⟩; have n0_ := Aside0.mk (below_step (by repeat (first | (with_reducible first | exact HB.out | apply below_alloc | apply pw_below_drewN | apply below_drew1) | exact HB.out)) hb); clear HB; have HB := n0_; clear n0_; (try clear hb); (try clear hb2); (try clear hk); (try clear hi); (try clear A13)) | (go_at_call 13; (with_reducible refine (screeref10_Make.calls kj6 _ _ l0 t158 t159 _ ?side1 ?side2 A14.out).mono ?_); (case side1 => repeat (first | exact (Kd.C_below HR0.out HB.out) | (with_reducible refine Kd.C_alloc ?_ _) | (with_reducible refine Kd.C_drewN ?_ _) | (with_reducible refine Kd.C_drew ?_))); (case side2 => exact HC0.out); rintro e w17 ⟨rfl, hb⟩; have n0_ := Aside0.mk (below_step (by repeat (first | (with_reducible first | exact HB.out | apply below_alloc | apply pw_below_drewN | apply below_drew1) | exact HB.out)) hb); clear HB; have HB := n0_; clear n0_; (try clear hb); (try clear hb2); (try clear hk); (try clear hi); (try clear A14)))
          repeat (go_quiet (first | (go_at_call 12; (with_reducible refine (bloom_Make.calls kj6 _ _ l0 t156 t157 _ ?side1 ?side2 A13.out).mono ?_); (case side1 => repeat (first | exact (Kd.C_below HR0.out HB.out) | (with_reducible refine Kd.C_alloc ?_ _) | (with_reducible refine Kd.C_drewN ?_ _) | (with_reducible refine Kd.C_drew ?_))); (case side2 => exact HC0.out); rintro e w16 ⟨rfl, hb⟩; have n0_ := Aside0.mk (below_step (by repeat (first | (with_reducible first | exact HB.out | apply below_alloc | apply pw_below_drewN | apply below_drew1) | exact HB.out)) hb); clear HB; have HB := n0_; clear n0_; (try clear hb); (try clear hb2); (try clear hk); (try clear hi); (try clear A13)) | (go_at_call 13; (with_reducible refine (screeref10_Make.calls kj6 _ _ l0 t158 t159 _ ?side1 ?side2 A14.out).mono ?_); (case side1 => repeat (first | exact (Kd.C_below HR0.out HB.out) | (with_reducible refine Kd.C_alloc ?_ _) | (with_reducible refine Kd.C_drewN ?_ _) | (with_reducible refine Kd.C_drew ?_))); (case side2 => exact HC0.out); rintro e w17 ⟨rfl, hb⟩; have n0_ := Aside0.mk (below_step (by repeat (first | (with_reducible first | exact HB.out | apply below_alloc | apply pw_below_drewN | apply below_drew1) | exact HB.out)) hb); clear HB; have HB := n0_; clear n0_; (try clear hb); (try clear hb2); (try clear hk); (try clear hi); (try clear A14))); go_upto_region 7 with (first | (go_at_call 12; (with_reducible refine (bloom_Make.calls kj6 _ _ l0 t156 t157 _ ?side1 ?side2 A13.out).mono ?_); (case side1 => repeat (first | exact (Kd.C_below HR0.out HB.out) | (with_reducible refine Kd.C_alloc ?_ _) | (with_reducible refine Kd.C_drewN ?_ _) | (with_reducible refine Kd.C_drew ?_))); (case side2 => exact HC0.out); rintro e w16 ⟨rfl, hb⟩; have n0_ := Aside0.mk (below_step (by repeat (first | (with_reducible first | exact HB.out | apply below_alloc | apply pw_below_drewN | apply below_drew1) | exact HB.out)) hb); clear HB; have HB := n0_; clear n0_; (try clear hb); (try clear hb2); (try clear hk); (try clear hi); (try clear A13)) | (go_at_call 13; (with_reducible refine (screeref10_Make.calls kj6 _ _ l0 t158 t159 _ ?side1 ?side2 A14.out).mono ?_); (case side1 => repeat (first | exact (Kd.C_below HR0.out HB.out) | (with_reducible refine Kd.C_alloc ?_ _) | (with_reducible refine Kd.C_drewN ?_ _) | (with_reducible refine Kd.C_drew ?_))); (case side2 => exact HC0.out); rintro e w17 ⟨rfl, hb⟩; have n0_ := Aside0.mk (below_step (by repeat (first | (with_reducible first | exact HB.out | apply below_alloc | apply pw_below_drewN | apply below_drew1) | exact HB.out)) hb); clear HB; have HB := n0_; clear n0_; (try clear hb); (try clear hb2); (try clear hk); (try clear hi); (try clear A14))))
          (try simp only [Act.put, List.setIfInBounds_toArray, List.set_cons_zero, List.set_cons_succ])
          go_cut [70] (fun v70 wc => ∃ (kq : Nat) (x70_14 : Bool), v70 = .bool x70_14 ∧ Aside0 (screelaw10_BloomTells.j1 kq a2 a3 x70_14 = some r) ∧ Aside0 (kq ≤ kj6) ∧ Aside0 (Below w.heap.size w wc))
          case first =>
            have H := HC15.out
            clear HC15
            by_cases c18 : t156.toList = t158.toList
            · rw [if_pos c18] at H
              have c18b0 : (t156.toList == t158.toList) = true := beq_iff_eq.mpr c18
              have c18b1 : (t156.toList != t158.toList) = false := bne_eq_false_iff_eq.mpr c18
              clear c18
              (first | rw [c18b0] | (simp only [i64_w, i32_w]; rw [c18b0]) | skip)
              by_cases c19 : t157 = t159
              · rw [if_pos c19] at H
                have c19b0 : (t157 == t159) = true := beq_iff_eq.mpr c19
                have c19b1 : (t157 != t159) = false := bne_eq_false_iff_eq.mpr c19
                clear c19
                replace H := Option.bind_eq_some_iff.mp H
                obtain ⟨t160, A200, H⟩ := H
                replace H : ((screeref10_Mix.f kj6 a2).bind fun t161 => (if t160 = t161 then ((bloom_May.f kj6 a1 a2).bind fun t162 => ((screeref10_May.f kj6 a1 a2).bind fun t163 => (if (t162 != t163) = true then (screelaw10_BloomTells.j1 kj6 a2 a3 true) else ((bloom_Full.f kj6 a1).bind fun t164 => ((screeref10_Full.f kj6 a1).bind fun t165 => (screelaw10_BloomTells.j1 kj6 a2 a3 (t164 != t165))))))) else (screelaw10_BloomTells.j1 kj6 a2 a3 true))) = some r := H
                have A20 := Aside0.mk A200
                clear A200
                replace H := Option.bind_eq_some_iff.mp H
                obtain ⟨t161, A210, H⟩ := H
                replace H : (if t160 = t161 then ((bloom_May.f kj6 a1 a2).bind fun t162 => ((screeref10_May.f kj6 a1 a2).bind fun t163 => (if (t162 != t163) = true then (screelaw10_BloomTells.j1 kj6 a2 a3 true) else ((bloom_Full.f kj6 a1).bind fun t164 => ((screeref10_Full.f kj6 a1).bind fun t165 => (screelaw10_BloomTells.j1 kj6 a2 a3 (t164 != t165))))))) else (screelaw10_BloomTells.j1 kj6 a2 a3 true)) = some r := H
                have A21 := Aside0.mk A210
                clear A210
                by_cases c22 : t160 = t161
                · rw [if_pos c22] at H
                  have c22b0 : (t160 == t161) = true := beq_iff_eq.mpr c22
                  have c22b1 : (t160 != t161) = false := bne_eq_false_iff_eq.mpr c22
                  clear c22
                  replace H := Option.bind_eq_some_iff.mp H
                  obtain ⟨t162, A230, H⟩ := H
                  replace H : ((screeref10_May.f kj6 a1 a2).bind fun t163 => (if (t162 != t163) = true then (screelaw10_BloomTells.j1 kj6 a2 a3 true) else ((bloom_Full.f kj6 a1).bind fun t164 => ((screeref10_Full.f kj6 a1).bind fun t165 => (screelaw10_BloomTells.j1 kj6 a2 a3 (t164 != t165)))))) = some r := H
                  have A23 := Aside0.mk A230
                  clear A230
                  replace H := Option.bind_eq_some_iff.mp H
                  obtain ⟨t163, A240, H⟩ := H
                  replace H : (if (t162 != t163) = true then (screelaw10_BloomTells.j1 kj6 a2 a3 true) else ((bloom_Full.f kj6 a1).bind fun t164 => ((screeref10_Full.f kj6 a1).bind fun t165 => (screelaw10_BloomTells.j1 kj6 a2 a3 (t164 != t165))))) = some r := H
                  have A24 := Aside0.mk A240
                  clear A240
                  by_cases c25 : (t162 != t163) = true
                  · rw [if_pos c25] at H
                    have c25b0 : (t162 != t163) = true := c25
                    (try (have c25b1 : decide (t162 = t163) = false := by simpa using c25))
                    (try (have c25b2 : (t162 == t163) = false := by simpa using c25))
                    (try (have c25b3 : ¬ (t162 = t163) := by simpa using c25))
                    clear c25
                    have H' := Aside0.mk H
                    clear H
                    go_wp2_with (first | (go_at_call 14; (with_reducible refine (bloom_Mix.calls kj6 a2 t160 _ A20.out).mono ?_); rintro e w' ⟨rfl, ⟨nd, rfl⟩⟩; (try first | exact ⟨rfl, _, World.drewN_drewN _ _ _⟩ | exact ⟨rfl, _, Eq.trans (World.drewN_drewN _ _ _) (congrArg (World.drewN _) (Nat.add_assoc _ _ _))⟩)) | (go_at_call 15; (with_reducible refine (screeref10_Mix.calls kj6 a2 t161 _ A21.out).mono ?_); rintro e w' ⟨rfl, ⟨nd, rfl⟩⟩; (try first | exact ⟨rfl, _, World.drewN_drewN _ _ _⟩ | exact ⟨rfl, _, Eq.trans (World.drewN_drewN _ _ _) (congrArg (World.drewN _) (Nat.add_assoc _ _ _))⟩)) | (go_at_call 16; (with_reducible refine (bloom_May.calls kj6 a1 a2 t162 _ A23.out).mono ?_); rintro e w26 ⟨rfl, hb⟩; have n0_ := Aside0.mk (below_step (by repeat (first | (with_reducible first | exact HB.out | apply below_alloc | apply pw_below_drewN | apply below_drew1) | exact HB.out)) hb); clear HB; have HB := n0_; clear n0_; (try clear hb); (try clear hb2); (try clear hk); (try clear hi); (try clear A23)) | (go_at_call 17; (with_reducible refine (screeref10_May.calls kj6 a1 a2 t163 _ A24.out).mono ?_); rintro e w27 ⟨rfl, hb⟩; have n0_ := Aside0.mk (below_step (by repeat (first | (with_reducible first | exact HB.out | apply below_alloc | apply pw_below_drewN | apply below_drew1) | exact HB.out)) hb); clear HB; have HB := n0_; clear n0_; (try clear hb); (try clear hb2); (try clear hk); (try clear hi); (try clear A24)))
                    repeat (go_quiet (first | (go_at_call 14; (with_reducible refine (bloom_Mix.calls kj6 a2 t160 _ A20.out).mono ?_); rintro e w' ⟨rfl, ⟨nd, rfl⟩⟩; (try first | exact ⟨rfl, _, World.drewN_drewN _ _ _⟩ | exact ⟨rfl, _, Eq.trans (World.drewN_drewN _ _ _) (congrArg (World.drewN _) (Nat.add_assoc _ _ _))⟩)) | (go_at_call 15; (with_reducible refine (screeref10_Mix.calls kj6 a2 t161 _ A21.out).mono ?_); rintro e w' ⟨rfl, ⟨nd, rfl⟩⟩; (try first | exact ⟨rfl, _, World.drewN_drewN _ _ _⟩ | exact ⟨rfl, _, Eq.trans (World.drewN_drewN _ _ _) (congrArg (World.drewN _) (Nat.add_assoc _ _ _))⟩)) | (go_at_call 16; (with_reducible refine (bloom_May.calls kj6 a1 a2 t162 _ A23.out).mono ?_); rintro e w26 ⟨rfl, hb⟩; have n0_ := Aside0.mk (below_step (by repeat (first | (with_reducible first | exact HB.out | apply below_alloc | apply pw_below_drewN | apply below_drew1) | exact HB.out)) hb); clear HB; have HB := n0_; clear n0_; (try clear hb); (try clear hb2); (try clear hk); (try clear hi); (try clear A23)) | (go_at_call 17; (with_reducible refine (screeref10_May.calls kj6 a1 a2 t163 _ A24.out).mono ?_); rintro e w27 ⟨rfl, hb⟩; have n0_ := Aside0.mk (below_step (by repeat (first | (with_reducible first | exact HB.out | apply below_alloc | apply pw_below_drewN | apply below_drew1) | exact HB.out)) hb); clear HB; have HB := n0_; clear n0_; (try clear hb); (try clear hb2); (try clear hk); (try clear hi); (try clear A24))); try go_wp2_with (first | (go_at_call 14; (with_reducible refine (bloom_Mix.calls kj6 a2 t160 _ A20.out).mono ?_); rintro e w' ⟨rfl, ⟨nd, rfl⟩⟩; (try first | exact ⟨rfl, _, World.drewN_drewN _ _ _⟩ | exact ⟨rfl, _, Eq.trans (World.drewN_drewN _ _ _) (congrArg (World.drewN _) (Nat.add_assoc _ _ _))⟩)) | (go_at_call 15; (with_reducible refine (screeref10_Mix.calls kj6 a2 t161 _ A21.out).mono ?_); rintro e w' ⟨rfl, ⟨nd, rfl⟩⟩; (try first | exact ⟨rfl, _, World.drewN_drewN _ _ _⟩ | exact ⟨rfl, _, Eq.trans (World.drewN_drewN _ _ _) (congrArg (World.drewN _) (Nat.add_assoc _ _ _))⟩)) | (go_at_call 16; (with_reducible refine (bloom_May.calls kj6 a1 a2 t162 _ A23.out).mono ?_); rintro e w26 ⟨rfl, hb⟩; have n0_ := Aside0.mk (below_step (by repeat (first | (with_reducible first | exact HB.out | apply below_alloc | apply pw_below_drewN | apply below_drew1) | exact HB.out)) hb); clear HB; have HB := n0_; clear n0_; (try clear hb); (try clear hb2); (try clear hk); (try clear hi); (try clear A23)) | (go_at_call 17; (with_reducible refine (screeref10_May.calls kj6 a1 a2 t163 _ A24.out).mono ?_); rintro e w27 ⟨rfl, hb⟩; have n0_ := Aside0.mk (below_step (by repeat (first | (with_reducible first | exact HB.out | apply below_alloc | apply pw_below_drewN | apply below_drew1) | exact HB.out)) hb); clear HB; have HB := n0_; clear n0_; (try clear hb); (try clear hb2); (try clear hk); (try clear hi); (try clear A24))))
                    go_meet
                    case rel => exact ⟨_, (true), (by first | rfl | (simp; done) | (simp [*]; done)), (by first | (with_reducible exact H') | exact H' | (subst_vars; exact H')), ⟨by have := HJ6.out; first | omega | exact Nat.le_refl _⟩, ⟨by repeat (first | (with_reducible first | exact HB.out | apply below_alloc | apply pw_below_drewN | apply below_drew1) | exact HB.out)⟩⟩
                  · rw [if_neg c25] at H
                    have c25b0 : (t162 != t163) = false := by simpa using c25
                    (try (have c25b1 : decide (t162 = t163) = true := by simpa using c25))
                    (try (have c25b2 : (t162 == t163) = true := by simpa using c25))
                    clear c25
                    replace H := Option.bind_eq_some_iff.mp H
                    obtain ⟨t164, A280, H⟩ := H
                    replace H : ((screeref10_Full.f kj6 a1).bind fun t165 => (screelaw10_BloomTells.j1 kj6 a2 a3 (t164 != t165))) = some r := H
                    have A28 := Aside0.mk A280
                    clear A280
                    replace H := Option.bind_eq_some_iff.mp H
                    obtain ⟨t165, A290, H⟩ := H
                    replace H : (screelaw10_BloomTells.j1 kj6 a2 a3 (t164 != t165)) = some r := H
                    have A29 := Aside0.mk A290
                    clear A290
                    have H' := Aside0.mk H
                    clear H
                    go_wp2_with (first | (go_at_call 14; (with_reducible refine (bloom_Mix.calls kj6 a2 t160 _ A20.out).mono ?_); rintro e w' ⟨rfl, ⟨nd, rfl⟩⟩; (try first | exact ⟨rfl, _, World.drewN_drewN _ _ _⟩ | exact ⟨rfl, _, Eq.trans (World.drewN_drewN _ _ _) (congrArg (World.drewN _) (Nat.add_assoc _ _ _))⟩)) | (go_at_call 15; (with_reducible refine (screeref10_Mix.calls kj6 a2 t161 _ A21.out).mono ?_); rintro e w' ⟨rfl, ⟨nd, rfl⟩⟩; (try first | exact ⟨rfl, _, World.drewN_drewN _ _ _⟩ | exact ⟨rfl, _, Eq.trans (World.drewN_drewN _ _ _) (congrArg (World.drewN _) (Nat.add_assoc _ _ _))⟩)) | (go_at_call 16; (with_reducible refine (bloom_May.calls kj6 a1 a2 t162 _ A23.out).mono ?_); rintro e w30 ⟨rfl, hb⟩; have n0_ := Aside0.mk (below_step (by repeat (first | (with_reducible first | exact HB.out | apply below_alloc | apply pw_below_drewN | apply below_drew1) | exact HB.out)) hb); clear HB; have HB := n0_; clear n0_; (try clear hb); (try clear hb2); (try clear hk); (try clear hi); (try clear A23)) | (go_at_call 17; (with_reducible refine (screeref10_May.calls kj6 a1 a2 t163 _ A24.out).mono ?_); rintro e w31 ⟨rfl, hb⟩; have n0_ := Aside0.mk (below_step (by repeat (first | (with_reducible first | exact HB.out | apply below_alloc | apply pw_below_drewN | apply below_drew1) | exact HB.out)) hb); clear HB; have HB := n0_; clear n0_; (try clear hb); (try clear hb2); (try clear hk); (try clear hi); (try clear A24)) | (go_at_call 18; (with_reducible refine (bloom_Full.calls kj6 a1 t164 _ A28.out).mono ?_); rintro e w' ⟨rfl, ⟨nd, rfl⟩⟩; (try first | exact ⟨rfl, _, World.drewN_drewN _ _ _⟩ | exact ⟨rfl, _, Eq.trans (World.drewN_drewN _ _ _) (congrArg (World.drewN _) (Nat.add_assoc _ _ _))⟩)) | (go_at_call 19; (with_reducible refine (screeref10_Full.calls kj6 a1 t165 _ A29.out).mono ?_); rintro e w' ⟨rfl, ⟨nd, rfl⟩⟩; (try first | exact ⟨rfl, _, World.drewN_drewN _ _ _⟩ | exact ⟨rfl, _, Eq.trans (World.drewN_drewN _ _ _) (congrArg (World.drewN _) (Nat.add_assoc _ _ _))⟩)))
                    repeat (go_quiet (first | (go_at_call 14; (with_reducible refine (bloom_Mix.calls kj6 a2 t160 _ A20.out).mono ?_); rintro e w' ⟨rfl, ⟨nd, rfl⟩⟩; (try first | exact ⟨rfl, _, World.drewN_drewN _ _ _⟩ | exact ⟨rfl, _, Eq.trans (World.drewN_drewN _ _ _) (congrArg (World.drewN _) (Nat.add_assoc _ _ _))⟩)) | (go_at_call 15; (with_reducible refine (screeref10_Mix.calls kj6 a2 t161 _ A21.out).mono ?_); rintro e w' ⟨rfl, ⟨nd, rfl⟩⟩; (try first | exact ⟨rfl, _, World.drewN_drewN _ _ _⟩ | exact ⟨rfl, _, Eq.trans (World.drewN_drewN _ _ _) (congrArg (World.drewN _) (Nat.add_assoc _ _ _))⟩)) | (go_at_call 16; (with_reducible refine (bloom_May.calls kj6 a1 a2 t162 _ A23.out).mono ?_); rintro e w30 ⟨rfl, hb⟩; have n0_ := Aside0.mk (below_step (by repeat (first | (with_reducible first | exact HB.out | apply below_alloc | apply pw_below_drewN | apply below_drew1) | exact HB.out)) hb); clear HB; have HB := n0_; clear n0_; (try clear hb); (try clear hb2); (try clear hk); (try clear hi); (try clear A23)) | (go_at_call 17; (with_reducible refine (screeref10_May.calls kj6 a1 a2 t163 _ A24.out).mono ?_); rintro e w31 ⟨rfl, hb⟩; have n0_ := Aside0.mk (below_step (by repeat (first | (with_reducible first | exact HB.out | apply below_alloc | apply pw_below_drewN | apply below_drew1) | exact HB.out)) hb); clear HB; have HB := n0_; clear n0_; (try clear hb); (try clear hb2); (try clear hk); (try clear hi); (try clear A24)) | (go_at_call 18; (with_reducible refine (bloom_Full.calls kj6 a1 t164 _ A28.out).mono ?_); rintro e w' ⟨rfl, ⟨nd, rfl⟩⟩; (try first | exact ⟨rfl, _, World.drewN_drewN _ _ _⟩ | exact ⟨rfl, _, Eq.trans (World.drewN_drewN _ _ _) (congrArg (World.drewN _) (Nat.add_assoc _ _ _))⟩)) | (go_at_call 19; (with_reducible refine (screeref10_Full.calls kj6 a1 t165 _ A29.out).mono ?_); rintro e w' ⟨rfl, ⟨nd, rfl⟩⟩; (try first | exact ⟨rfl, _, World.drewN_drewN _ _ _⟩ | exact ⟨rfl, _, Eq.trans (World.drewN_drewN _ _ _) (congrArg (World.drewN _) (Nat.add_assoc _ _ _))⟩))); try go_wp2_with (first | (go_at_call 14; (with_reducible refine (bloom_Mix.calls kj6 a2 t160 _ A20.out).mono ?_); rintro e w' ⟨rfl, ⟨nd, rfl⟩⟩; (try first | exact ⟨rfl, _, World.drewN_drewN _ _ _⟩ | exact ⟨rfl, _, Eq.trans (World.drewN_drewN _ _ _) (congrArg (World.drewN _) (Nat.add_assoc _ _ _))⟩)) | (go_at_call 15; (with_reducible refine (screeref10_Mix.calls kj6 a2 t161 _ A21.out).mono ?_); rintro e w' ⟨rfl, ⟨nd, rfl⟩⟩; (try first | exact ⟨rfl, _, World.drewN_drewN _ _ _⟩ | exact ⟨rfl, _, Eq.trans (World.drewN_drewN _ _ _) (congrArg (World.drewN _) (Nat.add_assoc _ _ _))⟩)) | (go_at_call 16; (with_reducible refine (bloom_May.calls kj6 a1 a2 t162 _ A23.out).mono ?_); rintro e w30 ⟨rfl, hb⟩; have n0_ := Aside0.mk (below_step (by repeat (first | (with_reducible first | exact HB.out | apply below_alloc | apply pw_below_drewN | apply below_drew1) | exact HB.out)) hb); clear HB; have HB := n0_; clear n0_; (try clear hb); (try clear hb2); (try clear hk); (try clear hi); (try clear A23)) | (go_at_call 17; (with_reducible refine (screeref10_May.calls kj6 a1 a2 t163 _ A24.out).mono ?_); rintro e w31 ⟨rfl, hb⟩; have n0_ := Aside0.mk (below_step (by repeat (first | (with_reducible first | exact HB.out | apply below_alloc | apply pw_below_drewN | apply below_drew1) | exact HB.out)) hb); clear HB; have HB := n0_; clear n0_; (try clear hb); (try clear hb2); (try clear hk); (try clear hi); (try clear A24)) | (go_at_call 18; (with_reducible refine (bloom_Full.calls kj6 a1 t164 _ A28.out).mono ?_); rintro e w' ⟨rfl, ⟨nd, rfl⟩⟩; (try first | exact ⟨rfl, _, World.drewN_drewN _ _ _⟩ | exact ⟨rfl, _, Eq.trans (World.drewN_drewN _ _ _) (congrArg (World.drewN _) (Nat.add_assoc _ _ _))⟩)) | (go_at_call 19; (with_reducible refine (screeref10_Full.calls kj6 a1 t165 _ A29.out).mono ?_); rintro e w' ⟨rfl, ⟨nd, rfl⟩⟩; (try first | exact ⟨rfl, _, World.drewN_drewN _ _ _⟩ | exact ⟨rfl, _, Eq.trans (World.drewN_drewN _ _ _) (congrArg (World.drewN _) (Nat.add_assoc _ _ _))⟩))))
                    go_meet
                    case rel => exact ⟨_, ((t164 != t165)), (by first | rfl | (simp; done) | (simp [*]; done)), (by first | (with_reducible exact H') | exact H' | (subst_vars; exact H')), ⟨by have := HJ6.out; first | omega | exact Nat.le_refl _⟩, ⟨by repeat (first | (with_reducible first | exact HB.out | apply below_alloc | apply pw_below_drewN | apply below_drew1) | exact HB.out)⟩⟩
                · rw [if_neg c22] at H
                  have c22b0 : (t160 == t161) = false := beq_eq_false_iff_ne.mpr c22
                  have c22b1 : (t160 != t161) = true := bne_iff_ne.mpr c22
                  have H' := Aside0.mk H
                  clear H
                  go_wp2_with (first | (go_at_call 14; (with_reducible refine (bloom_Mix.calls kj6 a2 t160 _ A20.out).mono ?_); rintro e w' ⟨rfl, ⟨nd, rfl⟩⟩; (try first | exact ⟨rfl, _, World.drewN_drewN _ _ _⟩ | exact ⟨rfl, _, Eq.trans (World.drewN_drewN _ _ _) (congrArg (World.drewN _) (Nat.add_assoc _ _ _))⟩)) | (go_at_call 15; (with_reducible refine (screeref10_Mix.calls kj6 a2 t161 _ A21.out).mono ?_); rintro e w' ⟨rfl, ⟨nd, rfl⟩⟩; (try first | exact ⟨rfl, _, World.drewN_drewN _ _ _⟩ | exact ⟨rfl, _, Eq.trans (World.drewN_drewN _ _ _) (congrArg (World.drewN _) (Nat.add_assoc _ _ _))⟩)))
                  repeat (go_quiet (first | (go_at_call 14; (with_reducible refine (bloom_Mix.calls kj6 a2 t160 _ A20.out).mono ?_); rintro e w' ⟨rfl, ⟨nd, rfl⟩⟩; (try first | exact ⟨rfl, _, World.drewN_drewN _ _ _⟩ | exact ⟨rfl, _, Eq.trans (World.drewN_drewN _ _ _) (congrArg (World.drewN _) (Nat.add_assoc _ _ _))⟩)) | (go_at_call 15; (with_reducible refine (screeref10_Mix.calls kj6 a2 t161 _ A21.out).mono ?_); rintro e w' ⟨rfl, ⟨nd, rfl⟩⟩; (try first | exact ⟨rfl, _, World.drewN_drewN _ _ _⟩ | exact ⟨rfl, _, Eq.trans (World.drewN_drewN _ _ _) (congrArg (World.drewN _) (Nat.add_assoc _ _ _))⟩))); try go_wp2_with (first | (go_at_call 14; (with_reducible refine (bloom_Mix.calls kj6 a2 t160 _ A20.out).mono ?_); rintro e w' ⟨rfl, ⟨nd, rfl⟩⟩; (try first | exact ⟨rfl, _, World.drewN_drewN _ _ _⟩ | exact ⟨rfl, _, Eq.trans (World.drewN_drewN _ _ _) (congrArg (World.drewN _) (Nat.add_assoc _ _ _))⟩)) | (go_at_call 15; (with_reducible refine (screeref10_Mix.calls kj6 a2 t161 _ A21.out).mono ?_); rintro e w' ⟨rfl, ⟨nd, rfl⟩⟩; (try first | exact ⟨rfl, _, World.drewN_drewN _ _ _⟩ | exact ⟨rfl, _, Eq.trans (World.drewN_drewN _ _ _) (congrArg (World.drewN _) (Nat.add_assoc _ _ _))⟩))))
                  go_meet
                  case rel => exact ⟨_, (true), (by first | rfl | (simp; done) | (simp [*]; done)), (by first | (with_reducible exact H') | exact H' | (subst_vars; exact H')), ⟨by have := HJ6.out; first | omega | exact Nat.le_refl _⟩, ⟨by repeat (first | (with_reducible first | exact HB.out | apply below_alloc | apply pw_below_drewN | apply below_drew1) | exact HB.out)⟩⟩
              · rw [if_neg c19] at H
                have c19b0 : (t157 == t159) = false := beq_eq_false_iff_ne.mpr c19
                have c19b1 : (t157 != t159) = true := bne_iff_ne.mpr c19
                have H' := Aside0.mk H
                clear H
                go_wp2
                repeat (go_quiet (fail); try go_wp2)
                go_meet
                case rel => exact ⟨_, (true), (by first | rfl | (simp; done) | (simp [*]; done)), (by first | (with_reducible exact H') | exact H' | (subst_vars; exact H')), ⟨by have := HJ6.out; first | omega | exact Nat.le_refl _⟩, ⟨by repeat (first | (with_reducible first | exact HB.out | apply below_alloc | apply pw_below_drewN | apply below_drew1) | exact HB.out)⟩⟩
            · rw [if_neg c18] at H
              have c18b0 : (t156.toList == t158.toList) = false := beq_eq_false_iff_ne.mpr c18
              have c18b1 : (t156.toList != t158.toList) = true := bne_iff_ne.mpr c18
              (first | rw [c18b0] | (simp only [i64_w, i32_w]; rw [c18b0]) | skip)
              have H' := Aside0.mk H
              clear H
              go_wp2
              repeat (go_quiet (fail); try go_wp2)
              go_meet
              case rel => exact ⟨_, (true), (by first | rfl | (simp; done) | (simp [*]; done)), (by first | (with_reducible exact H') | exact H' | (subst_vars; exact H')), ⟨by have := HJ6.out; first | omega | exact Nat.le_refl _⟩, ⟨by repeat (first | (with_reducible first | exact HB.out | apply below_alloc | apply pw_below_drewN | apply below_drew1) | exact HB.out)⟩⟩
          case rest =>
            clear HC15
            try clear c1
            try clear c2
            try clear p2
            try clear c3
            try clear c6
            try clear c10
            try clear c11
            try clear c11b0
            try clear c11b1
            try clear c12
            try clear c18
            try clear c18b0
            try clear c18b1
            try clear c19
            try clear c19b0
            try clear c19b1
            try clear c22
            try clear c22b0
            try clear c22b1
            try clear c25
            try clear c25b0
            try clear c25b1
            try clear c25b2
            try clear p2
            obtain ⟨kq, x70_14, rfl, HA, HJ14, HB⟩ := hcut
            cases kq with
            | zero => exact absurd HA.out (by simp [screelaw10_BloomTells.j1])
            | succ kj14 =>
              have H := HA.out
              clear HA
              simp only [screelaw10_BloomTells.j1] at H
              by_cases c32 : x70_14 = true
              · subst c32
                have H1 : (none) = some r := by rw [if_pos rfl] at H; exact H
                clear H
                have H := H1
                clear H1
                exact absurd H (by simp)
              · replace c32 := Bool.eq_false_iff.mpr c32
                subst c32
                have H1 : ((bloom_Bits.f kj14 a2 a3).bind fun t166 => ((screeref10_Bits.f kj14 a2 a3).bind fun t169 => (if (t166.length : Int) = (t169.length : Int) then (screelaw10_BloomTells.l0 kj14 t166 t169 (t166.length : Int) 0) else (none)))) = some r := by rw [if_neg (show ¬ (false = true) by decide)] at H; exact H
                clear H
                have H := H1
                clear H1
                replace H := Option.bind_eq_some_iff.mp H
                obtain ⟨t166, A330, H⟩ := H
                replace H : ((screeref10_Bits.f kj14 a2 a3).bind fun t169 => (if (t166.length : Int) = (t169.length : Int) then (screelaw10_BloomTells.l0 kj14 t166 t169 (t166.length : Int) 0) else (none))) = some r := H
                have A33 := Aside0.mk A330
                clear A330
                replace H := Option.bind_eq_some_iff.mp H
                obtain ⟨t169, A340, H⟩ := H
                replace H : (if (t166.length : Int) = (t169.length : Int) then (screelaw10_BloomTells.l0 kj14 t166 t169 (t166.length : Int) 0) else (none)) = some r := H
                have A34 := Aside0.mk A340
                clear A340
                by_cases c35 : (t166.length : Int) = (t169.length : Int)
                · rw [if_pos c35] at H
                  have c35b0 : ((t166.length : Int) == (t169.length : Int)) = true := beq_iff_eq.mpr c35
                  have c35b1 : ((t166.length : Int) != (t169.length : Int)) = false := bne_eq_false_iff_eq.mpr c35
                  have c35b2 : (t166.length == t169.length) = true := by first | simpa using c35 | (simp at c35 ⊢; omega)
                  clear c35
                  have H' := Aside0.mk H
                  clear H
                  go_wp2_with (first | (go_at_call 20; (with_reducible refine (bloom_Bits.calls kj14 a2 a3 t166 _ A33.out).mono ?_); rintro e w36 ⟨v167, rfl, ho0, hb⟩; have n0_ := Aside0.mk (Kd.R_lower ho0 (below_size (by repeat (first | (with_reducible first | exact HB.out | apply below_alloc | apply pw_below_drewN | apply below_drew1) | exact HB.out)))); have n1_ := Aside0.mk (below_step (by repeat (first | (with_reducible first | exact HB.out | apply below_alloc | apply pw_below_drewN | apply below_drew1) | exact HB.out)) hb); clear HB; have HO168 := n0_; have HB := n1_; clear n0_ n1_; (try clear hb); (try clear hb2); (try clear hk); (try clear hi); (try clear ho0); (try clear A33)) | (go_at_call 21; (with_reducible refine (screeref10_Bits.calls kj14 a2 a3 t169 _ A34.out).mono ?_); rintro e w37 ⟨v170, rfl, ho0, hb⟩; have n0_ := Aside0.mk (Kd.R_elder' (by (with_reducible repeat (first | apply Kd.R_alloc | apply Kd.R_drewN | apply Kd.R_drew)); exact HO168.out) (Kd.R_base ho0) hb); have n1_ := Aside0.mk (Kd.R_lower (Kd.R_new' ho0 (Kd.R_lt (by (with_reducible repeat (first | apply Kd.R_alloc | apply Kd.R_drewN | apply Kd.R_drew)); exact HO168.out))) (below_size (by repeat (first | (with_reducible first | exact HB.out | apply below_alloc | apply pw_below_drewN | apply below_drew1) | exact HB.out)))); have n2_ := Aside0.mk (below_step (by repeat (first | (with_reducible first | exact HB.out | apply below_alloc | apply pw_below_drewN | apply below_drew1) | exact HB.out)) hb); clear HO168; clear HB; have HO168 := n0_; have HO171 := n1_; have HB := n2_; clear n0_ n1_ n2_; (try clear hb); (try clear hb2); (try clear hk); (try clear hi); (try clear ho0); (try clear A34); obtain ⟨Ao38, co38, eo38⟩ := Kd.R_slice HO168.out; subst eo38; obtain ⟨Ao39, co39, eo39⟩ := Kd.R_slice HO171.out; subst eo39))
                  repeat (go_quiet (first | (go_at_call 20; (with_reducible refine (bloom_Bits.calls kj14 a2 a3 t166 _ A33.out).mono ?_); rintro e w36 ⟨v167, rfl, ho0, hb⟩; have n0_ := Aside0.mk (Kd.R_lower ho0 (below_size (by repeat (first | (with_reducible first | exact HB.out | apply below_alloc | apply pw_below_drewN | apply below_drew1) | exact HB.out)))); have n1_ := Aside0.mk (below_step (by repeat (first | (with_reducible first | exact HB.out | apply below_alloc | apply pw_below_drewN | apply below_drew1) | exact HB.out)) hb); clear HB; have HO168 := n0_; have HB := n1_; clear n0_ n1_; (try clear hb); (try clear hb2); (try clear hk); (try clear hi); (try clear ho0); (try clear A33)) | (go_at_call 21; (with_reducible refine (screeref10_Bits.calls kj14 a2 a3 t169 _ A34.out).mono ?_); rintro e w37 ⟨v170, rfl, ho0, hb⟩; have n0_ := Aside0.mk (Kd.R_elder' (by (with_reducible repeat (first | apply Kd.R_alloc | apply Kd.R_drewN | apply Kd.R_drew)); exact HO168.out) (Kd.R_base ho0) hb); have n1_ := Aside0.mk (Kd.R_lower (Kd.R_new' ho0 (Kd.R_lt (by (with_reducible repeat (first | apply Kd.R_alloc | apply Kd.R_drewN | apply Kd.R_drew)); exact HO168.out))) (below_size (by repeat (first | (with_reducible first | exact HB.out | apply below_alloc | apply pw_below_drewN | apply below_drew1) | exact HB.out)))); have n2_ := Aside0.mk (below_step (by repeat (first | (with_reducible first | exact HB.out | apply below_alloc | apply pw_below_drewN | apply below_drew1) | exact HB.out)) hb); clear HO168; clear HB; have HO168 := n0_; have HO171 := n1_; have HB := n2_; clear n0_ n1_ n2_; (try clear hb); (try clear hb2); (try clear hk); (try clear hi); (try clear ho0); (try clear A34); obtain ⟨Ao38, co38, eo38⟩ := Kd.R_slice HO168.out; subst eo38; obtain ⟨Ao39, co39, eo39⟩ := Kd.R_slice HO171.out; subst eo39)); try go_wp2_with (first | (go_at_call 20; (with_reducible refine (bloom_Bits.calls kj14 a2 a3 t166 _ A33.out).mono ?_); rintro e w36 ⟨v167, rfl, ho0, hb⟩; have n0_ := Aside0.mk (Kd.R_lower ho0 (below_size (by repeat (first | (with_reducible first | exact HB.out | apply below_alloc | apply pw_below_drewN | apply below_drew1) | exact HB.out)))); have n1_ := Aside0.mk (below_step (by repeat (first | (with_reducible first | exact HB.out | apply below_alloc | apply pw_below_drewN | apply below_drew1) | exact HB.out)) hb); clear HB; have HO168 := n0_; have HB := n1_; clear n0_ n1_; (try clear hb); (try clear hb2); (try clear hk); (try clear hi); (try clear ho0); (try clear A33)) | (go_at_call 21; (with_reducible refine (screeref10_Bits.calls kj14 a2 a3 t169 _ A34.out).mono ?_); rintro e w37 ⟨v170, rfl, ho0, hb⟩; have n0_ := Aside0.mk (Kd.R_elder' (by (with_reducible repeat (first | apply Kd.R_alloc | apply Kd.R_drewN | apply Kd.R_drew)); exact HO168.out) (Kd.R_base ho0) hb); have n1_ := Aside0.mk (Kd.R_lower (Kd.R_new' ho0 (Kd.R_lt (by (with_reducible repeat (first | apply Kd.R_alloc | apply Kd.R_drewN | apply Kd.R_drew)); exact HO168.out))) (below_size (by repeat (first | (with_reducible first | exact HB.out | apply below_alloc | apply pw_below_drewN | apply below_drew1) | exact HB.out)))); have n2_ := Aside0.mk (below_step (by repeat (first | (with_reducible first | exact HB.out | apply below_alloc | apply pw_below_drewN | apply below_drew1) | exact HB.out)) hb); clear HO168; clear HB; have HO168 := n0_; have HO171 := n1_; have HB := n2_; clear n0_ n1_ n2_; (try clear hb); (try clear hb2); (try clear hk); (try clear hi); (try clear ho0); (try clear A34); obtain ⟨Ao38, co38, eo38⟩ := Kd.R_slice HO168.out; subst eo38; obtain ⟨Ao39, co39, eo39⟩ := Kd.R_slice HO171.out; subst eo39)))
                  go_loopg [84] kj14 (fun kq v84 w' => ∃ (x84_3 : Int), v84 = .int .i64 x84_3 ∧ Aside0 (screelaw10_BloomTells.l0 kq t166 t169 (t166.length : Int) x84_3 = some r) ∧ Aside0 (kq ≤ kj14) ∧ Aside0 (Kd.R (Kd.int .i64) 3 w' w.heap.size (fun k_ => some k_ ≠ ((.slice Ao39 t169.length co39) : Value).ownBlock) (.slice Ao38 t166.length co38) t166) ∧ Aside0 (Kd.R (Kd.int .i64) 3 w' w.heap.size (fun k_ => some k_ ≠ ((.slice Ao38 t166.length co38) : Value).ownBlock) (.slice Ao39 t169.length co39) t169) ∧ Aside0 (Below w.heap.size w w'))
                  case atStart => exact ⟨(0), (by first | rfl | (simp; done) | (simp [*]; done)), H', ⟨Nat.le_refl _⟩, ⟨by (with_reducible repeat (first | apply Kd.R_alloc | apply Kd.R_drewN | apply Kd.R_drew)); exact Kd.R_mono HO168.out (fun _ hk => hk.2)⟩, ⟨by (with_reducible repeat (first | apply Kd.R_alloc | apply Kd.R_drewN | apply Kd.R_drew)); exact Kd.R_mono HO171.out (fun _ hk => hk.2)⟩, ⟨by repeat (first | (with_reducible first | exact HB.out | apply below_alloc | apply pw_below_drewN | apply below_drew1) | exact HB.out)⟩⟩
                  case round =>
                    clear H'
                    try clear c1
                    try clear c2
                    try clear p2
                    try clear c3
                    try clear c6
                    try clear c10
                    try clear c11
                    try clear c11b0
                    try clear c11b1
                    try clear c12
                    try clear c18
                    try clear c18b0
                    try clear c18b1
                    try clear c19
                    try clear c19b0
                    try clear c19b1
                    try clear c22
                    try clear c22b0
                    try clear c22b1
                    try clear c25
                    try clear c25b0
                    try clear c25b1
                    try clear c25b2
                    try clear c32
                    try clear c35
                    try clear c35b0
                    try clear c35b1
                    try clear c35b2
                    try clear p2
                    obtain ⟨x84_3, rfl, HA, HK3, HO_13, HO_14, HB⟩ := hrel
                    cases gk with
                    | zero => exact absurd HA.out (by simp [screelaw10_BloomTells.l0])
                    | succ k3 =>
                      have H := HA.out
                      clear HA
                      simp only [screelaw10_BloomTells.l0] at H
                      by_cases c40 : x84_3 < (t166.length : Int)
                      · rw [if_pos c40] at H
                        have c40b0 : decide (x84_3 < (t166.length : Int)) = true := decide_eq_true c40
                        clear c40
                        by_cases c41 : 0 ≤ x84_3
                        · rw [if_pos c41] at H
                          have c41b0 : decide (0 ≤ x84_3) = true := decide_eq_true c41
                          clear c41
                          by_cases c42 : x84_3 < (t166.length : Int)
                          · rw [if_pos c42] at H
                            have c42b0 : decide (x84_3 < (t166.length : Int)) = true := decide_eq_true c42
                            clear c42
                            by_cases c43 : x84_3 < (t169.length : Int)
                            · rw [if_pos c43] at H
                              have c43b0 : decide (x84_3 < (t169.length : Int)) = true := decide_eq_true c43
                              clear c43
                              by_cases c44 : (rd t166 x84_3) = (rd t169 x84_3)
                              · rw [if_pos c44] at H
                                have c44b0 : ((rd t166 x84_3) == (rd t169 x84_3)) = true := beq_iff_eq.mpr c44
                                have c44b1 : ((rd t166 x84_3) != (rd t169 x84_3)) = false := bne_eq_false_iff_eq.mpr c44
                                clear c44
                                have H' := Aside0.mk H
                                clear H
                                have p172 : 0 ≤ (x84_3 : Int) := of_decide_eq_true (by first | (with_reducible assumption) | assumption)
                                have q172 : x84_3 < (t166.length : Int) := of_decide_eq_true (by first | (with_reducible assumption) | assumption)
                                obtain ⟨ad172, e172, hx172_0⟩ := Kd.at_int (Kd.R_reads' HO_13.out).2.2 x84_3 p172 q172
                                cases e172
                                replace p172 := eq_true p172
                                replace q172 := eq_true q172
                                have p173 : 0 ≤ (x84_3 : Int) := of_decide_eq_true (by first | (with_reducible assumption) | assumption)
                                have q173 : x84_3 < (t169.length : Int) := of_decide_eq_true (by first | (with_reducible assumption) | assumption)
                                obtain ⟨ad173, e173, hx173_0⟩ := Kd.at_int (Kd.R_reads' HO_14.out).2.2 x84_3 p173 q173
                                cases e173
                                replace p173 := eq_true p173
                                replace q173 := eq_true q173
                                go_wp2
                                repeat (go_quiet (fail); try go_wp2)
                                go_roundg k3
                                case measure => have := HJ6.out; have := HJ14.out; have := HK3.out; omega
                                case rel => exact ⟨(wrap64 (x84_3 + 1)), (by first | rfl | (simp; done) | (simp [*]; done)), (by first | (with_reducible exact H') | exact H' | (subst_vars; exact H')), ⟨by have := HJ6.out; have := HJ14.out; have := HK3.out; omega⟩, ⟨by (with_reducible repeat (first | apply Kd.R_alloc | apply Kd.R_drewN | apply Kd.R_drew)); exact HO_13.out⟩, ⟨by (with_reducible repeat (first | apply Kd.R_alloc | apply Kd.R_drewN | apply Kd.R_drew)); exact HO_14.out⟩, ⟨by repeat (first | (with_reducible first | exact HB.out | apply below_alloc | apply pw_below_drewN | apply below_drew1) | exact HB.out)⟩⟩
                              · rw [if_neg c44] at H
                                exact absurd H (by simp)
                            · rw [if_neg c43] at H
                              exact absurd H (by simp)
                          · rw [if_neg c42] at H
                            exact absurd H (by simp)
                        · rw [if_neg c41] at H
                          exact absurd H (by simp)
                      · rw [if_neg c40] at H
                        have c40b0 : decide (x84_3 < (t166.length : Int)) = false := decide_eq_false c40
                        clear c40
                        obtain rfl := Option.some.inj H
                        go_wp2
                        repeat (go_quiet (fail); try go_wp2)
                        go_ret
                        exact ⟨by first | rfl | (simp [errW_none, errW_some] <;> rfl) | (simp (disch := omega) only [← i64_w, IntWalk.i64_in]; rfl) | (simp [*, errW_none, errW_some] <;> rfl), by repeat (first | (with_reducible first | exact HB.out | apply below_alloc | apply pw_below_drewN | apply below_drew1) | exact HB.out)⟩
                · rw [if_neg c35] at H
                  exact absurd H (by simp)
  · replace c6 := Bool.eq_false_iff.mpr c6
    subst c6
    have H1 : (none) = some r := by rw [if_neg (show ¬ (false = true) by decide)] at H; exact H
    clear H
    have H := H1
    clear H1
    exact absurd H (by simp)

end Go.Proofs.Ythgefbabajpelaa.P
