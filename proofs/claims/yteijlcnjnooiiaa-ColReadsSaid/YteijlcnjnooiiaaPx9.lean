-- Printed by a program of this session's own (wip/tools/pprint.sh, over the kit's print, with given contracts): not typed by hand.
import Derived.Test.YteijlcnjnooiiaaPx0
import Derived.Test.YteijlcnjnooiiaaPx6
namespace Go.Proofs.Yteijlcnjnooiiaa.P
open Go.RowKit Go.Proofs.YteijlcnjnooiiaaW.PrintWords Go.Proofs.YteijlcnjnooiiaaW.PrintLast Go.Proofs.YteijlcnjnooiiaaW.PrintMore
set_option linter.unusedVariables false
set_option linter.unusedSimpArgs false
-- SQUEEZED

/-! ### num_Take: function 36 -/
mutual
def num_Take.l0 : Nat → ByteArray → Int → Int → Int → Option (Int × ByteArray × Bool)
 | 0, _, _, _, _ => none
 | k + 1, x0, x5, x11, x12 => if x12 < x11 then (if 0 ≤ x12 then (if x12 < (x0.size : Int) then (if (wrap64 (7 * x12)) ≥ 64 then (num_Take.j1 k x0 x5 x12 (IntKind.u64.wrap (bt x0 x12)) (wrap64 (7 * x12)) (Go.bits .andNot .u64 (IntKind.u64.wrap (bt x0 x12)) 128) x11 x12 true) else (if 0 ≤ (wrap64 (7 * x12)) then (num_Take.j1 k x0 x5 x12 (IntKind.u64.wrap (bt x0 x12)) (wrap64 (7 * x12)) (Go.bits .andNot .u64 (IntKind.u64.wrap (bt x0 x12)) 128) x11 x12 ((shr .u64 (shl .u64 (Go.bits .andNot .u64 (IntKind.u64.wrap (bt x0 x12)) 128) (wrap64 (7 * x12))) (wrap64 (7 * x12))) != (Go.bits .andNot .u64 (IntKind.u64.wrap (bt x0 x12)) 128))) else (none))) else (none)) else (none)) else (some (0, (⟨#[]⟩ : ByteArray), false))
def num_Take.j1 : Nat → ByteArray → Int → Int → Int → Int → Int → Int → Int → Bool → Option (Int × ByteArray × Bool)
 | 0, _, _, _, _, _, _, _, _, _ => none
 | k + 1, x0, x5, x6, x7, x8, x9, x11, x12, x33 => if x33 = true then (some (0, (⟨#[]⟩ : ByteArray), false)) else (if 0 ≤ x8 then (if x7 < 128 then (if x7 = 0 then (if x6 > 0 then (some (0, (⟨#[]⟩ : ByteArray), false)) else (if 0 ≤ (wrap64 (x6 + 1)) then (if (wrap64 (x6 + 1)) ≤ (x0.size : Int) then (some (Go.bits .or .u64 x5 (shl .u64 x9 x8), x0.extract ((wrap64 (x6 + 1)) : Int).toNat x0.size, true)) else (none)) else (none))) else (if 0 ≤ (wrap64 (x6 + 1)) then (if (wrap64 (x6 + 1)) ≤ (x0.size : Int) then (some (Go.bits .or .u64 x5 (shl .u64 x9 x8), x0.extract ((wrap64 (x6 + 1)) : Int).toNat x0.size, true)) else (none)) else (none))) else (num_Take.l0 k x0 (Go.bits .or .u64 x5 (shl .u64 x9 x8)) x11 (wrap64 (x12 + 1)))) else (none))
end
def num_Take.f (k : Nat) (a0 : ByteArray) : Option (Int × ByteArray × Bool) := num_Take.l0 k a0 0 (a0.size : Int) 0
theorem num_Take.mono_l : ∀ k, (∀ y0 y1 y2 y3, LeO (num_Take.l0 k y0 y1 y2 y3) (num_Take.l0 (k + 1) y0 y1 y2 y3)) ∧ (∀ y0 y1 y2 y3 y4 y5 y6 y7 y8, LeO (num_Take.j1 k y0 y1 y2 y3 y4 y5 y6 y7 y8) (num_Take.j1 (k + 1) y0 y1 y2 y3 y4 y5 y6 y7 y8))
 | 0 => ⟨fun _ _ _ _ r h => by simp [num_Take.l0] at h, fun _ _ _ _ _ _ _ _ _ r h => by simp [num_Take.j1] at h⟩
 | k + 1 => by
  obtain ⟨ih0, ih1⟩ := num_Take.mono_l k
  refine ⟨?_, ?_⟩
  ·intro y0 y1 y2 y3
   unfold num_Take.l0
   repeat' first
   | (with_reducible exact ih0 _ _ _ _)
   | (with_reducible exact ih1 _ _ _ _ _ _ _ _ _)
   | (with_reducible exact LeO.refl _)
   | (with_reducible exact LeO.none _)
   | (with_reducible refine LeO.ite ?_ ?_)
   | (with_reducible refine LeO.bind ?_ (fun _ => ?_))
   | exact ih0 _ _ _ _
   | exact ih1 _ _ _ _ _ _ _ _ _
   | exact LeO.none _
   | refine LeO.ite ?_ ?_
   | refine LeO.bind ?_ (fun _ => ?_)
  ·intro y0 y1 y2 y3 y4 y5 y6 y7 y8
   unfold num_Take.j1
   repeat' first
   | (with_reducible exact ih0 _ _ _ _)
   | (with_reducible exact ih1 _ _ _ _ _ _ _ _ _)
   | (with_reducible exact LeO.refl _)
   | (with_reducible exact LeO.none _)
   | (with_reducible refine LeO.ite ?_ ?_)
   | (with_reducible refine LeO.bind ?_ (fun _ => ?_))
   | exact ih0 _ _ _ _
   | exact ih1 _ _ _ _ _ _ _ _ _
   | exact LeO.none _
   | refine LeO.ite ?_ ?_
   | refine LeO.bind ?_ (fun _ => ?_)
theorem num_Take.mono : ∀ a0 k, LeO (num_Take.f k a0) (num_Take.f (k + 1) a0) := by
 intro a0 k
 obtain ⟨ih0, ih1⟩ := num_Take.mono_l k
 unfold num_Take.f
 repeat' first
   | (with_reducible exact ih0 _ _ _ _)
   | (with_reducible exact ih1 _ _ _ _ _ _ _ _ _)
   | (with_reducible exact LeO.refl _)
   | (with_reducible exact LeO.none _)
   | (with_reducible refine LeO.ite ?_ ?_)
   | (with_reducible refine LeO.bind ?_ (fun _ => ?_))
   | exact ih0 _ _ _ _
   | exact ih1 _ _ _ _ _ _ _ _ _
   | exact LeO.none _
   | refine LeO.ite ?_ ?_
   | refine LeO.bind ?_ (fun _ => ?_)
set_option maxHeartbeats 8000000 in
set_option maxRecDepth 100000 in
theorem num_Take.calls (k : Nat) (a0 : ByteArray) (r1 : Int) (r2 : ByteArray) (r3 : Bool) (w : World) (h : num_Take.f k a0 = some (r1, r2, r3)) :
  Calls Try.prog 36 #[.string a0] w fun e w' => e = .returned (.tuple #[.int .u64 r1, .string r2, .bool r3]) ∧ Drawn0 w w' := by
 have H : (num_Take.l0 k a0 0 (a0.size : Int) 0) = some (r1, r2, r3) := h
 clear h
 have H' := Aside0.mk H
 clear H
 go_enter Try.func36, Try.ntmps36
 go_wp2
 repeat (go_quiet (fail); try go_wp2)
 go_loopg [5, 12] k (fun kq v5 v12 w' => ∃ (x5_1 : Int) (x12_1 : Int), v5 = .int .u64 x5_1 ∧ v12 = .int .i64 x12_1 ∧ Aside0 (num_Take.l0 kq a0 x5_1 (a0.size : Int) x12_1 = some (r1, r2, r3)) ∧ Aside0 (kq ≤ k) ∧ Drawn0 w w')
 case atStart => exact ⟨(0), (0), rs_, rs_, H', ⟨Nat.le_refl _⟩, dR_⟩
 case round =>
  clear H'
  obtain ⟨x5_1, x12_1, rfl, rfl, HA, HK1, ⟨m1, rfl⟩⟩ := hrel
  cases gk with
  | zero => exact absurd HA.out (by simp [num_Take.l0])
  | succ k1 =>
   have H := HA.out
   clear HA
   simp only [num_Take.l0] at H
   by_cases c2 : x12_1 < (a0.size : Int)
   ·rw [if_pos c2] at H
    have c2b0 : decide (x12_1 < (a0.size : Int)) = true := decide_eq_true c2
    clear c2
    by_cases c3 : 0 ≤ x12_1
    ·rw [if_pos c3] at H
     have c3b0 : decide (0 ≤ x12_1) = true := decide_eq_true c3
     clear c3
     by_cases c4 : x12_1 < (a0.size : Int)
     ·rw [if_pos c4] at H
      have c4b0 : decide (x12_1 < (a0.size : Int)) = true := decide_eq_true c4
      clear c4
      have HC6 := Aside0.mk H
      clear H
      have p5 : 0 ≤ (x12_1 : Int) := of_decide_eq_true as_
      have q5 : x12_1 < (a0.size : Int) := of_decide_eq_true as_
      have hx5 := bt_at a0 x12_1
      replace p5 := eq_true p5
      replace q5 := eq_true q5
      go_upto_region 8 with (fail)
      repeat (go_quiet (fail); go_upto_region 8 with (fail))
      go_cut [33] (fun v33 wc => ∃ (kq : Nat) (x33_5 : Bool), v33 = .bool x33_5 ∧ Aside0 (num_Take.j1 kq a0 x5_1 x12_1 (IntKind.u64.wrap (bt a0 x12_1)) (wrap64 (7 * x12_1)) (Go.bits .andNot .u64 (IntKind.u64.wrap (bt a0 x12_1)) 128) (a0.size : Int) x12_1 x33_5 = some (r1, r2, r3)) ∧ Aside0 (kq ≤ k1) ∧ Drawn0 w wc)
      case first =>
       have H := HC6.out
       clear HC6
       by_cases c7 : (wrap64 (7 * x12_1)) ≥ 64
       ·rw [if_pos c7] at H
        have c7b0 : decide (64 ≤ (wrap64 (7 * x12_1))) = true := decide_eq_true c7
        clear c7
        (first | rw [c7b0] | (simp only [i64_w, i32_w]; rw [c7b0]) | skip)
        have H' := Aside0.mk H
        clear H
        go_wp2
        repeat (go_quiet (fail); try go_wp2)
        go_meet
        case rel => exact ⟨_, (true), rs_, hH_, ⟨by have := HK1.out; first | omega | exact Nat.le_refl _⟩, dR_⟩
       ·rw [if_neg c7] at H
        have c7b0 : decide (64 ≤ (wrap64 (7 * x12_1))) = false := decide_eq_false c7
        clear c7
        (first | rw [c7b0] | (simp only [i64_w, i32_w]; rw [c7b0]) | skip)
        obtain ⟨ji8, hji8⟩ : ∃ j_ : Int, (wrap64 (7 * x12_1)) = j_ := ⟨_, rfl⟩
        replace H : (if 0 ≤ (ji8) then (num_Take.j1 k1 a0 x5_1 x12_1 (IntKind.u64.wrap (bt a0 x12_1)) ji8 (Go.bits .andNot .u64 (IntKind.u64.wrap (bt a0 x12_1)) 128) (a0.size : Int) x12_1 ((shr .u64 (shl .u64 (Go.bits .andNot .u64 (IntKind.u64.wrap (bt a0 x12_1)) 128) (ji8)) (ji8)) != (Go.bits .andNot .u64 (IntKind.u64.wrap (bt a0 x12_1)) 128))) else (none)) = some (r1, r2, r3) := by first | (rw [hji8] at H; exact H) | (simp only [hji8] at H ⊢; exact H)
        (try rw [hji8] at c7b0)
        have hji8w : (IntKind.i64.wrap (7 * x12_1)) = ji8 := (i64_w _).trans hji8
        by_cases c9 : 0 ≤ (ji8)
        ·rw [if_pos c9] at H
         have c9b0 := eq_true c9
         have c9b1 : decide (0 ≤ (ji8)) = true := decide_eq_true c9
         clear c9
         obtain ⟨ji10, hji10⟩ : ∃ j_ : Int, (shl .u64 (Go.bits .andNot .u64 (IntKind.u64.wrap (bt a0 x12_1)) 128) (ji8)) = j_ := ⟨_, rfl⟩
         replace H : (num_Take.j1 k1 a0 x5_1 x12_1 (IntKind.u64.wrap (bt a0 x12_1)) ji8 (Go.bits .andNot .u64 (IntKind.u64.wrap (bt a0 x12_1)) 128) (a0.size : Int) x12_1 ((shr .u64 (ji10) (ji8)) != (Go.bits .andNot .u64 (IntKind.u64.wrap (bt a0 x12_1)) 128))) = some (r1, r2, r3) := by first | (rw [hji10] at H; exact H) | (simp only [hji10] at H ⊢; exact H)
         have hji10_ : (IntKind.u64.wrap ((Go.bits .andNot .u64 (IntKind.u64.wrap (bt a0 x12_1)) 128) * 2 ^ min (ji8).toNat 64)) = ji10 := hji10
         have hji10z : (ji8) ≤ 64 → (IntKind.u64.wrap ((Go.bits .andNot .u64 (IntKind.u64.wrap (bt a0 x12_1)) 128) * 2 ^ (ji8).toNat)) = ji10 := shl_small hji10
         have c11b0 := eq_true (of_decide_eq_true as_ : 0 ≤ (ji8))
         obtain ⟨ji12, hji12⟩ : ∃ j_ : Int, (shr .u64 (ji10) (ji8)) = j_ := ⟨_, rfl⟩
         replace H : (num_Take.j1 k1 a0 x5_1 x12_1 (IntKind.u64.wrap (bt a0 x12_1)) ji8 (Go.bits .andNot .u64 (IntKind.u64.wrap (bt a0 x12_1)) 128) (a0.size : Int) x12_1 ((ji12) != (Go.bits .andNot .u64 (IntKind.u64.wrap (bt a0 x12_1)) 128))) = some (r1, r2, r3) := by first | (rw [hji12] at H; exact H) | (simp only [hji12] at H ⊢; exact H)
         have hji12_ : ((ji10) / 2 ^ min (ji8).toNat 64) = ji12 := hji12
         have hji12z : (ji8) ≤ 64 → ((ji10) / 2 ^ (ji8).toNat) = ji12 := shr_small hji12
         have H' := Aside0.mk H
         clear H
         go_wp2
         repeat (go_quiet (fail); try go_wp2)
         go_meet
         case rel => exact ⟨_, (((ji12) != (Go.bits .andNot .u64 (IntKind.u64.wrap (bt a0 x12_1)) 128))), (by first | rfl | (simp; done) | (simp only [← hji12] <;> (first | rfl | simp)) | (simp [*]; done)), hH_, ⟨by have := HK1.out; first | omega | exact Nat.le_refl _⟩, dR_⟩
        ·rw [if_neg c9] at H
         exact absurd H (by simp)
      case rest =>
       clear HC6
       try clear c1
       try clear c2
       try clear c2b0
       try clear p2
       try clear c3
       try clear c3b0
       try clear c4
       try clear c4b0
       try clear p5
       try clear q5
       try clear hx5
       try clear p6
       try clear c7
       try clear c7b0
       try clear c9
       try clear c9b0
       try clear c9b1
       try clear c11
       try clear c11b0
       try clear p5
       try clear q5
       obtain ⟨kq, x33_5, rfl, HA, HJ5, ⟨mc5, rfl⟩⟩ := hcut
       cases kq with
       | zero => exact absurd HA.out (by simp [num_Take.j1])
       | succ kj5 =>
        have H := HA.out
        clear HA
        simp only [num_Take.j1] at H
        by_cases c13 : x33_5 = true
        ·subst c13
         have H1 : (some (0, (⟨#[]⟩ : ByteArray), false)) = some (r1, r2, r3) := by rw [if_pos rfl] at H; exact H
         clear H
         have H := H1
         clear H1
         simp only [Option.some.injEq, Prod.mk.injEq] at H
         obtain ⟨rfl, rfl, rfl⟩ := H
         go_wp2
         repeat (go_quiet (fail); try go_wp2)
         go_ret3
         exact ⟨rs_, dR_⟩
        ·replace c13 := Bool.eq_false_iff.mpr c13
         subst c13
         have H1 : (if 0 ≤ (wrap64 (7 * x12_1)) then (if (IntKind.u64.wrap (bt a0 x12_1)) < 128 then (if (IntKind.u64.wrap (bt a0 x12_1)) = 0 then (if x12_1 > 0 then (some (0, (⟨#[]⟩ : ByteArray), false)) else (if 0 ≤ (wrap64 (x12_1 + 1)) then (if (wrap64 (x12_1 + 1)) ≤ (a0.size : Int) then (some (Go.bits .or .u64 x5_1 (shl .u64 (Go.bits .andNot .u64 (IntKind.u64.wrap (bt a0 x12_1)) 128) (wrap64 (7 * x12_1))), a0.extract ((wrap64 (x12_1 + 1)) : Int).toNat a0.size, true)) else (none)) else (none))) else (if 0 ≤ (wrap64 (x12_1 + 1)) then (if (wrap64 (x12_1 + 1)) ≤ (a0.size : Int) then (some (Go.bits .or .u64 x5_1 (shl .u64 (Go.bits .andNot .u64 (IntKind.u64.wrap (bt a0 x12_1)) 128) (wrap64 (7 * x12_1))), a0.extract ((wrap64 (x12_1 + 1)) : Int).toNat a0.size, true)) else (none)) else (none))) else (num_Take.l0 kj5 a0 (Go.bits .or .u64 x5_1 (shl .u64 (Go.bits .andNot .u64 (IntKind.u64.wrap (bt a0 x12_1)) 128) (wrap64 (7 * x12_1)))) (a0.size : Int) (wrap64 (x12_1 + 1)))) else (none)) = some (r1, r2, r3) := by rw [if_neg (show ¬ (false = true) by decide)] at H; exact H
         clear H
         have H := H1
         clear H1
         obtain ⟨ji14, hji14⟩ : ∃ j_ : Int, (wrap64 (7 * x12_1)) = j_ := ⟨_, rfl⟩
         replace H : (if 0 ≤ (ji14) then (if (IntKind.u64.wrap (bt a0 x12_1)) < 128 then (if (IntKind.u64.wrap (bt a0 x12_1)) = 0 then (if x12_1 > 0 then (some (0, (⟨#[]⟩ : ByteArray), false)) else (if 0 ≤ (wrap64 (x12_1 + 1)) then (if (wrap64 (x12_1 + 1)) ≤ (a0.size : Int) then (some (Go.bits .or .u64 x5_1 (shl .u64 (Go.bits .andNot .u64 (IntKind.u64.wrap (bt a0 x12_1)) 128) (ji14)), a0.extract ((wrap64 (x12_1 + 1)) : Int).toNat a0.size, true)) else (none)) else (none))) else (if 0 ≤ (wrap64 (x12_1 + 1)) then (if (wrap64 (x12_1 + 1)) ≤ (a0.size : Int) then (some (Go.bits .or .u64 x5_1 (shl .u64 (Go.bits .andNot .u64 (IntKind.u64.wrap (bt a0 x12_1)) 128) (ji14)), a0.extract ((wrap64 (x12_1 + 1)) : Int).toNat a0.size, true)) else (none)) else (none))) else (num_Take.l0 kj5 a0 (Go.bits .or .u64 x5_1 (shl .u64 (Go.bits .andNot .u64 (IntKind.u64.wrap (bt a0 x12_1)) 128) (ji14))) (a0.size : Int) (wrap64 (x12_1 + 1)))) else (none)) = some (r1, r2, r3) := by first | (rw [hji14] at H; exact H) | (simp only [hji14] at H ⊢; exact H)
         (try rw [hji14])
         have hji14w : (IntKind.i64.wrap (7 * x12_1)) = ji14 := (i64_w _).trans hji14
         by_cases c15 : 0 ≤ (ji14)
         ·rw [if_pos c15] at H
          have c15b0 := eq_true c15
          have c15b1 : decide (0 ≤ (ji14)) = true := decide_eq_true c15
          clear c15
          obtain ⟨ji16, hji16⟩ : ∃ j_ : Int, (shl .u64 (Go.bits .andNot .u64 (IntKind.u64.wrap (bt a0 x12_1)) 128) (ji14)) = j_ := ⟨_, rfl⟩
          replace H : (if (IntKind.u64.wrap (bt a0 x12_1)) < 128 then (if (IntKind.u64.wrap (bt a0 x12_1)) = 0 then (if x12_1 > 0 then (some (0, (⟨#[]⟩ : ByteArray), false)) else (if 0 ≤ (wrap64 (x12_1 + 1)) then (if (wrap64 (x12_1 + 1)) ≤ (a0.size : Int) then (some (Go.bits .or .u64 x5_1 (ji16), a0.extract ((wrap64 (x12_1 + 1)) : Int).toNat a0.size, true)) else (none)) else (none))) else (if 0 ≤ (wrap64 (x12_1 + 1)) then (if (wrap64 (x12_1 + 1)) ≤ (a0.size : Int) then (some (Go.bits .or .u64 x5_1 (ji16), a0.extract ((wrap64 (x12_1 + 1)) : Int).toNat a0.size, true)) else (none)) else (none))) else (num_Take.l0 kj5 a0 (Go.bits .or .u64 x5_1 (ji16)) (a0.size : Int) (wrap64 (x12_1 + 1)))) = some (r1, r2, r3) := by first | (rw [hji16] at H; exact H) | (simp only [hji16] at H ⊢; exact H)
          (try rw [hji16])
          have hji16_ : (IntKind.u64.wrap ((Go.bits .andNot .u64 (IntKind.u64.wrap (bt a0 x12_1)) 128) * 2 ^ min (ji14).toNat 64)) = ji16 := hji16
          have hji16z : (ji14) ≤ 64 → (IntKind.u64.wrap ((Go.bits .andNot .u64 (IntKind.u64.wrap (bt a0 x12_1)) 128) * 2 ^ (ji14).toNat)) = ji16 := shl_small hji16
          by_cases c17 : (IntKind.u64.wrap (bt a0 x12_1)) < 128
          ·rw [if_pos c17] at H
           have c17b0 : decide ((IntKind.u64.wrap (bt a0 x12_1)) < 128) = true := decide_eq_true c17
           clear c17
           by_cases c18 : (IntKind.u64.wrap (bt a0 x12_1)) = 0
           ·rw [if_pos c18] at H
            have c18b0 : ((IntKind.u64.wrap (bt a0 x12_1)) == 0) = true := beq_iff_eq.mpr c18
            have c18b1 : ((IntKind.u64.wrap (bt a0 x12_1)) != 0) = false := bne_eq_false_iff_eq.mpr c18
            clear c18
            by_cases c19 : x12_1 > 0
            ·rw [if_pos c19] at H
             have c19b0 : decide (0 < x12_1) = true := decide_eq_true c19
             clear c19
             simp only [Option.some.injEq, Prod.mk.injEq] at H
             obtain ⟨rfl, rfl, rfl⟩ := H
             go_wp2
             repeat (go_quiet (fail); try go_wp2)
             go_ret3
             exact ⟨by first | rfl | (simp; done) | (simp only [← hji14, ← hji16] <;> (first | rfl | simp)) | (simp [*]; done), dR_⟩
            ·rw [if_neg c19] at H
             have c19b0 : decide (0 < x12_1) = false := decide_eq_false c19
             clear c19
             obtain ⟨ji20, hji20⟩ : ∃ j_ : Int, (wrap64 (x12_1 + 1)) = j_ := ⟨_, rfl⟩
             replace H : (if 0 ≤ (ji20) then (if (ji20) ≤ (a0.size : Int) then (some (Go.bits .or .u64 x5_1 (ji16), a0.extract ((ji20) : Int).toNat a0.size, true)) else (none)) else (none)) = some (r1, r2, r3) := by first | (rw [hji20] at H; exact H) | (simp only [hji20] at H ⊢; exact H)
             (try rw [hji20])
             have hji20w : (IntKind.i64.wrap (x12_1 + 1)) = ji20 := (i64_w _).trans hji20
             by_cases c21 : 0 ≤ (ji20)
             ·rw [if_pos c21] at H
              have c21b0 := eq_true c21
              have c21b1 : decide (0 ≤ (ji20)) = true := decide_eq_true c21
              clear c21
              by_cases c22 : (ji20) ≤ (a0.size : Int)
              ·rw [if_pos c22] at H
               have c22b0 := eq_true c22
               have c22b1 : decide ((ji20) ≤ (a0.size : Int)) = true := decide_eq_true c22
               clear c22
               simp only [Option.some.injEq, Prod.mk.injEq] at H
               obtain ⟨rfl, rfl, rfl⟩ := H
               go_wp2
               repeat (go_quiet (fail); try go_wp2)
               go_ret3
               exact ⟨by first | rfl | (simp; done) | (simp only [← hji14, ← hji16, ← hji20] <;> (first | rfl | simp)) | (simp [*]; done), dR_⟩
              ·rw [if_neg c22] at H
               exact absurd H (by simp)
             ·rw [if_neg c21] at H
              exact absurd H (by simp)
           ·rw [if_neg c18] at H
            have c18b0 : ((IntKind.u64.wrap (bt a0 x12_1)) == 0) = false := beq_eq_false_iff_ne.mpr c18
            have c18b1 : ((IntKind.u64.wrap (bt a0 x12_1)) != 0) = true := bne_iff_ne.mpr c18
            obtain ⟨ji23, hji23⟩ : ∃ j_ : Int, (wrap64 (x12_1 + 1)) = j_ := ⟨_, rfl⟩
            replace H : (if 0 ≤ (ji23) then (if (ji23) ≤ (a0.size : Int) then (some (Go.bits .or .u64 x5_1 (ji16), a0.extract ((ji23) : Int).toNat a0.size, true)) else (none)) else (none)) = some (r1, r2, r3) := by first | (rw [hji23] at H; exact H) | (simp only [hji23] at H ⊢; exact H)
            (try rw [hji23])
            have hji23w : (IntKind.i64.wrap (x12_1 + 1)) = ji23 := (i64_w _).trans hji23
            by_cases c24 : 0 ≤ (ji23)
            ·rw [if_pos c24] at H
             have c24b0 := eq_true c24
             have c24b1 : decide (0 ≤ (ji23)) = true := decide_eq_true c24
             clear c24
             by_cases c25 : (ji23) ≤ (a0.size : Int)
             ·rw [if_pos c25] at H
              have c25b0 := eq_true c25
              have c25b1 : decide ((ji23) ≤ (a0.size : Int)) = true := decide_eq_true c25
              clear c25
              simp only [Option.some.injEq, Prod.mk.injEq] at H
              obtain ⟨rfl, rfl, rfl⟩ := H
              go_wp2
              repeat (go_quiet (fail); try go_wp2)
              go_ret3
              exact ⟨by first | rfl | (simp; done) | (simp only [← hji14, ← hji16, ← hji23] <;> (first | rfl | simp)) | (simp [*]; done), dR_⟩
             ·rw [if_neg c25] at H
              exact absurd H (by simp)
            ·rw [if_neg c24] at H
             exact absurd H (by simp)
          ·rw [if_neg c17] at H
           have c17b0 : decide ((IntKind.u64.wrap (bt a0 x12_1)) < 128) = false := decide_eq_false c17
           clear c17
           have H' := Aside0.mk H
           clear H
           go_wp2
           repeat (go_quiet (fail); try go_wp2)
           go_roundg kj5
           case measure => have := HK1.out; have := HJ5.out; omega
           case rel => exact ⟨(Go.bits .or .u64 x5_1 (ji16)), (wrap64 (x12_1 + 1)), (by first | rfl | (simp; done) | (simp only [← hji16] <;> (first | rfl | simp)) | (simp [*]; done)), rs_, hH_, ⟨by have := HK1.out; have := HJ5.out; omega⟩, dR_⟩
         ·rw [if_neg c15] at H
          exact absurd H (by simp)
     ·rw [if_neg c4] at H
      exact absurd H (by simp)
    ·rw [if_neg c3] at H
     exact absurd H (by simp)
   ·rw [if_neg c2] at H
    have c2b0 : decide (x12_1 < (a0.size : Int)) = false := decide_eq_false c2
    clear c2
    simp only [Option.some.injEq, Prod.mk.injEq] at H
    obtain ⟨rfl, rfl, rfl⟩ := H
    go_wp2
    repeat (go_quiet (fail); try go_wp2)
    go_ret3
    exact ⟨rs_, dR_⟩

/-! ### col_numbers: function 31 -/
def col_numbers.l0 : Nat → ByteArray → List Int → Int → Int → Option (List Int × ByteArray × Bool)
 | 0, _, _, _, _ => none
 | k + 1, x0, x7, x11, x12 => if x12 < x11 then ((num_Take.f k x0).bind fun bt129 => (if bt129.2.2 = true then (if x7.length < 17592186044416 then (col_numbers.l0 k bt129.2.1 (x7 ++ [bt129.1]) x11 (wrap64 (x12 + 1))) else (none)) else (some (([] : List Int), (⟨#[]⟩ : ByteArray), false)))) else (some (x7, x0, true))
def col_numbers.f (k : Nat) (a0 : ByteArray) (a1 : Int) : Option (List Int × ByteArray × Bool) := col_numbers.l0 k a0 ([] : List Int) a1 0
theorem col_numbers.mono_l : ∀ k, (∀ y0 y1 y2 y3, LeO (col_numbers.l0 k y0 y1 y2 y3) (col_numbers.l0 (k + 1) y0 y1 y2 y3))
 | 0 => fun _ _ _ _ r h => by simp [col_numbers.l0] at h
 | k + 1 => by
  have ih0 := col_numbers.mono_l k
  ·intro y0 y1 y2 y3
   unfold col_numbers.l0
   repeat' first
   | (with_reducible exact ih0 _ _ _ _)
   | (with_reducible exact num_Take.mono _ _)
   | (with_reducible exact LeO.refl _)
   | (with_reducible exact LeO.none _)
   | (with_reducible refine LeO.ite ?_ ?_)
   | (with_reducible refine LeO.bind ?_ (fun _ => ?_))
   | exact ih0 _ _ _ _
   | exact num_Take.mono _ _
   | exact LeO.none _
   | refine LeO.ite ?_ ?_
   | refine LeO.bind ?_ (fun _ => ?_)
theorem col_numbers.mono : ∀ a0 a1 k, LeO (col_numbers.f k a0 a1) (col_numbers.f (k + 1) a0 a1) := by
 intro a0 a1 k
 have ih0 := col_numbers.mono_l k
 unfold col_numbers.f
 repeat' first
   | (with_reducible exact ih0 _ _ _ _)
   | (with_reducible exact num_Take.mono _ _)
   | (with_reducible exact LeO.refl _)
   | (with_reducible exact LeO.none _)
   | (with_reducible refine LeO.ite ?_ ?_)
   | (with_reducible refine LeO.bind ?_ (fun _ => ?_))
   | exact ih0 _ _ _ _
   | exact num_Take.mono _ _
   | exact LeO.none _
   | refine LeO.ite ?_ ?_
   | refine LeO.bind ?_ (fun _ => ?_)
set_option maxHeartbeats 8000000 in
set_option maxRecDepth 100000 in
theorem col_numbers.calls (k : Nat) (a0 : ByteArray) (a1 : Int) (r1 : List Int) (r2 : ByteArray) (r3 : Bool) (w : World) (h : col_numbers.f k a0 a1 = some (r1, r2, r3)) :
  Calls Try.prog 31 #[.string a0, .int .i64 a1] w fun e w' => ∃ v0_ : Value, e = .returned (.tuple #[v0_, .string r2, .bool r3]) ∧ Kd.R (Kd.int .u64) 22 w' w.heap.size (fun _ => True) v0_ r1 ∧ Below w.heap.size w w' := by
 have HB := Aside0.mk (Below.refl w.heap.size w)
 have H : (col_numbers.l0 k a0 ([] : List Int) a1 0) = some (r1, r2, r3) := h
 clear h
 have H' := Aside0.mk H
 clear H
 go_enter Try.func31, Try.ntmps31
 go_wp2
 go_loopg [0, 7, 12] k (fun kq v0 v7 v12 w' => ∃ (x0_1 : ByteArray) (x7_1 : List Int) (x12_1 : Int), v0 = .string x0_1 ∧ v12 = .int .i64 x12_1 ∧ Aside0 (col_numbers.l0 kq x0_1 x7_1 a1 x12_1 = some (r1, r2, r3)) ∧ Aside0 (kq ≤ k) ∧ Aside0 (Kd.R (Kd.int .u64) 22 w' w.heap.size (fun _ => True) v7 x7_1) ∧ Aside0 (Below w.heap.size w w'))
 case atStart => exact ⟨(a0), (([] : List Int)), (0), rs_, rs_, H', ⟨Nat.le_refl _⟩, ⟨by first | exact Kd.R_nil _ _ _ _ _ | exact Kd.N_nil _ _ _ _ _ | exact Kd.V_nil _ _ _ _ _ | exact Kd.Q_nil _ _ _ _ _ | exact Kd.S_nil _ _ _ _ _⟩, ⟨hB_⟩⟩
 case round =>
  clear H'
  try clear p2
  obtain ⟨x0_1, x7_1, x12_1, rfl, rfl, HA, HK1, HO_7, HB⟩ := hrel
  cases gk with
  | zero => exact absurd HA.out (by simp [col_numbers.l0])
  | succ k1 =>
   have H := HA.out
   clear HA
   simp only [col_numbers.l0] at H
   by_cases c3 : x12_1 < a1
   ·rw [if_pos c3] at H
    have c3b0 : decide (x12_1 < a1) = true := decide_eq_true c3
    clear c3
    replace H := Option.bind_eq_some_iff.mp H
    obtain ⟨⟨t129, t130, t131⟩, A40, H⟩ := H
    try dsimp only at H
    have A4 := Aside0.mk A40
    clear A40
    by_cases c5 : t131 = true
    ·subst c5
     have H1 : (if x7_1.length < 17592186044416 then (col_numbers.l0 k1 t130 (x7_1 ++ [t129]) a1 (wrap64 (x12_1 + 1))) else (none)) = some (r1, r2, r3) := by rw [if_pos rfl] at H; exact H
     clear H
     have H := H1
     clear H1
     by_cases c6 : x7_1.length < 17592186044416
     ·rw [if_pos c6] at H
      have LMc6 := Aside0.mk c6
      clear c6
      obtain ⟨y132, hy132⟩ : ∃ y_ : List Int, y_ = (x7_1 ++ [t129]) := ⟨_, rfl⟩
      replace H : (col_numbers.l0 k1 t130 y132 a1 (wrap64 (x12_1 + 1))) = some (r1, r2, r3) := by first | (rw [hy132]; with_reducible exact H) | (have H2_ := (Option.bind_some _ _).symm.trans H; rw [hy132]; with_reducible exact H2_) | (have H2_ := (Option.bind_some _ _).symm.trans H; with_reducible exact H2_) | with_reducible exact H | (rw [hy132]; exact H) | exact H
      have Ny132 := Aside0.mk hy132
      clear hy132
      have H' := Aside0.mk H
      clear H
      go_wp2_with (first | ((with_reducible refine gate_callee (f := 36) rfl ?_); refine goesL_ (some 16) rfl rfl Try.func36 (by kernel_rfl) rfl #[.string x0_1] rfl hA_ ?_; (with_reducible refine (num_Take.calls k1 x0_1 t129 t130 true _ A4.out).mono ?_); rintro e w' ⟨rfl, ⟨nd, rfl⟩⟩; refine ⟨_, rfl, ?_⟩) | ((with_reducible refine gate_builtin (b := .append) (xs := #[.tmp 22, .tmp 24]) rfl ?_); at_builtin; refine Kd.R_append (Kd.int .u64) (w0 := w) w.heap.size rfl (.tmp 22) (.tmp 24) 57 22 (.int .u64 0) 8 rfl Try.underlying57 info22 rfl (by decide) (by omega) u7 x7_1 t129 [.int .u64 t129] (fun _ => True) (fun _ => False) rfl rfl ?aP (fun _ hk => hk.elim) ?aF ?aO ?aB ?aS ?aL ?_; (case aP => exact rfl); (case aB => exact hB_); (case aF => exact (fun _ _ => trivial)); (case aO => exact (by (with_reducible repeat (first | apply Kd.R_alloc | apply Kd.R_drewN | apply Kd.R_drew)); exact HO_7.out)); (case aS => exact (below_size hB_)); (case aL => have := LMc6.out; omega); intro v133 w7 ho hb hg hat; rw [← Ny132.out] at ho; have n0_ := Aside0.mk (hb); have n1_ := Aside0.mk (ho); clear HB; clear HO_7; have HB := n0_; have HO134 := n1_; clear n0_ n1_; clear ho hb hg hat))
      go_roundg k1
      case measure => have := HK1.out; omega
      case rel => exact ⟨(t130), (y132), (wrap64 (x12_1 + 1)), rs_, rs_, hH_, ⟨by have := HK1.out; omega⟩, ⟨by (with_reducible repeat (first | apply Kd.R_alloc | apply Kd.R_drewN | apply Kd.R_drew)); exact HO134.out⟩, ⟨hB_⟩⟩
     ·rw [if_neg c6] at H
      exact absurd H (by simp)
    ·replace c5 := Bool.eq_false_iff.mpr c5
     subst c5
     have H1 : (some (([] : List Int), (⟨#[]⟩ : ByteArray), false)) = some (r1, r2, r3) := by rw [if_neg (show ¬ (false = true) by decide)] at H; exact H
     clear H
     have H := H1
     clear H1
     simp only [Option.some.injEq, Prod.mk.injEq] at H
     obtain ⟨rfl, rfl, rfl⟩ := H
     go_wp2_with (first | ((with_reducible refine gate_callee (f := 36) rfl ?_); refine goesL_ (some 16) rfl rfl Try.func36 (by kernel_rfl) rfl #[.string x0_1] rfl hA_ ?_; (with_reducible refine (num_Take.calls k1 x0_1 t129 t130 false _ A4.out).mono ?_); rintro e w' ⟨rfl, ⟨nd, rfl⟩⟩; refine ⟨_, rfl, ?_⟩))
     go_ret3
     exact ⟨_, rf_, by first | exact Kd.R_nil _ _ _ _ _ | exact Kd.N_nil _ _ _ _ _ | exact Kd.V_nil _ _ _ _ _ | exact Kd.Q_nil _ _ _ _ _ | exact Kd.S_nil _ _ _ _ _, hB_⟩
   ·rw [if_neg c3] at H
    have c3b0 : decide (x12_1 < a1) = false := decide_eq_false c3
    clear c3
    simp only [Option.some.injEq, Prod.mk.injEq] at H
    obtain ⟨rfl, rfl, rfl⟩ := H
    go_wp2
    go_ret3
    exact ⟨_, rf_, by (with_reducible repeat (first | apply Kd.R_alloc | apply Kd.R_drewN | apply Kd.R_drew)); exact HO_7.out, hB_⟩

/-! ### api_Lock: function 32 -/
theorem api_Lock.fin (tmps : Array Value) (W : World) (g : Nat) (c0 c1 c2 c3 : Value) (hp : tmps.getD 6 undef = .pointer (some ⟨g, 0, none⟩)) (hg : W.heap[g]? = some (.cells #[c0, c1, c2, c3] 24 (0, 0))) : (results Try.f32 tmps).run Try.prog W = .ok (.tuple #[.agg #[c0, c1, c2, c3], tmps.getD 7 undef]) W :=
 results_ct rfl tmps W g _ #[c0, c1, c2, c3] (0, 0) _ hp hg Try.underlying24 rfl (by kernel_rfl)
set_option maxHeartbeats 1600000 in
set_option maxRecDepth 100000 in
theorem api_Lock.good (k : Nat) (p : ByteArray) (st kd at_ : Int) (s is : ByteArray) (w : World) (h : col_Lock.f k p st kd at_ = some (is, 0)) (hs : is.toList = s.toList) :
  Calls Try.prog 32 #[.agg #[.string p, .int .u64 st, .int .i64 kd, .int .u64 at_], .string s, .func (.func 11) #[] #[]] w fun e' w' => e' = .returned (.tuple #[.agg #[.string p, .int .u64 st, .int .i64 kd, .int .u64 at_], .int .i64 0]) ∧ Below w.heap.size w w' := by
 have hu24 := Try.underlying24
 have hfin := api_Lock.fin
 have HC := Lib.hid h
 have s1_ : (is.toList == s.toList) = true := beq_iff_eq.mpr hs
 have s2_ : (is.toList != s.toList) = false := bne_eq_false_iff_eq.mpr hs
 clear h hs
 go_enter Try.func32, Try.ntmps32
 go_wp2_with (fail)
 have BL : Aside0 (((w.alloc (.cells #[.string p, .int .u64 st, .int .i64 kd, .int .u64 at_] 24)).alloc (.cells #[.string ⟨#[]⟩, .int .u64 0, .int .i64 0, .int .u64 0] 24)).heap[w.heap.size]? = some (.cells #[.string p, .int .u64 st, .int .i64 kd, .int .u64 at_] 24 (0, 0))) := ⟨blk_alloc (blk_new _ _) _⟩
 have hR : ((w.alloc (.cells #[.string p, .int .u64 st, .int .i64 kd, .int .u64 at_] 24)).alloc (.cells #[.string ⟨#[]⟩, .int .u64 0, .int .i64 0, .int .u64 0] 24)).heap[w.heap.size + 1]? = some (.cells #[.string ⟨#[]⟩, .int .u64 0, .int .i64 0, .int .u64 0] 24 (0, 0)) := by
  have := blk_new (w.alloc (.cells #[.string p, .int .u64 st, .int .i64 kd, .int .u64 at_] 24)) (.cells #[.string ⟨#[]⟩, .int .u64 0, .int .i64 0, .int .u64 0] 24)
  rwa [World.size_alloc] at this
 have BR := Aside0.mk hR
 clear hR
 have HB : Aside0 (Below w.heap.size w ((w.alloc (.cells #[.string p, .int .u64 st, .int .i64 kd, .int .u64 at_] 24)).alloc (.cells #[.string ⟨#[]⟩, .int .u64 0, .int .i64 0, .int .u64 0] 24))) := ⟨below_alloc (below_alloc (Below.refl _ _) _) _⟩
 generalize ((w.alloc (.cells #[.string p, .int .u64 st, .int .i64 kd, .int .u64 at_] 24)).alloc (.cells #[.string ⟨#[]⟩, .int .u64 0, .int .i64 0, .int .u64 0] 24)) = w1 at BL BR HB ⊢
 obtain ⟨g2, hg2⟩ : ∃ g, w.heap.size + 1 = g := ⟨_, rfl⟩
 have HG : Hid (w.heap.size ≤ g2) := Lib.hid (by omega)
 rw [hg2] at BR ⊢
 clear hg2
 refine (col_Lock.calls k p st kd at_ is 0 w1 HC.out).mono ?_
 rintro e w2 ⟨rfl, hb⟩
 have BL2 := Aside0.mk (blk_below BL.out hb)
 have BR2 := Aside0.mk (blk_below BR.out hb)
 have HB2 := Aside0.mk (below_step HB.out hb)
 clear hb BL BR HB
 have l0_ : w2.cell? ⟨w.heap.size, 0, none⟩ = some (.string p) := (blk_cell BL2.out 0).trans rfl
 have l1_ : w2.cell? ⟨w.heap.size, 1, none⟩ = some (.int .u64 st) := (blk_cell BL2.out 1).trans rfl
 have l2_ : w2.cell? ⟨w.heap.size, 2, none⟩ = some (.int .i64 kd) := (blk_cell BL2.out 2).trans rfl
 have l3_ : w2.cell? ⟨w.heap.size, 3, none⟩ = some (.int .u64 at_) := (blk_cell BL2.out 3).trans rfl
 have r0_ : w2.cell? ⟨g2, 0, none⟩ = some (.string ⟨#[]⟩) := (blk_cell BR2.out 0).trans rfl
 have r1_ : w2.cell? ⟨g2, 1, none⟩ = some (.int .u64 0) := (blk_cell BR2.out 1).trans rfl
 have r2_ : w2.cell? ⟨g2, 2, none⟩ = some (.int .i64 0) := (blk_cell BR2.out 2).trans rfl
 have r3_ : w2.cell? ⟨g2, 3, none⟩ = some (.int .u64 0) := (blk_cell BR2.out 3).trans rfl
 have p0_ := blk_frozen BR2.out 0
 have p1_ := blk_frozen BR2.out 1
 have p2_ := blk_frozen BR2.out 2
 have p3_ := blk_frozen BR2.out 3
 go_wp2
 exact bodyPost_ret (hfin _ _ g2 _ _ _ _ rfl (blk_put (cs' := #[.string p, .int .u64 st, .int .i64 kd, .int .u64 at_]) (blk_put (cs' := #[.string p, .int .u64 st, .int .i64 kd, .int .u64 0]) (blk_put (cs' := #[.string p, .int .u64 st, .int .i64 0, .int .u64 0]) (blk_put (cs' := #[.string p, .int .u64 0, .int .i64 0, .int .u64 0]) BR2.out 0 _ rfl) 1 _ rfl) 2 _ rfl) 3 _ rfl)) rfl ⟨rfl, (((HB2.out.setCell (p := ⟨g2, 0, none⟩) HG.out _).setCell (p := ⟨g2, 1, none⟩) HG.out _).setCell (p := ⟨g2, 2, none⟩) HG.out _).setCell (p := ⟨g2, 3, none⟩) HG.out _⟩

set_option maxHeartbeats 1600000 in
set_option maxRecDepth 100000 in
theorem api_Lock.bad (k : Nat) (p : ByteArray) (st kd at_ : Int) (s is : ByteArray) (ee : Int) (w : World) (h : col_Lock.f k p st kd at_ = some (is, ee)) (hs : ee ≠ 0 ∨ is.toList ≠ s.toList) :
  Calls Try.prog 32 #[.agg #[.string p, .int .u64 st, .int .i64 kd, .int .u64 at_], .string s, .func (.func 11) #[] #[]] w fun e' w' => e' = .returned (.tuple #[.agg #[.string ⟨#[]⟩, .int .u64 0, .int .i64 0, .int .u64 0], .int .i64 2]) ∧ Below w.heap.size w w' := by
 have hu24 := Try.underlying24
 have hfin := api_Lock.fin
 have HC := Lib.hid h
 have HS := Lib.hid hs
 clear h hs
 go_enter Try.func32, Try.ntmps32
 go_wp2_with (fail)
 have BL : Aside0 (((w.alloc (.cells #[.string p, .int .u64 st, .int .i64 kd, .int .u64 at_] 24)).alloc (.cells #[.string ⟨#[]⟩, .int .u64 0, .int .i64 0, .int .u64 0] 24)).heap[w.heap.size]? = some (.cells #[.string p, .int .u64 st, .int .i64 kd, .int .u64 at_] 24 (0, 0))) := ⟨blk_alloc (blk_new _ _) _⟩
 have hR : ((w.alloc (.cells #[.string p, .int .u64 st, .int .i64 kd, .int .u64 at_] 24)).alloc (.cells #[.string ⟨#[]⟩, .int .u64 0, .int .i64 0, .int .u64 0] 24)).heap[w.heap.size + 1]? = some (.cells #[.string ⟨#[]⟩, .int .u64 0, .int .i64 0, .int .u64 0] 24 (0, 0)) := by
  have := blk_new (w.alloc (.cells #[.string p, .int .u64 st, .int .i64 kd, .int .u64 at_] 24)) (.cells #[.string ⟨#[]⟩, .int .u64 0, .int .i64 0, .int .u64 0] 24)
  rwa [World.size_alloc] at this
 have BR := Aside0.mk hR
 clear hR
 have HB : Aside0 (Below w.heap.size w ((w.alloc (.cells #[.string p, .int .u64 st, .int .i64 kd, .int .u64 at_] 24)).alloc (.cells #[.string ⟨#[]⟩, .int .u64 0, .int .i64 0, .int .u64 0] 24))) := ⟨below_alloc (below_alloc (Below.refl _ _) _) _⟩
 generalize ((w.alloc (.cells #[.string p, .int .u64 st, .int .i64 kd, .int .u64 at_] 24)).alloc (.cells #[.string ⟨#[]⟩, .int .u64 0, .int .i64 0, .int .u64 0] 24)) = w1 at BL BR HB ⊢
 obtain ⟨g2, hg2⟩ : ∃ g, w.heap.size + 1 = g := ⟨_, rfl⟩
 have HG : Hid (w.heap.size ≤ g2) := Lib.hid (by omega)
 rw [hg2] at BR ⊢
 clear hg2
 refine (col_Lock.calls k p st kd at_ is ee w1 HC.out).mono ?_
 rintro e w2 ⟨rfl, hb⟩
 have BL2 := Aside0.mk (blk_below BL.out hb)
 have BR2 := Aside0.mk (blk_below BR.out hb)
 have HB2 := Aside0.mk (below_step HB.out hb)
 clear hb BL BR HB
 have l0_ : w2.cell? ⟨w.heap.size, 0, none⟩ = some (.string p) := (blk_cell BL2.out 0).trans rfl
 have l1_ : w2.cell? ⟨w.heap.size, 1, none⟩ = some (.int .u64 st) := (blk_cell BL2.out 1).trans rfl
 have l2_ : w2.cell? ⟨w.heap.size, 2, none⟩ = some (.int .i64 kd) := (blk_cell BL2.out 2).trans rfl
 have l3_ : w2.cell? ⟨w.heap.size, 3, none⟩ = some (.int .u64 at_) := (blk_cell BL2.out 3).trans rfl
 have r0_ : w2.cell? ⟨g2, 0, none⟩ = some (.string ⟨#[]⟩) := (blk_cell BR2.out 0).trans rfl
 have r1_ : w2.cell? ⟨g2, 1, none⟩ = some (.int .u64 0) := (blk_cell BR2.out 1).trans rfl
 have r2_ : w2.cell? ⟨g2, 2, none⟩ = some (.int .i64 0) := (blk_cell BR2.out 2).trans rfl
 have r3_ : w2.cell? ⟨g2, 3, none⟩ = some (.int .u64 0) := (blk_cell BR2.out 3).trans rfl
 have p0_ := blk_frozen BR2.out 0
 have p1_ := blk_frozen BR2.out 1
 have p2_ := blk_frozen BR2.out 2
 have p3_ := blk_frozen BR2.out 3
 by_cases he : ee = 0
 ·subst he
  have hs : is.toList ≠ s.toList := by simpa using HS.out
  have s1_ : (is.toList == s.toList) = false := beq_eq_false_iff_ne.mpr hs
  have s2_ : (is.toList != s.toList) = true := bne_iff_ne.mpr hs
  clear hs
  go_upto_region 4 with (fail)
  clear l0_ l1_ l2_ l3_ r0_ r1_ r2_ r3_ p0_ p1_ p2_ p3_
  have BR3 := Aside0.mk (blk_alloc BR2.out (.cells #[.string ⟨#[]⟩, .int .u64 0, .int .i64 0, .int .u64 0] 24))
  have BN3 := Aside0.mk (blk_new w2 (.cells #[.string ⟨#[]⟩, .int .u64 0, .int .i64 0, .int .u64 0] 24))
  have HB3 := Aside0.mk (below_alloc HB2.out (.cells #[.string ⟨#[]⟩, .int .u64 0, .int .i64 0, .int .u64 0] 24))
  generalize (w2.alloc (.cells #[.string ⟨#[]⟩, .int .u64 0, .int .i64 0, .int .u64 0] 24)) = w3 at BR3 BN3 HB3 ⊢
  generalize w2.heap.size = g4 at BN3 ⊢
  have n0_ : w3.cell? ⟨g4, 0, none⟩ = some (.string ⟨#[]⟩) := (blk_cell BN3.out 0).trans rfl
  have n1_ : w3.cell? ⟨g4, 1, none⟩ = some (.int .u64 0) := (blk_cell BN3.out 1).trans rfl
  have n2_ : w3.cell? ⟨g4, 2, none⟩ = some (.int .i64 0) := (blk_cell BN3.out 2).trans rfl
  have n3_ : w3.cell? ⟨g4, 3, none⟩ = some (.int .u64 0) := (blk_cell BN3.out 3).trans rfl
  have r0_ : w3.cell? ⟨g2, 0, none⟩ = some (.string ⟨#[]⟩) := (blk_cell BR3.out 0).trans rfl
  have p0_ := blk_frozen BR3.out 0
  have r1_ : w3.cell? ⟨g2, 1, none⟩ = some (.int .u64 0) := (blk_cell BR3.out 1).trans rfl
  have p1_ := blk_frozen BR3.out 1
  have r2_ : w3.cell? ⟨g2, 2, none⟩ = some (.int .i64 0) := (blk_cell BR3.out 2).trans rfl
  have p2_ := blk_frozen BR3.out 2
  have r3_ : w3.cell? ⟨g2, 3, none⟩ = some (.int .u64 0) := (blk_cell BR3.out 3).trans rfl
  have p3_ := blk_frozen BR3.out 3
  go_wp2
  exact bodyPost_ret (hfin _ _ g2 _ _ _ _ rfl (blk_put (cs' := #[.string ⟨#[]⟩, .int .u64 0, .int .i64 0, .int .u64 0]) (blk_put (cs' := #[.string ⟨#[]⟩, .int .u64 0, .int .i64 0, .int .u64 0]) (blk_put (cs' := #[.string ⟨#[]⟩, .int .u64 0, .int .i64 0, .int .u64 0]) (blk_put (cs' := #[.string ⟨#[]⟩, .int .u64 0, .int .i64 0, .int .u64 0]) BR3.out 0 _ rfl) 1 _ rfl) 2 _ rfl) 3 _ rfl)) rfl ⟨rfl, (((HB3.out.setCell (p := ⟨g2, 0, none⟩) HG.out _).setCell (p := ⟨g2, 1, none⟩) HG.out _).setCell (p := ⟨g2, 2, none⟩) HG.out _).setCell (p := ⟨g2, 3, none⟩) HG.out _⟩

 ·have e1_ : (ee == 0) = false := beq_eq_false_iff_ne.mpr he
  have e2_ : (ee != 0) = true := bne_iff_ne.mpr he
  clear he
  go_upto_region 4 with (fail)
  clear l0_ l1_ l2_ l3_ r0_ r1_ r2_ r3_ p0_ p1_ p2_ p3_
  have BR3 := Aside0.mk (blk_alloc BR2.out (.cells #[.string ⟨#[]⟩, .int .u64 0, .int .i64 0, .int .u64 0] 24))
  have BN3 := Aside0.mk (blk_new w2 (.cells #[.string ⟨#[]⟩, .int .u64 0, .int .i64 0, .int .u64 0] 24))
  have HB3 := Aside0.mk (below_alloc HB2.out (.cells #[.string ⟨#[]⟩, .int .u64 0, .int .i64 0, .int .u64 0] 24))
  generalize (w2.alloc (.cells #[.string ⟨#[]⟩, .int .u64 0, .int .i64 0, .int .u64 0] 24)) = w3 at BR3 BN3 HB3 ⊢
  generalize w2.heap.size = g4 at BN3 ⊢
  have n0_ : w3.cell? ⟨g4, 0, none⟩ = some (.string ⟨#[]⟩) := (blk_cell BN3.out 0).trans rfl
  have n1_ : w3.cell? ⟨g4, 1, none⟩ = some (.int .u64 0) := (blk_cell BN3.out 1).trans rfl
  have n2_ : w3.cell? ⟨g4, 2, none⟩ = some (.int .i64 0) := (blk_cell BN3.out 2).trans rfl
  have n3_ : w3.cell? ⟨g4, 3, none⟩ = some (.int .u64 0) := (blk_cell BN3.out 3).trans rfl
  have r0_ : w3.cell? ⟨g2, 0, none⟩ = some (.string ⟨#[]⟩) := (blk_cell BR3.out 0).trans rfl
  have p0_ := blk_frozen BR3.out 0
  have r1_ : w3.cell? ⟨g2, 1, none⟩ = some (.int .u64 0) := (blk_cell BR3.out 1).trans rfl
  have p1_ := blk_frozen BR3.out 1
  have r2_ : w3.cell? ⟨g2, 2, none⟩ = some (.int .i64 0) := (blk_cell BR3.out 2).trans rfl
  have p2_ := blk_frozen BR3.out 2
  have r3_ : w3.cell? ⟨g2, 3, none⟩ = some (.int .u64 0) := (blk_cell BR3.out 3).trans rfl
  have p3_ := blk_frozen BR3.out 3
  go_wp2
  exact bodyPost_ret (hfin _ _ g2 _ _ _ _ rfl (blk_put (cs' := #[.string ⟨#[]⟩, .int .u64 0, .int .i64 0, .int .u64 0]) (blk_put (cs' := #[.string ⟨#[]⟩, .int .u64 0, .int .i64 0, .int .u64 0]) (blk_put (cs' := #[.string ⟨#[]⟩, .int .u64 0, .int .i64 0, .int .u64 0]) (blk_put (cs' := #[.string ⟨#[]⟩, .int .u64 0, .int .i64 0, .int .u64 0]) BR3.out 0 _ rfl) 1 _ rfl) 2 _ rfl) 3 _ rfl)) rfl ⟨rfl, (((HB3.out.setCell (p := ⟨g2, 0, none⟩) HG.out _).setCell (p := ⟨g2, 1, none⟩) HG.out _).setCell (p := ⟨g2, 2, none⟩) HG.out _).setCell (p := ⟨g2, 3, none⟩) HG.out _⟩

theorem api_Lock.chk (k : Nat) (p : ByteArray) (st kd at_ : Int) (s is : ByteArray) (ee : Int) (v0 : ByteArray) (v1 v2 v3 v4 : Int) (w : World) (h : col_Lock.f k p st kd at_ = some (is, ee)) (hr : (if ee ≠ 0 ∨ is.toList ≠ s.toList then some ((⟨#[]⟩ : ByteArray), (0 : Int), (0 : Int), (0 : Int), (2 : Int)) else some (p, st, kd, at_, 0)) = some (v0, v1, v2, v3, v4)) :
  Calls Try.prog 32 #[.agg #[.string p, .int .u64 st, .int .i64 kd, .int .u64 at_], .string s, .func (.func 11) #[] #[]] w fun e' w' => e' = .returned (.tuple #[.agg #[.string v0, .int .u64 v1, .int .i64 v2, .int .u64 v3], .int .i64 v4]) ∧ Below w.heap.size w w' := by
 by_cases hb : ee ≠ 0 ∨ is.toList ≠ s.toList
 ·rw [if_pos hb] at hr
  simp only [Option.some.injEq, Prod.mk.injEq] at hr
  obtain ⟨rfl, rfl, rfl, rfl, rfl⟩ := hr
  exact api_Lock.bad k p st kd at_ s is ee w h hb
 ·rw [if_neg hb] at hr
  simp only [Option.some.injEq, Prod.mk.injEq] at hr
  obtain ⟨rfl, rfl, rfl, rfl, rfl⟩ := hr
  have he : ee = 0 := Classical.not_not.1 fun e => hb (Or.inl e)
  subst he
  exact api_Lock.good k p st kd at_ s is w h (Classical.not_not.1 fun e => hb (Or.inr e))
def api_Lock.f (k : Nat) (a0_0 : ByteArray) (a0_1 a0_2 a0_3 : Int) (a1 : ByteArray) : Option (ByteArray × Int × Int × Int × Int) :=
 (col_Lock.f k a0_0 a0_1 a0_2 a0_3).bind fun c => if c.2 ≠ 0 ∨ c.1.toList ≠ a1.toList then some (⟨#[]⟩, 0, 0, 0, 2) else some (a0_0, a0_1, a0_2, a0_3, 0)
theorem api_Lock.mono : ∀ a0 a1 a2 a3 a4 k, LeO (api_Lock.f k a0 a1 a2 a3 a4) (api_Lock.f (k + 1) a0 a1 a2 a3 a4) := by
 intro a0 a1 a2 a3 a4 k
 unfold api_Lock.f
 exact LeO.bind (col_Lock.mono _ _ _ _ _) (fun _ => LeO.refl _)
theorem api_Lock.calls (k : Nat) (a0_0 : ByteArray) (a0_1 a0_2 a0_3 : Int) (a1 : ByteArray) (r1 : ByteArray) (r2 r3 r4 r5 : Int) (w : World) (h : api_Lock.f k a0_0 a0_1 a0_2 a0_3 a1 = some (r1, r2, r3, r4, r5)) :
  Calls Try.prog 32 #[.agg #[.string a0_0, .int .u64 a0_1, .int .i64 a0_2, .int .u64 a0_3], .string a1, .func (.func 11) #[] #[]] w fun e w' => e = .returned (.tuple #[.agg #[.string r1, .int .u64 r2, .int .i64 r3, .int .u64 r4], .int .i64 r5]) ∧ Below w.heap.size w w' := by
 unfold api_Lock.f at h
 replace h := Option.bind_eq_some_iff.mp h
 obtain ⟨⟨is, ee⟩, hC, h⟩ := h
 exact api_Lock.chk k a0_0 a0_1 a0_2 a0_3 a1 is ee r1 r2 r3 r4 r5 w hC h

/-! ### col_Unlock: function 18 -/
def col_Unlock.f (k : Nat) (a0 : ByteArray) : Option (ByteArray × Int × Int × Int × Int) := if a0.toList = ([] : List UInt8) then (some ((⟨#[]⟩ : ByteArray), 0, 0, 0, 2)) else (if 1 ≤ (a0.size : Int) then ((col_numbers.f k (a0.extract 1 a0.size) 2).bind fun bt136 => (if bt136.2.2 = true then (if 0 < (bt136.1.length : Int) then (if 0 < (a0.size : Int) then (if 1 < (bt136.1.length : Int) then ((api_Lock.f k bt136.2.1 (rd bt136.1 0) (wrap64 (bt a0 0)) (rd bt136.1 1) a0).bind fun bt143 => (some (bt143.1, bt143.2.1, bt143.2.2.1, bt143.2.2.2.1, bt143.2.2.2.2))) else (none)) else (none)) else (none)) else (some ((⟨#[]⟩ : ByteArray), 0, 0, 0, 2)))) else (none))
theorem col_Unlock.mono : ∀ a0 k, LeO (col_Unlock.f k a0) (col_Unlock.f (k + 1) a0) := by
 intro a0 k
 unfold col_Unlock.f
 repeat' first
   | (with_reducible exact api_Lock.mono _ _ _ _ _ _)
   | (with_reducible exact col_numbers.mono _ _ _)
   | (with_reducible exact LeO.refl _)
   | (with_reducible exact LeO.none _)
   | (with_reducible refine LeO.ite ?_ ?_)
   | (with_reducible refine LeO.bind ?_ (fun _ => ?_))
   | exact api_Lock.mono _ _ _ _ _ _
   | exact col_numbers.mono _ _ _
   | exact LeO.none _
   | refine LeO.ite ?_ ?_
   | refine LeO.bind ?_ (fun _ => ?_)
def col_Unlock.T6 : Bool × List (List Nat × List Nat) := (true, [([], []), ([], []), ([1], [1]), ([2], [2]), ([], []), ([4], [4]), ([5], [5]), ([], []), ([7], [7]), ([8], [8]), ([0, 3, 6, 9], [0, 3, 6, 9]), ([], []), ([10, 11], [10, 11]), ([12], [12]), ([12], [12]), ([13, 12, 0, 1, 2, 3, 4, 5, 6, 7, 8, 9, 10, 11, 12, 13, 14], [13]), ([14, 15, 0, 1, 2, 3, 4, 5, 6, 7, 8, 9, 10, 11, 12, 13, 14, 15], [14])])
def col_Unlock.B6 : List Nat := [0, 0, 2, 6, 0, 16, 48, 0, 128, 384, 1023, 0, 4095, 8191, 8191, 32767, 65535]
theorem col_Unlock.tab6 : rtab .any (opsOf Try.f18 6) = col_Unlock.T6 := by kernel_rfl
theorem col_Unlock.bits6 : waitsOk col_Unlock.T6.2 col_Unlock.B6 = true := by kernel_rfl
set_option maxHeartbeats 8000000 in
set_option maxRecDepth 100000 in
theorem col_Unlock.calls (k : Nat) (a0 : ByteArray) (r1 : ByteArray) (r2 : Int) (r3 : Int) (r4 : Int) (r5 : Int) (w : World) (h : col_Unlock.f k a0 = some (r1, r2, r3, r4, r5)) :
  Calls Try.prog 18 #[.string a0] w fun e w' => e = .returned (.tuple #[.agg #[.string r1, .int .u64 r2, .int .i64 r3, .int .u64 r4], .int .i64 r5]) ∧ Below w.heap.size w w' := by
 have hu24 := Try.underlying24
 have HB := Aside0.mk (Below.refl w.heap.size w)
 have H : (if a0.toList = ([] : List UInt8) then (some ((⟨#[]⟩ : ByteArray), 0, 0, 0, 2)) else (if 1 ≤ (a0.size : Int) then ((col_numbers.f k (a0.extract 1 a0.size) 2).bind fun bt136 => (if bt136.2.2 = true then (if 0 < (bt136.1.length : Int) then (if 0 < (a0.size : Int) then (if 1 < (bt136.1.length : Int) then ((api_Lock.f k bt136.2.1 (rd bt136.1 0) (wrap64 (bt a0 0)) (rd bt136.1 1) a0).bind fun bt143 => (some (bt143.1, bt143.2.1, bt143.2.2.1, bt143.2.2.2.1, bt143.2.2.2.2))) else (none)) else (none)) else (none)) else (some ((⟨#[]⟩ : ByteArray), 0, 0, 0, 2)))) else (none))) = some (r1, r2, r3, r4, r5) := h
 clear h
 by_cases c2 : a0.toList = ([] : List UInt8)
 ·rw [if_pos c2] at H
  have c2b0 : (a0.toList == ([] : List UInt8)) = true := beq_iff_eq.mpr c2
  have c2b1 : (a0.toList != ([] : List UInt8)) = false := bne_eq_false_iff_eq.mpr c2
  clear c2
  simp only [Option.some.injEq, Prod.mk.injEq] at H
  obtain ⟨rfl, rfl, rfl, rfl, rfl⟩ := H
  go_enter Try.func18, Try.ntmps18
  go_wp2_with (first | ((with_reducible refine gate_dst (N := 2) rfl ?_); refine box_event ?hg (N := 2) ?hd (cs := #[.string (⟨#[]⟩ : ByteArray), .int .u64 0, .int .i64 0, .int .u64 0]) (t := 24) ?hr ?_; (case hd => rfl); (case hg => rfl); (case hr => first | (go_simp; done) | (go_simp; rfl)); intro gb135 hg w3 hbox hb; have n0_ := Aside0.mk (below_step hB_ hb); have n1_ := Aside0.mk (hbox); have n2_ := Aside0.mk ((by rw [hg]; exact (below_size hB_) : w.heap.size ≤ gb135)); have n3_ := Aside0.mk ((by rw [hg]; exact (below_size hB_) : w.heap.size ≤ gb135)); clear HB; have HB := n0_; have BK135 := n1_; have GW135 := n2_; have GE135 := n3_; clear n0_ n1_ n2_ n3_; clear hb hbox hg; have hcz4_0 : w3.cell? ⟨gb135, 0, none⟩ = some (.string (⟨#[]⟩ : ByteArray)) := (blk_cell BK135.out 0).trans rfl; have hcz4_1 : w3.cell? ⟨gb135, 1, none⟩ = some (.int .u64 0) := (blk_cell BK135.out 1).trans rfl; have hcz4_2 : w3.cell? ⟨gb135, 2, none⟩ = some (.int .i64 0) := (blk_cell BK135.out 2).trans rfl; have hcz4_3 : w3.cell? ⟨gb135, 3, none⟩ = some (.int .u64 0) := (blk_cell BK135.out 3).trans rfl; have hfz4_0 := blk_frozen BK135.out 0; have hfz4_1 := blk_frozen BK135.out 1; have hfz4_2 := blk_frozen BK135.out 2; have hfz4_3 := blk_frozen BK135.out 3))
  refine bodyPost_ret (results_ct rfl _ _ gb135 24 #[.string (⟨#[]⟩ : ByteArray), .int .u64 0, .int .i64 0, .int .u64 0] (0, 0) _ rfl (by (with_reducible repeat (first | refine blk_drewN ?_ _ | refine blk_drew ?_ | refine blk_alloc ?_ _)); refine blk_put (cs := #[.string (⟨#[]⟩ : ByteArray), .int .u64 0, .int .i64 0, .int .u64 0]) ?_ 3 _ rfl; (with_reducible repeat (first | refine blk_drewN ?_ _ | refine blk_drew ?_ | refine blk_alloc ?_ _)); refine blk_put (cs := #[.string (⟨#[]⟩ : ByteArray), .int .u64 0, .int .i64 0, .int .u64 0]) ?_ 2 _ rfl; (with_reducible repeat (first | refine blk_drewN ?_ _ | refine blk_drew ?_ | refine blk_alloc ?_ _)); refine blk_put (cs := #[.string (⟨#[]⟩ : ByteArray), .int .u64 0, .int .i64 0, .int .u64 0]) ?_ 1 _ rfl; (with_reducible repeat (first | refine blk_drewN ?_ _ | refine blk_drew ?_ | refine blk_alloc ?_ _)); refine blk_put (cs := #[.string (⟨#[]⟩ : ByteArray), .int .u64 0, .int .i64 0, .int .u64 0]) ?_ 0 _ rfl; (with_reducible repeat (first | refine blk_drewN ?_ _ | refine blk_drew ?_ | refine blk_alloc ?_ _)); exact BK135.out) Try.underlying24 rfl (by kernel_rfl)) rfl ?_
  exact ⟨rf_, by repeat (first | (with_reducible first | exact HB.out | apply below_alloc | apply pw_below_drewN | apply below_drew1 | refine below_set ?_ GE135.out) | exact HB.out)⟩
 ·rw [if_neg c2] at H
  have c2b0 : (a0.toList == ([] : List UInt8)) = false := beq_eq_false_iff_ne.mpr c2
  have c2b1 : (a0.toList != ([] : List UInt8)) = true := bne_iff_ne.mpr c2
  by_cases c5 : 1 ≤ (a0.size : Int)
  ·rw [if_pos c5] at H
   have c5b0 := eq_true c5
   have c5b1 : decide (1 ≤ (a0.size : Int)) = true := decide_eq_true c5
   clear c5
   replace H := Option.bind_eq_some_iff.mp H
   obtain ⟨⟨t136, t137, t138⟩, A60, H⟩ := H
   try dsimp only at H
   have A6 := Aside0.mk A60
   clear A60
   by_cases c7 : t138 = true
   ·subst c7
    have H1 : (if 0 < (t136.length : Int) then (if 0 < (a0.size : Int) then (if 1 < (t136.length : Int) then ((api_Lock.f k t137 (rd t136 0) (wrap64 (bt a0 0)) (rd t136 1) a0).bind fun bt143 => (some (bt143.1, bt143.2.1, bt143.2.2.1, bt143.2.2.2.1, bt143.2.2.2.2))) else (none)) else (none)) else (none)) = some (r1, r2, r3, r4, r5) := by rw [if_pos rfl] at H; exact H
    clear H
    have H := H1
    clear H1
    by_cases c8 : 0 < (t136.length : Int)
    ·rw [if_pos c8] at H
     have c8b0 : decide (0 < (t136.length : Int)) = true := decide_eq_true c8
     have c8b1 : decide (0 < t136.length) = true := decide_eq_true (by omega)
     clear c8
     by_cases c9 : 0 < (a0.size : Int)
     ·rw [if_pos c9] at H
      have c9b0 : decide (0 < (a0.size : Int)) = true := decide_eq_true c9
      have c9b1 : decide (0 < a0.size) = true := decide_eq_true (by omega)
      clear c9
      by_cases c11 : 1 < (t136.length : Int)
      ·rw [if_pos c11] at H
       have c11b0 : decide (1 < (t136.length : Int)) = true := decide_eq_true c11
       have c11b1 : decide (1 < t136.length) = true := decide_eq_true (by omega)
       clear c11
       replace H := Option.bind_eq_some_iff.mp H
       obtain ⟨⟨t143, t144, t145, t146, t147⟩, A120, H⟩ := H
       try dsimp only at H
       have A12 := Aside0.mk A120
       clear A120
       simp only [Option.some.injEq, Prod.mk.injEq] at H
       obtain ⟨rfl, rfl, rfl, rfl, rfl⟩ := H
       go_enter Try.func18, Try.ntmps18
       try go_wp2_with (first | ((with_reducible refine gate_dst (N := 2) rfl ?_); refine box_event ?hg (N := 2) ?hd (cs := #[.string (⟨#[]⟩ : ByteArray), .int .u64 0, .int .i64 0, .int .u64 0]) (t := 24) ?hr ?_; (case hd => rfl); (case hg => rfl); (case hr => first | (go_simp; done) | (go_simp; rfl)); intro gb135 hg w13 hbox hb; have n0_ := Aside0.mk (below_step hB_ hb); have n1_ := Aside0.mk (hbox); have n2_ := Aside0.mk ((by rw [hg]; exact (below_size hB_) : w.heap.size ≤ gb135)); have n3_ := Aside0.mk ((by rw [hg]; exact (below_size hB_) : w.heap.size ≤ gb135)); clear HB; have HB := n0_; have BK135 := n1_; have GW135 := n2_; have GE135 := n3_; clear n0_ n1_ n2_ n3_; clear hb hbox hg) | ((with_reducible refine gate_callee (f := 31) rfl ?_); refine goesL_ (some 13) rfl rfl Try.func31 (by kernel_rfl) rfl #[.string (a0.extract 1 a0.size), .int .i64 2] rfl hA_ ?_; (with_reducible refine (col_numbers.calls k (a0.extract 1 a0.size) 2 t136 t137 true _ A6.out).mono ?_); rintro e w14 ⟨v139, rfl, ho0, hb⟩; refine ⟨_, rfl, ?_⟩; have n0_ := Aside0.mk (Kd.R_lower ho0 (below_size (by repeat (first | (with_reducible first | exact HB.out | apply below_alloc | apply pw_below_drewN | apply below_drew1 | refine below_set ?_ GE135.out) | exact HB.out)))); have n1_ := Aside0.mk (blk_below (g := gb135) (o := .cells #[.string (⟨#[]⟩ : ByteArray), .int .u64 0, .int .i64 0, .int .u64 0] 24 (0, 0)) (by (with_reducible repeat (first | refine blk_drewN ?_ _ | refine blk_drew ?_ | refine blk_alloc ?_ _)); exact BK135.out) hb); have n2_ := Aside0.mk (below_step (by repeat (first | (with_reducible first | exact HB.out | apply below_alloc | apply pw_below_drewN | apply below_drew1 | refine below_set ?_ GE135.out) | exact HB.out)) hb); clear BK135; clear HB; have HO140 := n0_; have BK135 := n1_; have HB := n2_; clear n0_ n1_ n2_; (try clear hb); (try clear hb2); (try clear hk); (try clear hi); (try clear ho0); (try clear A6)))
       have n0_ := Aside0.mk (Kd.R_drew HO140.out)
       have n1_ := Aside0.mk (blk_drew BK135.out)
       have n2_ := Aside0.mk (below_drew1 HB.out)
       clear HO140
       clear BK135
       clear HB
       have HO140 := n0_
       have BK135 := n1_
       have HB := n2_
       clear n0_ n1_ n2_
       obtain ⟨Ao16, co16, eo16⟩ := Kd.R_slice HO140.out
       (first | subst eo16 | (injection eo16 with f1_ f2_ f3_; have f4_ := f1_.symm; have f5_ := f3_.symm; clear f1_ f2_ f3_; subst f4_; subst f5_))
       have p141 : 0 ≤ (0 : Int) := (by omega)
       have q141 : 0 < (t136.length : Int) := of_decide_eq_true as_
       obtain ⟨ad141, e141, hx141_0⟩ := Kd.at_int (Kd.R_reads' HO140.out).2.2 0 p141 q141
       cases e141
       have qi141 : (0 < t136.length) = True := eq_true (by omega)
       (try rw [show ((0 : Int)).toNat = 0 from rfl] at hx141_0)
       (try rw [Addr.add_zero'] at hx141_0)
       replace p141 := eq_true p141
       replace q141 := eq_true q141
       have p10 : 0 ≤ (0 : Int) := (by omega)
       have q10 : 0 < a0.size := (by have : (0 : Int) < (a0.size : Int) := of_decide_eq_true as_; omega)
       have hx10 : ∀ h : 0 < a0.size, ((a0[0]'h).toNat : Int) = bt a0 0 := bt_at a0 0
       clear p10
       have qi10 : (0 < (a0.size : Int)) = True := eq_true (of_decide_eq_true as_)
       replace q10 := eq_true q10
       have p142 : 0 ≤ (1 : Int) := (by omega)
       have q142 : 1 < (t136.length : Int) := of_decide_eq_true as_
       obtain ⟨ad142, e142, hx142_0⟩ := Kd.at_int (Kd.R_reads' HO140.out).2.2 1 p142 q142
       obtain rfl : ad141 = ad142 := (by injection e142)
       (try simp only [show (1 : Int).toNat = 1 from rfl, Nat.reduceMul, Nat.reduceEqDiff, Go.Addr.add, ↓reduceIte] at hx142_0)
       have qi142 : (1 < t136.length) = True := eq_true (by omega)
       (try rw [show ((1 : Int)).toNat = 1 from rfl] at hx142_0)
       replace p142 := eq_true p142
       replace q142 := eq_true q142
       refine start_ (n := 17) (S := fun w' => w'.cell? ad141 = some (.int .u64 (rd t136 0)) ∧ w'.cell? ⟨ad141.block, ad141.off + 1, none⟩ = some (.int .u64 (rd t136 1))) (ds := []) #[N,N,N,N,N,N,N,N,N,N,N,N,N,N,N,N,N] (by kernel_rfl) rfl rfl ⟨hx141_0, hx142_0⟩ (fun hHeld => ?_); refine with_tabW col_Unlock.tab6 col_Unlock.bits6 (fun HT_ HW_ => ?_)
       generalize w14.drew = w15 at HO140 BK135 HB hx141_0 hx142_0 hHeld ⊢
       refine pure_ (i := 0) (N := some 20) (v := ?_) (a' := ?_) #[Y,N,N,N,N,N,N,N,N,N,N,N,N,N,N,N,N] rfl rfl (any_of HT_.out (by kernel_rfl)) (fun _ _ _ h => h) (Or.inl ⟨by rfl, ?_⟩) ?_ ?_
       rotate_left
       ·intro w'
        go_simp
        with_reducible rfl
       rotate_left
       ·simp only [Act.put, List.setIfInBounds_toArray, List.set_cons_zero, List.set_cons_succ, i64_w, i32_w]
        rfl
       refine pure_ (i := 1) (N := some 21) (v := ?_) (a' := ?_) #[Y,Y,N,N,N,N,N,N,N,N,N,N,N,N,N,N,N] rfl rfl (any_of HT_.out (by kernel_rfl)) (fun _ _ _ h => h) (Or.inl ⟨by rfl, ?_⟩) ?_ ?_
       rotate_left
       ·intro w'
        go_simp
        with_reducible rfl
       rotate_left
       ·simp only [Act.put, List.setIfInBounds_toArray, List.set_cons_zero, List.set_cons_succ, i64_w, i32_w]
        rfl
       refine pure_ (i := 2) (N := some 22) (v := ?_) (a' := ?_) #[Y,Y,Y,N,N,N,N,N,N,N,N,N,N,N,N,N,N] rfl rfl (any_of HT_.out (by kernel_rfl)) (fun _ _ _ h => h) (Or.inl ⟨by rfl, ?_⟩) ?_ ?_
       rotate_left
       ·intro w'
        go_simp
        with_reducible rfl
       rotate_left
       ·simp only [Act.put, List.setIfInBounds_toArray, List.set_cons_zero, List.set_cons_succ, i64_w, i32_w]
        rfl
       refine pure_ (i := 4) (N := some 24) (v := ?_) (a' := ?_) #[Y,Y,Y,N,Y,N,N,N,N,N,N,N,N,N,N,N,N] rfl rfl (any_of HT_.out (by kernel_rfl)) (fun _ _ _ h => h) (Or.inl ⟨by rfl, ?_⟩) ?_ ?_
       rotate_left
       ·intro w'
        go_simp
        with_reducible rfl
       rotate_left
       ·simp only [Act.put, List.setIfInBounds_toArray, List.set_cons_zero, List.set_cons_succ, i64_w, i32_w]
        rfl
       refine pure_ (i := 7) (N := some 27) (v := ?_) (a' := ?_) #[Y,Y,Y,N,Y,N,N,Y,N,N,N,N,N,N,N,N,N] rfl rfl (any_of HT_.out (by kernel_rfl)) (fun _ _ _ h => h) (Or.inl ⟨by rfl, ?_⟩) ?_ ?_
       rotate_left
       ·intro w'
        go_simp
        with_reducible rfl
       rotate_left
       ·simp only [Act.put, List.setIfInBounds_toArray, List.set_cons_zero, List.set_cons_succ, i64_w, i32_w]
        rfl
       refine pure_ (i := 8) (N := some 28) (v := ?_) (a' := ?_) #[Y,Y,Y,N,Y,N,N,Y,Y,N,N,N,N,N,N,N,N] rfl rfl (any_of HT_.out (by kernel_rfl)) (fun _ _ _ h => h) (Or.inl ⟨by rfl, ?_⟩) ?_ ?_
       rotate_left
       ·intro w'
        go_simp
        with_reducible rfl
       rotate_left
       ·simp only [Act.put, List.setIfInBounds_toArray, List.set_cons_zero, List.set_cons_succ, i64_w, i32_w]
        rfl
       refine pure_ (i := 11) (N := some 31) (v := ?_) (a' := ?_) #[Y,Y,Y,N,Y,N,N,Y,Y,N,N,Y,N,N,N,N,N] rfl rfl (any_of HT_.out (by kernel_rfl)) (fun _ _ _ h => h) (Or.inl ⟨by rfl, ?_⟩) ?_ ?_
       rotate_left
       ·intro w'
        go_simp
        with_reducible rfl
       rotate_left
       ·simp only [Act.put, List.setIfInBounds_toArray, List.set_cons_zero, List.set_cons_succ, i64_w, i32_w]
        rfl
       refine take_ (i := 3) (N := some 23) (v := ?_) (a' := ?_) #[Y,Y,Y,Y,Y,N,N,Y,Y,N,N,Y,N,N,N,N,N] rfl rfl (take_ofW HT_.out HW_.out (by kernel_rfl)) (fun _ _ _ h => h) (Or.inl ⟨by rfl, ?_⟩) hHeld ?_ ?_
       rotate_left
       ·rintro w' ⟨s0, s1⟩
        go_simp
        with_reducible rfl
       rotate_left
       ·simp only [Act.put, List.setIfInBounds_toArray, List.set_cons_zero, List.set_cons_succ, i64_w, i32_w]
        rfl
       refine take_ (i := 5) (N := some 25) (v := ?_) (a' := ?_) #[Y,Y,Y,Y,Y,Y,N,Y,Y,N,N,Y,N,N,N,N,N] rfl rfl (take_ofW HT_.out HW_.out (by kernel_rfl)) (fun _ _ _ h => h) (Or.inl ⟨by rfl, ?_⟩) hHeld ?_ ?_
       rotate_left
       ·rintro w' ⟨s0, s1⟩
        go_simp
        with_reducible rfl
       rotate_left
       ·simp only [Act.put, List.setIfInBounds_toArray, List.set_cons_zero, List.set_cons_succ, i64_w, i32_w]
        rfl
       refine pure_ (i := 6) (N := some 26) (v := ?_) (a' := ?_) #[Y,Y,Y,Y,Y,Y,Y,Y,Y,N,N,Y,N,N,N,N,N] rfl rfl (any_of HT_.out (by kernel_rfl)) (fun _ _ _ h => h) (Or.inl ⟨by rfl, ?_⟩) ?_ ?_
       rotate_left
       ·intro w'
        go_simp
        with_reducible rfl
       rotate_left
       ·simp only [Act.put, List.setIfInBounds_toArray, List.set_cons_zero, List.set_cons_succ, i64_w, i32_w]
        rfl
       refine take_ (i := 9) (N := some 29) (v := ?_) (a' := ?_) #[Y,Y,Y,Y,Y,Y,Y,Y,Y,Y,N,Y,N,N,N,N,N] rfl rfl (take_ofW HT_.out HW_.out (by kernel_rfl)) (fun _ _ _ h => h) (Or.inl ⟨by rfl, ?_⟩) hHeld ?_ ?_
       rotate_left
       ·rintro w' ⟨s0, s1⟩
        go_simp
        with_reducible rfl
       rotate_left
       ·simp only [Act.put, List.setIfInBounds_toArray, List.set_cons_zero, List.set_cons_succ, i64_w, i32_w]
        rfl
       refine pure_ (i := 10) (N := some 30) (v := ?_) (a' := ?_) #[Y,Y,Y,Y,Y,Y,Y,Y,Y,Y,Y,Y,N,N,N,N,N] rfl rfl (any_of HT_.out (by kernel_rfl)) (fun _ _ _ h => h) (Or.inl ⟨by rfl, ?_⟩) ?_ ?_
       rotate_left
       ·intro w'
        go_simp
        with_reducible rfl
       rotate_left
       ·simp only [Act.put, List.setIfInBounds_toArray, List.set_cons_zero, List.set_cons_succ, i64_w, i32_w]
        rfl
       refine one_ (i := 12) (N := some 32) #[Y,Y,Y,Y,Y,Y,Y,Y,Y,Y,Y,Y,Y,N,N,N,N] rfl rfl (one_of HT_.out (by kernel_rfl)) (by decide) (fun K hK => ?_)
       refine goes_ Try.func32 (by kernel_rfl) rfl #[.agg #[.string t137, .int .u64 (rd t136 0), .int .i64 (wrap64 (bt a0 0)), .int .u64 (rd t136 1)], .string a0, .func (.func 11) #[] #[]] (by rfl) rfl rfl hA_ ?_
       with_reducible refine (api_Lock.calls k t137 (rd t136 0) (wrap64 (bt a0 0)) (rd t136 1) a0  t143 t144 t145 t146 t147 _ A12.out).mono ?_
       rintro e w17 ⟨rfl, hb⟩
       have HS0_ := (hb.cell (World.block_lt_of_cell? _ _ (hHeld.1))).trans (hHeld.1)
       have HS1_ := (hb.cell (World.block_lt_of_cell? _ _ (hHeld.2))).trans (hHeld.2)
       refine ⟨_, rfl, ?_⟩
       have n0_ := Aside0.mk (Kd.R_below (by (with_reducible repeat (first | apply Kd.R_alloc | apply Kd.R_drewN | apply Kd.R_drew)); exact HO140.out) hb)
       have n1_ := Aside0.mk (blk_below (g := gb135) (o := .cells #[.string (⟨#[]⟩ : ByteArray), .int .u64 0, .int .i64 0, .int .u64 0] 24 (0, 0)) (by (with_reducible repeat (first | refine blk_drewN ?_ _ | refine blk_drew ?_ | refine blk_alloc ?_ _)); exact BK135.out) hb)
       have n2_ := Aside0.mk (below_step (by repeat (first | (with_reducible first | exact HB.out | apply below_alloc | apply pw_below_drewN | apply below_drew1 | refine below_set ?_ GE135.out) | exact HB.out)) hb)
       clear HO140
       clear BK135
       clear HB
       have HO140 := n0_
       have BK135 := n1_
       have HB := n2_
       clear n0_ n1_ n2_
       (try clear hb)
       (try clear hb2)
       (try clear hk)
       (try clear hi)
       (try clear A12)
       refine hK.out _ _ ⟨HS0_, HS1_⟩ (fun hHeld => ?_)
       clear hK K
       refine norm_ (a' := ?_) ?_ ?_
       rotate_left
       ·show Act.put _ (some 32) _ = _
        simp only [Act.put, List.setIfInBounds_toArray, List.set_cons_zero, List.set_cons_succ, i64_w, i32_w]
        rfl
       refine pure_ (i := 13) (N := some 33) (v := ?_) (a' := ?_) #[Y,Y,Y,Y,Y,Y,Y,Y,Y,Y,Y,Y,Y,Y,N,N,N] rfl rfl (any_of HT_.out (by kernel_rfl)) (fun _ _ _ h => h) (Or.inl ⟨by rfl, ?_⟩) ?_ ?_
       rotate_left
       ·intro w'
        go_simp
        with_reducible rfl
       rotate_left
       ·simp only [Act.put, List.setIfInBounds_toArray, List.set_cons_zero, List.set_cons_succ, i64_w, i32_w]
        rfl
       refine pure_ (i := 14) (N := some 34) (v := ?_) (a' := ?_) #[Y,Y,Y,Y,Y,Y,Y,Y,Y,Y,Y,Y,Y,Y,Y,N,N] rfl rfl (any_of HT_.out (by kernel_rfl)) (fun _ _ _ h => h) (Or.inl ⟨by rfl, ?_⟩) ?_ ?_
       rotate_left
       ·intro w'
        go_simp
        with_reducible rfl
       rotate_left
       ·simp only [Act.put, List.setIfInBounds_toArray, List.set_cons_zero, List.set_cons_succ, i64_w, i32_w]
        rfl
       refine one_ (i := 15) (N := none) #[Y,Y,Y,Y,Y,Y,Y,Y,Y,Y,Y,Y,Y,Y,Y,Y,N] rfl rfl (one_of HT_.out (by kernel_rfl)) (by decide) (fun K hK => ?_)
       have hs18 : w17.cell? ⟨gb135, 0, none⟩ = some (.string (⟨#[]⟩ : ByteArray)) := (blk_cell BK135.out 0).trans rfl
       have hfs18 := blk_frozen BK135.out 0
       have hs19 : w17.cell? ⟨gb135, 1, none⟩ = some (.int .u64 0) := (blk_cell BK135.out 1).trans rfl
       have hfs19 := blk_frozen BK135.out 1
       have hs20 : w17.cell? ⟨gb135, 2, none⟩ = some (.int .i64 0) := (blk_cell BK135.out 2).trans rfl
       have hfs20 := blk_frozen BK135.out 2
       have hs21 : w17.cell? ⟨gb135, 3, none⟩ = some (.int .u64 0) := (blk_cell BK135.out 3).trans rfl
       have hfs21 := blk_frozen BK135.out 3
       refine skip_ (w1 := ?_) (by rfl) rfl ?_ ?_
       rotate_left
       ·go_simp
        rfl
       refine hK.out _ _ ⟨((cell_far (p := ⟨gb135, _, none⟩) (by first | exact Kd.own_blk (Kd.R_ne HO140.out BK135.out (by decide)) | (rw [add_block]; exact Kd.own_blk (Kd.R_ne HO140.out BK135.out (by decide))) | (show (Addr.add _ _).block ≠ _; rw [add_block]; exact Kd.own_blk (Kd.R_ne HO140.out BK135.out (by decide))) | (dsimp only; exact Kd.own_blk (Kd.R_ne HO140.out BK135.out (by decide)))) _).trans (((cell_far (p := ⟨gb135, _, none⟩) (by first | exact Kd.own_blk (Kd.R_ne HO140.out BK135.out (by decide)) | (rw [add_block]; exact Kd.own_blk (Kd.R_ne HO140.out BK135.out (by decide))) | (show (Addr.add _ _).block ≠ _; rw [add_block]; exact Kd.own_blk (Kd.R_ne HO140.out BK135.out (by decide))) | (dsimp only; exact Kd.own_blk (Kd.R_ne HO140.out BK135.out (by decide)))) _).trans (((cell_far (p := ⟨gb135, _, none⟩) (by first | exact Kd.own_blk (Kd.R_ne HO140.out BK135.out (by decide)) | (rw [add_block]; exact Kd.own_blk (Kd.R_ne HO140.out BK135.out (by decide))) | (show (Addr.add _ _).block ≠ _; rw [add_block]; exact Kd.own_blk (Kd.R_ne HO140.out BK135.out (by decide))) | (dsimp only; exact Kd.own_blk (Kd.R_ne HO140.out BK135.out (by decide)))) _).trans (((cell_far (p := ⟨gb135, _, none⟩) (by first | exact Kd.own_blk (Kd.R_ne HO140.out BK135.out (by decide)) | (rw [add_block]; exact Kd.own_blk (Kd.R_ne HO140.out BK135.out (by decide))) | (show (Addr.add _ _).block ≠ _; rw [add_block]; exact Kd.own_blk (Kd.R_ne HO140.out BK135.out (by decide))) | (dsimp only; exact Kd.own_blk (Kd.R_ne HO140.out BK135.out (by decide)))) _).trans (hHeld.1)))))))), ((cell_far (p := ⟨gb135, _, none⟩) (by first | exact Kd.own_blk (Kd.R_ne HO140.out BK135.out (by decide)) | (rw [add_block]; exact Kd.own_blk (Kd.R_ne HO140.out BK135.out (by decide))) | (show (Addr.add _ _).block ≠ _; rw [add_block]; exact Kd.own_blk (Kd.R_ne HO140.out BK135.out (by decide))) | (dsimp only; exact Kd.own_blk (Kd.R_ne HO140.out BK135.out (by decide)))) _).trans (((cell_far (p := ⟨gb135, _, none⟩) (by first | exact Kd.own_blk (Kd.R_ne HO140.out BK135.out (by decide)) | (rw [add_block]; exact Kd.own_blk (Kd.R_ne HO140.out BK135.out (by decide))) | (show (Addr.add _ _).block ≠ _; rw [add_block]; exact Kd.own_blk (Kd.R_ne HO140.out BK135.out (by decide))) | (dsimp only; exact Kd.own_blk (Kd.R_ne HO140.out BK135.out (by decide)))) _).trans (((cell_far (p := ⟨gb135, _, none⟩) (by first | exact Kd.own_blk (Kd.R_ne HO140.out BK135.out (by decide)) | (rw [add_block]; exact Kd.own_blk (Kd.R_ne HO140.out BK135.out (by decide))) | (show (Addr.add _ _).block ≠ _; rw [add_block]; exact Kd.own_blk (Kd.R_ne HO140.out BK135.out (by decide))) | (dsimp only; exact Kd.own_blk (Kd.R_ne HO140.out BK135.out (by decide)))) _).trans (((cell_far (p := ⟨gb135, _, none⟩) (by first | exact Kd.own_blk (Kd.R_ne HO140.out BK135.out (by decide)) | (rw [add_block]; exact Kd.own_blk (Kd.R_ne HO140.out BK135.out (by decide))) | (show (Addr.add _ _).block ≠ _; rw [add_block]; exact Kd.own_blk (Kd.R_ne HO140.out BK135.out (by decide))) | (dsimp only; exact Kd.own_blk (Kd.R_ne HO140.out BK135.out (by decide)))) _).trans (hHeld.2))))))))⟩ (fun hHeld => ?_)
       clear hK K
       refine pure_ (i := 16) (N := some 3) (v := ?_) (a' := ?_) #[Y,Y,Y,Y,Y,Y,Y,Y,Y,Y,Y,Y,Y,Y,Y,Y,Y] rfl rfl (any_of HT_.out (by kernel_rfl)) (fun _ _ _ h => h) (Or.inl ⟨by rfl, ?_⟩) ?_ ?_
       rotate_left
       ·intro w'
        go_simp
        with_reducible rfl
       rotate_left
       ·simp only [Act.put, List.setIfInBounds_toArray, List.set_cons_zero, List.set_cons_succ, i64_w, i32_w]
        rfl
       refine done_ (done_of HT_.out (by kernel_rfl)) ?_
       (try clear hHeld)
       (try clear c5b0); (try clear c5b1); (try clear c5b2); (try clear c5b3); (try clear c5b4); (try clear c5b5); (try clear c5b6)
       try go_wp2
       refine bodyPost_ret (results_ct rfl _ _ gb135 24 #[.string t143, .int .u64 t144, .int .i64 t145, .int .u64 t146] (0, 0) _ rfl (by (with_reducible repeat (first | refine blk_drewN ?_ _ | refine blk_drew ?_ | refine blk_alloc ?_ _)); refine blk_put (cs := #[.string t143, .int .u64 t144, .int .i64 t145, .int .u64 0]) ?_ 3 _ rfl; (with_reducible repeat (first | refine blk_drewN ?_ _ | refine blk_drew ?_ | refine blk_alloc ?_ _)); refine blk_put (cs := #[.string t143, .int .u64 t144, .int .i64 0, .int .u64 0]) ?_ 2 _ rfl; (with_reducible repeat (first | refine blk_drewN ?_ _ | refine blk_drew ?_ | refine blk_alloc ?_ _)); refine blk_put (cs := #[.string t143, .int .u64 0, .int .i64 0, .int .u64 0]) ?_ 1 _ rfl; (with_reducible repeat (first | refine blk_drewN ?_ _ | refine blk_drew ?_ | refine blk_alloc ?_ _)); refine blk_put (cs := #[.string (⟨#[]⟩ : ByteArray), .int .u64 0, .int .i64 0, .int .u64 0]) ?_ 0 _ rfl; (with_reducible repeat (first | refine blk_drewN ?_ _ | refine blk_drew ?_ | refine blk_alloc ?_ _)); exact BK135.out) Try.underlying24 rfl (by kernel_rfl)) rfl ?_
       exact ⟨rf_, by repeat (first | (with_reducible first | exact HB.out | apply below_alloc | apply pw_below_drewN | apply below_drew1 | refine below_set ?_ GE135.out) | exact HB.out)⟩
      ·rw [if_neg c11] at H
       exact absurd H (by simp)
     ·rw [if_neg c9] at H
      exact absurd H (by simp)
    ·rw [if_neg c8] at H
     exact absurd H (by simp)
   ·replace c7 := Bool.eq_false_iff.mpr c7
    subst c7
    have H1 : (some ((⟨#[]⟩ : ByteArray), 0, 0, 0, 2)) = some (r1, r2, r3, r4, r5) := by rw [if_neg (show ¬ (false = true) by decide)] at H; exact H
    clear H
    have H := H1
    clear H1
    simp only [Option.some.injEq, Prod.mk.injEq] at H
    obtain ⟨rfl, rfl, rfl, rfl, rfl⟩ := H
    go_enter Try.func18, Try.ntmps18
    go_wp2_with (first | ((with_reducible refine gate_dst (N := 2) rfl ?_); refine box_event ?hg (N := 2) ?hd (cs := #[.string (⟨#[]⟩ : ByteArray), .int .u64 0, .int .i64 0, .int .u64 0]) (t := 24) ?hr ?_; (case hd => rfl); (case hg => rfl); (case hr => first | (go_simp; done) | (go_simp; rfl)); intro gb135 hg w22 hbox hb; have n0_ := Aside0.mk (below_step hB_ hb); have n1_ := Aside0.mk (hbox); have n2_ := Aside0.mk ((by rw [hg]; exact (below_size hB_) : w.heap.size ≤ gb135)); have n3_ := Aside0.mk ((by rw [hg]; exact (below_size hB_) : w.heap.size ≤ gb135)); clear HB; have HB := n0_; have BK135 := n1_; have GW135 := n2_; have GE135 := n3_; clear n0_ n1_ n2_ n3_; clear hb hbox hg) | ((with_reducible refine gate_callee (f := 31) rfl ?_); refine goesL_ (some 13) rfl rfl Try.func31 (by kernel_rfl) rfl #[.string (a0.extract 1 a0.size), .int .i64 2] rfl hA_ ?_; (with_reducible refine (col_numbers.calls k (a0.extract 1 a0.size) 2 t136 t137 false _ A6.out).mono ?_); rintro e w23 ⟨v139, rfl, ho0, hb⟩; refine ⟨_, rfl, ?_⟩; have n0_ := Aside0.mk (Kd.R_lower ho0 (below_size (by repeat (first | (with_reducible first | exact HB.out | apply below_alloc | apply pw_below_drewN | apply below_drew1 | refine below_set ?_ GE135.out) | exact HB.out)))); have n1_ := Aside0.mk (blk_below (g := gb135) (o := .cells #[.string (⟨#[]⟩ : ByteArray), .int .u64 0, .int .i64 0, .int .u64 0] 24 (0, 0)) (by (with_reducible repeat (first | refine blk_drewN ?_ _ | refine blk_drew ?_ | refine blk_alloc ?_ _)); exact BK135.out) hb); have n2_ := Aside0.mk (below_step (by repeat (first | (with_reducible first | exact HB.out | apply below_alloc | apply pw_below_drewN | apply below_drew1 | refine below_set ?_ GE135.out) | exact HB.out)) hb); clear BK135; clear HB; have HO140 := n0_; have BK135 := n1_; have HB := n2_; clear n0_ n1_ n2_; (try clear hb); (try clear hb2); (try clear hk); (try clear hi); (try clear ho0); (try clear A6); have hcz24_0 : w23.cell? ⟨gb135, 0, none⟩ = some (.string (⟨#[]⟩ : ByteArray)) := (blk_cell BK135.out 0).trans rfl; have hcz24_1 : w23.cell? ⟨gb135, 1, none⟩ = some (.int .u64 0) := (blk_cell BK135.out 1).trans rfl; have hcz24_2 : w23.cell? ⟨gb135, 2, none⟩ = some (.int .i64 0) := (blk_cell BK135.out 2).trans rfl; have hcz24_3 : w23.cell? ⟨gb135, 3, none⟩ = some (.int .u64 0) := (blk_cell BK135.out 3).trans rfl; have hfz24_0 := blk_frozen BK135.out 0; have hfz24_1 := blk_frozen BK135.out 1; have hfz24_2 := blk_frozen BK135.out 2; have hfz24_3 := blk_frozen BK135.out 3))
    refine bodyPost_ret (results_ct rfl _ _ gb135 24 #[.string (⟨#[]⟩ : ByteArray), .int .u64 0, .int .i64 0, .int .u64 0] (0, 0) _ rfl (by (with_reducible repeat (first | refine blk_drewN ?_ _ | refine blk_drew ?_ | refine blk_alloc ?_ _)); refine blk_put (cs := #[.string (⟨#[]⟩ : ByteArray), .int .u64 0, .int .i64 0, .int .u64 0]) ?_ 3 _ rfl; (with_reducible repeat (first | refine blk_drewN ?_ _ | refine blk_drew ?_ | refine blk_alloc ?_ _)); refine blk_put (cs := #[.string (⟨#[]⟩ : ByteArray), .int .u64 0, .int .i64 0, .int .u64 0]) ?_ 2 _ rfl; (with_reducible repeat (first | refine blk_drewN ?_ _ | refine blk_drew ?_ | refine blk_alloc ?_ _)); refine blk_put (cs := #[.string (⟨#[]⟩ : ByteArray), .int .u64 0, .int .i64 0, .int .u64 0]) ?_ 1 _ rfl; (with_reducible repeat (first | refine blk_drewN ?_ _ | refine blk_drew ?_ | refine blk_alloc ?_ _)); refine blk_put (cs := #[.string (⟨#[]⟩ : ByteArray), .int .u64 0, .int .i64 0, .int .u64 0]) ?_ 0 _ rfl; (with_reducible repeat (first | refine blk_drewN ?_ _ | refine blk_drew ?_ | refine blk_alloc ?_ _)); exact BK135.out) Try.underlying24 rfl (by kernel_rfl)) rfl ?_
    exact ⟨rf_, by repeat (first | (with_reducible first | exact HB.out | apply below_alloc | apply pw_below_drewN | apply below_drew1 | refine below_set ?_ GE135.out) | exact HB.out)⟩
  ·rw [if_neg c5] at H
   exact absurd H (by simp)

end Go.Proofs.Yteijlcnjnooiiaa.P
