-- Printed by a program of this session's own (wip/tools/pprint.sh, over the kit's print, with given contracts): not typed by hand.
import Derived.Test.YtcogolbgfkikfaaPx0
import Derived.Test.YtcogolbgfkikfaaPx4
namespace Go.Proofs.Ytcogolbgfkikfaa.P
open Go.RowKit Go.Proofs.YtcogolbgfkikfaaW.PrintWords Go.Proofs.YtcogolbgfkikfaaW.PrintLast Go.Proofs.YtcogolbgfkikfaaW.PrintMore
attribute [local go_sem] max2_int min2_int max_two min_two max_three min_three max_four min_four   -- for this text's walks alone
set_option linter.unusedVariables false
set_option linter.unusedSimpArgs false

/-! ### block_Count: function 21 -/
def block_Count.f (k : Nat) (a0 : ByteArray) : Option (Int) := if (a0.size : Int) < 8 then (some 0) else (if 0 ≤ (wrap64 ((a0.size : Int) - 8)) then (if (wrap64 ((a0.size : Int) - 8)) ≤ (a0.size : Int) then ((num_Unlong.f k (a0.extract ((wrap64 ((a0.size : Int) - 8)) : Int).toNat a0.size)).bind fun bt119 => (if bt119.1 < 1 then (some 0) else (if bt119.1 > 32 then (some 0) else (some (wrap64 (bt119.1)))))) else (none)) else (none))
theorem block_Count.mono : ∀ a0 k, LeO (block_Count.f k a0) (block_Count.f (k + 1) a0) := by
  intro a0 k
  unfold block_Count.f
  repeat' first
      | (with_reducible exact num_Unlong.mono _ _)
      | (with_reducible exact LeO.refl _)
      | (with_reducible exact LeO.none _)
      | (with_reducible refine LeO.ite ?_ ?_)
      | (with_reducible refine LeO.bind ?_ (fun _ => ?_))
      | exact num_Unlong.mono _ _
      | exact LeO.none _
      | refine LeO.ite ?_ ?_
      | refine LeO.bind ?_ (fun _ => ?_)
set_option maxHeartbeats 8000000 in
set_option maxRecDepth 100000 in
theorem block_Count.calls (k : Nat) (a0 : ByteArray) (r : Int) (w : World) (h : block_Count.f k a0 = some r) :
    Calls Try.prog 21 #[.string a0] w fun e w' => e = .returned (.int .i64 r) ∧ Drawn0 w w' := by
  have H : (if (a0.size : Int) < 8 then (some 0) else (if 0 ≤ (wrap64 ((a0.size : Int) - 8)) then (if (wrap64 ((a0.size : Int) - 8)) ≤ (a0.size : Int) then ((num_Unlong.f k (a0.extract ((wrap64 ((a0.size : Int) - 8)) : Int).toNat a0.size)).bind fun bt119 => (if bt119.1 < 1 then (some 0) else (if bt119.1 > 32 then (some 0) else (some (wrap64 (bt119.1)))))) else (none)) else (none))) = some r := h
  clear h
  by_cases c2 : (a0.size : Int) < 8
  · rw [if_pos c2] at H
    have c2b0 : decide ((a0.size : Int) < 8) = true := decide_eq_true c2
    have c2b1 : decide (a0.size < 8) = true := decide_eq_true (by omega)
    clear c2
    obtain rfl := Option.some.inj H
    go_enter Try.func21, Try.ntmps21
    go_wp2
    go_ret
    exact ⟨by first | rfl | (simp; done) | (simp [*]; done), by repeat (first | exact Drawn0.refl _ | apply Drawn0.step)⟩
  · rw [if_neg c2] at H
    have c2b0 : decide ((a0.size : Int) < 8) = false := decide_eq_false c2
    have c2b1 : decide (a0.size < 8) = false := decide_eq_false (by omega)
    clear c2
    obtain ⟨ji3, hji3⟩ : ∃ j_ : Int, (wrap64 ((a0.size : Int) - 8)) = j_ := ⟨_, rfl⟩
    replace H : (if 0 ≤ (ji3) then (if (ji3) ≤ (a0.size : Int) then ((num_Unlong.f k (a0.extract ((ji3) : Int).toNat a0.size)).bind fun bt119 => (if bt119.1 < 1 then (some 0) else (if bt119.1 > 32 then (some 0) else (some (wrap64 (bt119.1)))))) else (none)) else (none)) = some r := by first | (rw [hji3] at H; exact H) | (simp only [hji3] at H ⊢; exact H)
    (try rw [hji3])
    have hji3w : (IntKind.i64.wrap ((a0.size : Int) - 8)) = ji3 := (i64_w _).trans hji3
    by_cases c4 : 0 ≤ (ji3)
    · rw [if_pos c4] at H
      have c4b0 := eq_true c4
      have c4b1 : decide (0 ≤ (ji3)) = true := decide_eq_true c4
      clear c4
      by_cases c5 : (ji3) ≤ (a0.size : Int)
      · rw [if_pos c5] at H
        have c5b0 := eq_true c5
        have c5b1 : decide ((ji3) ≤ (a0.size : Int)) = true := decide_eq_true c5
        clear c5
        replace H := Option.bind_eq_some_iff.mp H
        obtain ⟨⟨t119, t120⟩, A60, H⟩ := H
        replace H : (if t119 < 1 then (some 0) else (if t119 > 32 then (some 0) else (some (wrap64 (t119))))) = some r := H
        have A6 := Aside0.mk A60
        clear A60
        by_cases c7 : t119 < 1
        · rw [if_pos c7] at H
          have c7b0 : decide (t119 < 1) = true := decide_eq_true c7
          clear c7
          obtain rfl := Option.some.inj H
          go_enter Try.func21, Try.ntmps21
          go_wp2_with (first | ((with_reducible refine gate_callee (f := 43) rfl ?_); refine goesL_ (some 14) rfl rfl Try.func43 (by kernel_rfl) rfl #[.string (a0.extract ((ji3) : Int).toNat a0.size)] rfl (by (try simp only [List.map_toArray, List.map_cons, List.map_nil]); first | done | (simp only [hji3]; rfl) | rfl | (simp only [List.length_drop, List.length_take]; rfl) | (simp (disch := omega) only [IntWalk.u64_in, IntWalk.i64_in, IntWalk.u8_in]; rfl)) ?_; (with_reducible refine (num_Unlong.calls k (a0.extract ((ji3) : Int).toNat a0.size) t119 t120 _ A6.out).mono ?_); rintro e w' ⟨rfl, ⟨nd, rfl⟩⟩; refine ⟨_, rfl, ?_⟩))
          go_ret
          exact ⟨by first | rfl | (simp; done) | (simp only [← hji3] <;> (first | rfl | simp)) | (simp [*]; done), by repeat (first | exact Drawn0.refl _ | apply Drawn0.step)⟩
        · rw [if_neg c7] at H
          have c7b0 : decide (t119 < 1) = false := decide_eq_false c7
          clear c7
          by_cases c8 : t119 > 32
          · rw [if_pos c8] at H
            have c8b0 : decide (32 < t119) = true := decide_eq_true c8
            clear c8
            obtain rfl := Option.some.inj H
            go_enter Try.func21, Try.ntmps21
            go_wp2_with (first | ((with_reducible refine gate_callee (f := 43) rfl ?_); refine goesL_ (some 14) rfl rfl Try.func43 (by kernel_rfl) rfl #[.string (a0.extract ((ji3) : Int).toNat a0.size)] rfl (by (try simp only [List.map_toArray, List.map_cons, List.map_nil]); first | done | (simp only [hji3]; rfl) | rfl | (simp only [List.length_drop, List.length_take]; rfl) | (simp (disch := omega) only [IntWalk.u64_in, IntWalk.i64_in, IntWalk.u8_in]; rfl)) ?_; (with_reducible refine (num_Unlong.calls k (a0.extract ((ji3) : Int).toNat a0.size) t119 t120 _ A6.out).mono ?_); rintro e w' ⟨rfl, ⟨nd, rfl⟩⟩; refine ⟨_, rfl, ?_⟩))
            go_ret
            exact ⟨by first | rfl | (simp; done) | (simp only [← hji3] <;> (first | rfl | simp)) | (simp [*]; done), by repeat (first | exact Drawn0.refl _ | apply Drawn0.step)⟩
          · rw [if_neg c8] at H
            have c8b0 : decide (32 < t119) = false := decide_eq_false c8
            clear c8
            obtain rfl := Option.some.inj H
            go_enter Try.func21, Try.ntmps21
            go_wp2_with (first | ((with_reducible refine gate_callee (f := 43) rfl ?_); refine goesL_ (some 14) rfl rfl Try.func43 (by kernel_rfl) rfl #[.string (a0.extract ((ji3) : Int).toNat a0.size)] rfl (by (try simp only [List.map_toArray, List.map_cons, List.map_nil]); first | done | (simp only [hji3]; rfl) | rfl | (simp only [List.length_drop, List.length_take]; rfl) | (simp (disch := omega) only [IntWalk.u64_in, IntWalk.i64_in, IntWalk.u8_in]; rfl)) ?_; (with_reducible refine (num_Unlong.calls k (a0.extract ((ji3) : Int).toNat a0.size) t119 t120 _ A6.out).mono ?_); rintro e w' ⟨rfl, ⟨nd, rfl⟩⟩; refine ⟨_, rfl, ?_⟩))
            go_ret
            exact ⟨by first | rfl | (simp; done) | (simp only [← hji3] <;> (first | rfl | simp)) | (simp [*]; done), by repeat (first | exact Drawn0.refl _ | apply Drawn0.step)⟩
      · rw [if_neg c5] at H
        exact absurd H (by simp)
    · rw [if_neg c4] at H
      exact absurd H (by simp)

/-! ### num_Take: function 55 -/
mutual
def num_Take.l0 : Nat → ByteArray → Int → Int → Int → Option (Int × ByteArray × Bool)
  | 0, _, _, _, _ => none
  | k + 1, x0, x5, x11, x12 => if x12 < x11 then (if 0 ≤ x12 then (if x12 < (x0.size : Int) then (if (wrap64 (7 * x12)) ≥ 64 then (num_Take.j1 k x0 x5 x12 (IntKind.u64.wrap (bt x0 x12)) (wrap64 (7 * x12)) (Go.bits .andNot .u64 (IntKind.u64.wrap (bt x0 x12)) 128) x11 x12 true) else (if 0 ≤ (wrap64 (7 * x12)) then (num_Take.j1 k x0 x5 x12 (IntKind.u64.wrap (bt x0 x12)) (wrap64 (7 * x12)) (Go.bits .andNot .u64 (IntKind.u64.wrap (bt x0 x12)) 128) x11 x12 ((shr .u64 (shl .u64 (Go.bits .andNot .u64 (IntKind.u64.wrap (bt x0 x12)) 128) (wrap64 (7 * x12))) (wrap64 (7 * x12))) != (Go.bits .andNot .u64 (IntKind.u64.wrap (bt x0 x12)) 128))) else (none))) else (none)) else (none)) else (some (0, (⟨#[]⟩ : ByteArray), false))
def num_Take.j1 : Nat → ByteArray → Int → Int → Int → Int → Int → Int → Int → Bool → Option (Int × ByteArray × Bool)
  | 0, _, _, _, _, _, _, _, _, _ => none
  | k + 1, x0, x5, x6, x7, x8, x9, x11, x12, x33 => if x33 = true then (some (0, (⟨#[]⟩ : ByteArray), false)) else (if 0 ≤ x8 then (if x7 < 128 then (if x7 = 0 then (if x6 > 0 then (some (0, (⟨#[]⟩ : ByteArray), false)) else (if 0 ≤ (wrap64 (x6 + 1)) then (if (wrap64 (x6 + 1)) ≤ (x0.size : Int) then (some (Go.bits .or .u64 x5 (shl .u64 x9 x8), x0.extract ((wrap64 (x6 + 1)) : Int).toNat x0.size, true)) else (none)) else (none))) else (if 0 ≤ (wrap64 (x6 + 1)) then (if (wrap64 (x6 + 1)) ≤ (x0.size : Int) then (some (Go.bits .or .u64 x5 (shl .u64 x9 x8), x0.extract ((wrap64 (x6 + 1)) : Int).toNat x0.size, true)) else (none)) else (none))) else (num_Take.l0 k x0 (Go.bits .or .u64 x5 (shl .u64 x9 x8)) x11 (wrap64 (x12 + 1)))) else (none))
end
def num_Take.f (k : Nat) (a0 : ByteArray) : Option (Int × ByteArray × Bool) := num_Take.l0 k a0 0 (a0.size : Int) 0
theorem num_Take.mono_l : ∀ k, (∀ y0 y1 y2 y3, LeO (num_Take.l0 k y0 y1 y2 y3) (num_Take.l0 (k + 1) y0 y1 y2 y3)) ∧ (∀ y0 y1 y2 y3 y4 y5 y6 y7 y8, LeO (num_Take.j1 k y0 y1 y2 y3 y4 y5 y6 y7 y8) (num_Take.j1 (k + 1) y0 y1 y2 y3 y4 y5 y6 y7 y8))
  | 0 => ⟨fun _ _ _ _ r h => by simp [num_Take.l0] at h, fun _ _ _ _ _ _ _ _ _ r h => by simp [num_Take.j1] at h⟩
  | k + 1 => by
    obtain ⟨ih0, ih1⟩ := num_Take.mono_l k
    refine ⟨?_, ?_⟩
    · intro y0 y1 y2 y3
      unfold num_Take.l0
      repeat' first
      | (with_reducible exact ih0 _ _ _ _)
      | (with_reducible exact ih1 _ _ _ _ _ _ _ _ _)
      | (with_reducible exact LeO.refl _)
      | (with_reducible exact LeO.none _)
      | (with_reducible refine LeO.ite ?_ ?_)
      | (with_reducible refine LeO.bind ?_ (fun _ => ?_))
      | exact ih0 _ _ _ _
      | exact ih1 _ _ _ _ _ _ _ _ _
      | exact LeO.none _
      | refine LeO.ite ?_ ?_
      | refine LeO.bind ?_ (fun _ => ?_)
    · intro y0 y1 y2 y3 y4 y5 y6 y7 y8
      unfold num_Take.j1
      repeat' first
      | (with_reducible exact ih0 _ _ _ _)
      | (with_reducible exact ih1 _ _ _ _ _ _ _ _ _)
      | (with_reducible exact LeO.refl _)
      | (with_reducible exact LeO.none _)
      | (with_reducible refine LeO.ite ?_ ?_)
      | (with_reducible refine LeO.bind ?_ (fun _ => ?_))
      | exact ih0 _ _ _ _
      | exact ih1 _ _ _ _ _ _ _ _ _
      | exact LeO.none _
      | refine LeO.ite ?_ ?_
      | refine LeO.bind ?_ (fun _ => ?_)
theorem num_Take.mono : ∀ a0 k, LeO (num_Take.f k a0) (num_Take.f (k + 1) a0) := by
  intro a0 k
  obtain ⟨ih0, ih1⟩ := num_Take.mono_l k
  unfold num_Take.f
  repeat' first
      | (with_reducible exact ih0 _ _ _ _)
      | (with_reducible exact ih1 _ _ _ _ _ _ _ _ _)
      | (with_reducible exact LeO.refl _)
      | (with_reducible exact LeO.none _)
      | (with_reducible refine LeO.ite ?_ ?_)
      | (with_reducible refine LeO.bind ?_ (fun _ => ?_))
      | exact ih0 _ _ _ _
      | exact ih1 _ _ _ _ _ _ _ _ _
      | exact LeO.none _
      | refine LeO.ite ?_ ?_
      | refine LeO.bind ?_ (fun _ => ?_)
set_option maxHeartbeats 8000000 in
set_option maxRecDepth 100000 in
theorem num_Take.calls (k : Nat) (a0 : ByteArray) (r1 : Int) (r2 : ByteArray) (r3 : Bool) (w : World) (h : num_Take.f k a0 = some (r1, r2, r3)) :
    Calls Try.prog 55 #[.string a0] w fun e w' => e = .returned (.tuple #[.int .u64 r1, .string r2, .bool r3]) ∧ Drawn0 w w' := by
  have H : (num_Take.l0 k a0 0 (a0.size : Int) 0) = some (r1, r2, r3) := h
  clear h
  have H' := Aside0.mk H
  clear H
  go_enter Try.func55, Try.ntmps55
  go_wp2
  repeat (go_quiet (fail); try go_wp2)
  go_loopg [5, 12] k (fun kq v5 v12 w' => ∃ (x5_1 : Int) (x12_1 : Int), v5 = .int .u64 x5_1 ∧ v12 = .int .i64 x12_1 ∧ Aside0 (num_Take.l0 kq a0 x5_1 (a0.size : Int) x12_1 = some (r1, r2, r3)) ∧ Aside0 (kq ≤ k) ∧ Drawn0 w w')
  case atStart => exact ⟨(0), (0), (by first | rfl | (simp; done) | (simp [*]; done)), (by first | rfl | (simp; done) | (simp [*]; done)), H', ⟨Nat.le_refl _⟩, by repeat (first | exact Drawn0.refl _ | apply Drawn0.step)⟩
  case round =>
    clear H'
    obtain ⟨x5_1, x12_1, rfl, rfl, HA, HK1, ⟨m1, rfl⟩⟩ := hrel
    cases gk with
    | zero => exact absurd HA.out (by simp [num_Take.l0])
    | succ k1 =>
      have H := HA.out
      clear HA
      simp only [num_Take.l0] at H
      by_cases c2 : x12_1 < (a0.size : Int)
      · rw [if_pos c2] at H
        have c2b0 : decide (x12_1 < (a0.size : Int)) = true := decide_eq_true c2
        clear c2
        by_cases c3 : 0 ≤ x12_1
        · rw [if_pos c3] at H
          have c3b0 : decide (0 ≤ x12_1) = true := decide_eq_true c3
          clear c3
          by_cases c4 : x12_1 < (a0.size : Int)
          · rw [if_pos c4] at H
            have c4b0 : decide (x12_1 < (a0.size : Int)) = true := decide_eq_true c4
            clear c4
            have HC6 := Aside0.mk H
            clear H
            have p5 : 0 ≤ (x12_1 : Int) := of_decide_eq_true (by first | (with_reducible assumption) | assumption)
            have q5 : x12_1 < (a0.size : Int) := of_decide_eq_true (by first | (with_reducible assumption) | assumption)
            have hx5 := bt_at a0 x12_1
            replace p5 := eq_true p5
            replace q5 := eq_true q5
            go_upto_region 8 with (fail)
            repeat (go_quiet (fail); go_upto_region 8 with (fail))
            go_cut [33] (fun v33 wc => ∃ (kq : Nat) (x33_5 : Bool), v33 = .bool x33_5 ∧ Aside0 (num_Take.j1 kq a0 x5_1 x12_1 (IntKind.u64.wrap (bt a0 x12_1)) (wrap64 (7 * x12_1)) (Go.bits .andNot .u64 (IntKind.u64.wrap (bt a0 x12_1)) 128) (a0.size : Int) x12_1 x33_5 = some (r1, r2, r3)) ∧ Aside0 (kq ≤ k1) ∧ Drawn0 w wc)
            case first =>
              have H := HC6.out
              clear HC6
              by_cases c7 : (wrap64 (7 * x12_1)) ≥ 64
              · rw [if_pos c7] at H
                have c7b0 : decide (64 ≤ (wrap64 (7 * x12_1))) = true := decide_eq_true c7
                clear c7
                (first | rw [c7b0] | (simp only [i64_w, i32_w]; rw [c7b0]) | skip)
                have H' := Aside0.mk H
                clear H
                go_wp2
                repeat (go_quiet (fail); try go_wp2)
                go_meet
                case rel => exact ⟨_, (true), (by first | rfl | (simp; done) | (simp [*]; done)), (by first | (with_reducible exact H') | exact H' | (subst_vars; exact H')), ⟨by have := HK1.out; first | omega | exact Nat.le_refl _⟩, by repeat (first | exact Drawn0.refl _ | apply Drawn0.step)⟩
              · rw [if_neg c7] at H
                have c7b0 : decide (64 ≤ (wrap64 (7 * x12_1))) = false := decide_eq_false c7
                clear c7
                (first | rw [c7b0] | (simp only [i64_w, i32_w]; rw [c7b0]) | skip)
                obtain ⟨ji8, hji8⟩ : ∃ j_ : Int, (wrap64 (7 * x12_1)) = j_ := ⟨_, rfl⟩
                replace H : (if 0 ≤ (ji8) then (num_Take.j1 k1 a0 x5_1 x12_1 (IntKind.u64.wrap (bt a0 x12_1)) ji8 (Go.bits .andNot .u64 (IntKind.u64.wrap (bt a0 x12_1)) 128) (a0.size : Int) x12_1 ((shr .u64 (shl .u64 (Go.bits .andNot .u64 (IntKind.u64.wrap (bt a0 x12_1)) 128) (ji8)) (ji8)) != (Go.bits .andNot .u64 (IntKind.u64.wrap (bt a0 x12_1)) 128))) else (none)) = some (r1, r2, r3) := by first | (rw [hji8] at H; exact H) | (simp only [hji8] at H ⊢; exact H)
                (try rw [hji8] at c7b0)
                have hji8w : (IntKind.i64.wrap (7 * x12_1)) = ji8 := (i64_w _).trans hji8
                by_cases c9 : 0 ≤ (ji8)
                · rw [if_pos c9] at H
                  have c9b0 := eq_true c9
                  have c9b1 : decide (0 ≤ (ji8)) = true := decide_eq_true c9
                  clear c9
                  obtain ⟨ji10, hji10⟩ : ∃ j_ : Int, (shl .u64 (Go.bits .andNot .u64 (IntKind.u64.wrap (bt a0 x12_1)) 128) (ji8)) = j_ := ⟨_, rfl⟩
                  replace H : (num_Take.j1 k1 a0 x5_1 x12_1 (IntKind.u64.wrap (bt a0 x12_1)) ji8 (Go.bits .andNot .u64 (IntKind.u64.wrap (bt a0 x12_1)) 128) (a0.size : Int) x12_1 ((shr .u64 (ji10) (ji8)) != (Go.bits .andNot .u64 (IntKind.u64.wrap (bt a0 x12_1)) 128))) = some (r1, r2, r3) := by first | (rw [hji10] at H; exact H) | (simp only [hji10] at H ⊢; exact H)
                  have hji10_ : (IntKind.u64.wrap ((Go.bits .andNot .u64 (IntKind.u64.wrap (bt a0 x12_1)) 128) * 2 ^ min (ji8).toNat 64)) = ji10 := hji10
                  have hji10z : (ji8) ≤ 64 → (IntKind.u64.wrap ((Go.bits .andNot .u64 (IntKind.u64.wrap (bt a0 x12_1)) 128) * 2 ^ (ji8).toNat)) = ji10 := shl_small hji10
                  have c11b0 := eq_true (of_decide_eq_true (by first | (with_reducible assumption) | assumption) : 0 ≤ (ji8))
                  obtain ⟨ji12, hji12⟩ : ∃ j_ : Int, (shr .u64 (ji10) (ji8)) = j_ := ⟨_, rfl⟩
                  replace H : (num_Take.j1 k1 a0 x5_1 x12_1 (IntKind.u64.wrap (bt a0 x12_1)) ji8 (Go.bits .andNot .u64 (IntKind.u64.wrap (bt a0 x12_1)) 128) (a0.size : Int) x12_1 ((ji12) != (Go.bits .andNot .u64 (IntKind.u64.wrap (bt a0 x12_1)) 128))) = some (r1, r2, r3) := by first | (rw [hji12] at H; exact H) | (simp only [hji12] at H ⊢; exact H)
                  have hji12_ : ((ji10) / 2 ^ min (ji8).toNat 64) = ji12 := hji12
                  have hji12z : (ji8) ≤ 64 → ((ji10) / 2 ^ (ji8).toNat) = ji12 := shr_small hji12
                  have H' := Aside0.mk H
                  clear H
                  go_wp2
                  repeat (go_quiet (fail); try go_wp2)
                  go_meet
                  case rel => exact ⟨_, (((ji12) != (Go.bits .andNot .u64 (IntKind.u64.wrap (bt a0 x12_1)) 128))), (by first | rfl | (simp; done) | (simp only [← hji12] <;> (first | rfl | simp)) | (simp [*]; done)), (by first | (with_reducible exact H') | exact H' | (subst_vars; exact H')), ⟨by have := HK1.out; first | omega | exact Nat.le_refl _⟩, by repeat (first | exact Drawn0.refl _ | apply Drawn0.step)⟩
                · rw [if_neg c9] at H
                  exact absurd H (by simp)
            case rest =>
              clear HC6
              try clear c1
              try clear c2
              try clear c2b0
              try clear p2
              try clear c3
              try clear c3b0
              try clear c4
              try clear c4b0
              try clear c5
              try clear p5
              try clear q5
              try clear hx5
              try clear p6
              try clear c7
              try clear c7b0
              try clear c9
              try clear c9b0
              try clear c9b1
              try clear c11
              try clear c11b0
              try clear p5
              try clear q5
              obtain ⟨kq, x33_5, rfl, HA, HJ5, ⟨mc5, rfl⟩⟩ := hcut
              cases kq with
              | zero => exact absurd HA.out (by simp [num_Take.j1])
              | succ kj5 =>
                have H := HA.out
                clear HA
                simp only [num_Take.j1] at H
                by_cases c13 : x33_5 = true
                · subst c13
                  have H1 : (some (0, (⟨#[]⟩ : ByteArray), false)) = some (r1, r2, r3) := by rw [if_pos rfl] at H; exact H
                  clear H
                  have H := H1
                  clear H1
                  simp only [Option.some.injEq, Prod.mk.injEq] at H
                  obtain ⟨rfl, rfl, rfl⟩ := H
                  go_wp2
                  repeat (go_quiet (fail); try go_wp2)
                  go_ret3
                  exact ⟨by first | rfl | (simp; done) | (simp [*]; done), by repeat (first | exact Drawn0.refl _ | apply Drawn0.step)⟩
                · replace c13 := Bool.eq_false_iff.mpr c13
                  subst c13
                  have H1 : (if 0 ≤ (wrap64 (7 * x12_1)) then (if (IntKind.u64.wrap (bt a0 x12_1)) < 128 then (if (IntKind.u64.wrap (bt a0 x12_1)) = 0 then (if x12_1 > 0 then (some (0, (⟨#[]⟩ : ByteArray), false)) else (if 0 ≤ (wrap64 (x12_1 + 1)) then (if (wrap64 (x12_1 + 1)) ≤ (a0.size : Int) then (some (Go.bits .or .u64 x5_1 (shl .u64 (Go.bits .andNot .u64 (IntKind.u64.wrap (bt a0 x12_1)) 128) (wrap64 (7 * x12_1))), a0.extract ((wrap64 (x12_1 + 1)) : Int).toNat a0.size, true)) else (none)) else (none))) else (if 0 ≤ (wrap64 (x12_1 + 1)) then (if (wrap64 (x12_1 + 1)) ≤ (a0.size : Int) then (some (Go.bits .or .u64 x5_1 (shl .u64 (Go.bits .andNot .u64 (IntKind.u64.wrap (bt a0 x12_1)) 128) (wrap64 (7 * x12_1))), a0.extract ((wrap64 (x12_1 + 1)) : Int).toNat a0.size, true)) else (none)) else (none))) else (num_Take.l0 kj5 a0 (Go.bits .or .u64 x5_1 (shl .u64 (Go.bits .andNot .u64 (IntKind.u64.wrap (bt a0 x12_1)) 128) (wrap64 (7 * x12_1)))) (a0.size : Int) (wrap64 (x12_1 + 1)))) else (none)) = some (r1, r2, r3) := by rw [if_neg (show ¬ (false = true) by decide)] at H; exact H
                  clear H
                  have H := H1
                  clear H1
                  obtain ⟨ji14, hji14⟩ : ∃ j_ : Int, (wrap64 (7 * x12_1)) = j_ := ⟨_, rfl⟩
                  replace H : (if 0 ≤ (ji14) then (if (IntKind.u64.wrap (bt a0 x12_1)) < 128 then (if (IntKind.u64.wrap (bt a0 x12_1)) = 0 then (if x12_1 > 0 then (some (0, (⟨#[]⟩ : ByteArray), false)) else (if 0 ≤ (wrap64 (x12_1 + 1)) then (if (wrap64 (x12_1 + 1)) ≤ (a0.size : Int) then (some (Go.bits .or .u64 x5_1 (shl .u64 (Go.bits .andNot .u64 (IntKind.u64.wrap (bt a0 x12_1)) 128) (ji14)), a0.extract ((wrap64 (x12_1 + 1)) : Int).toNat a0.size, true)) else (none)) else (none))) else (if 0 ≤ (wrap64 (x12_1 + 1)) then (if (wrap64 (x12_1 + 1)) ≤ (a0.size : Int) then (some (Go.bits .or .u64 x5_1 (shl .u64 (Go.bits .andNot .u64 (IntKind.u64.wrap (bt a0 x12_1)) 128) (ji14)), a0.extract ((wrap64 (x12_1 + 1)) : Int).toNat a0.size, true)) else (none)) else (none))) else (num_Take.l0 kj5 a0 (Go.bits .or .u64 x5_1 (shl .u64 (Go.bits .andNot .u64 (IntKind.u64.wrap (bt a0 x12_1)) 128) (ji14))) (a0.size : Int) (wrap64 (x12_1 + 1)))) else (none)) = some (r1, r2, r3) := by first | (rw [hji14] at H; exact H) | (simp only [hji14] at H ⊢; exact H)
                  (try rw [hji14])
                  have hji14w : (IntKind.i64.wrap (7 * x12_1)) = ji14 := (i64_w _).trans hji14
                  by_cases c15 : 0 ≤ (ji14)
                  · rw [if_pos c15] at H
                    have c15b0 := eq_true c15
                    have c15b1 : decide (0 ≤ (ji14)) = true := decide_eq_true c15
                    clear c15
                    obtain ⟨ji16, hji16⟩ : ∃ j_ : Int, (shl .u64 (Go.bits .andNot .u64 (IntKind.u64.wrap (bt a0 x12_1)) 128) (ji14)) = j_ := ⟨_, rfl⟩
                    replace H : (if (IntKind.u64.wrap (bt a0 x12_1)) < 128 then (if (IntKind.u64.wrap (bt a0 x12_1)) = 0 then (if x12_1 > 0 then (some (0, (⟨#[]⟩ : ByteArray), false)) else (if 0 ≤ (wrap64 (x12_1 + 1)) then (if (wrap64 (x12_1 + 1)) ≤ (a0.size : Int) then (some (Go.bits .or .u64 x5_1 (ji16), a0.extract ((wrap64 (x12_1 + 1)) : Int).toNat a0.size, true)) else (none)) else (none))) else (if 0 ≤ (wrap64 (x12_1 + 1)) then (if (wrap64 (x12_1 + 1)) ≤ (a0.size : Int) then (some (Go.bits .or .u64 x5_1 (ji16), a0.extract ((wrap64 (x12_1 + 1)) : Int).toNat a0.size, true)) else (none)) else (none))) else (num_Take.l0 kj5 a0 (Go.bits .or .u64 x5_1 (ji16)) (a0.size : Int) (wrap64 (x12_1 + 1)))) = some (r1, r2, r3) := by first | (rw [hji16] at H; exact H) | (simp only [hji16] at H ⊢; exact H)
                    (try rw [hji16])
                    have hji16_ : (IntKind.u64.wrap ((Go.bits .andNot .u64 (IntKind.u64.wrap (bt a0 x12_1)) 128) * 2 ^ min (ji14).toNat 64)) = ji16 := hji16
                    have hji16z : (ji14) ≤ 64 → (IntKind.u64.wrap ((Go.bits .andNot .u64 (IntKind.u64.wrap (bt a0 x12_1)) 128) * 2 ^ (ji14).toNat)) = ji16 := shl_small hji16
                    by_cases c17 : (IntKind.u64.wrap (bt a0 x12_1)) < 128
                    · rw [if_pos c17] at H
                      have c17b0 : decide ((IntKind.u64.wrap (bt a0 x12_1)) < 128) = true := decide_eq_true c17
                      clear c17
                      by_cases c18 : (IntKind.u64.wrap (bt a0 x12_1)) = 0
                      · rw [if_pos c18] at H
                        have c18b0 : ((IntKind.u64.wrap (bt a0 x12_1)) == 0) = true := beq_iff_eq.mpr c18
                        have c18b1 : ((IntKind.u64.wrap (bt a0 x12_1)) != 0) = false := bne_eq_false_iff_eq.mpr c18
                        clear c18
                        by_cases c19 : x12_1 > 0
                        · rw [if_pos c19] at H
                          have c19b0 : decide (0 < x12_1) = true := decide_eq_true c19
                          clear c19
                          simp only [Option.some.injEq, Prod.mk.injEq] at H
                          obtain ⟨rfl, rfl, rfl⟩ := H
                          go_wp2
                          repeat (go_quiet (fail); try go_wp2)
                          go_ret3
                          exact ⟨by first | rfl | (simp; done) | (simp only [← hji14, ← hji16] <;> (first | rfl | simp)) | (simp [*]; done), by repeat (first | exact Drawn0.refl _ | apply Drawn0.step)⟩
                        · rw [if_neg c19] at H
                          have c19b0 : decide (0 < x12_1) = false := decide_eq_false c19
                          clear c19
                          obtain ⟨ji20, hji20⟩ : ∃ j_ : Int, (wrap64 (x12_1 + 1)) = j_ := ⟨_, rfl⟩
                          replace H : (if 0 ≤ (ji20) then (if (ji20) ≤ (a0.size : Int) then (some (Go.bits .or .u64 x5_1 (ji16), a0.extract ((ji20) : Int).toNat a0.size, true)) else (none)) else (none)) = some (r1, r2, r3) := by first | (rw [hji20] at H; exact H) | (simp only [hji20] at H ⊢; exact H)
                          (try rw [hji20])
                          have hji20w : (IntKind.i64.wrap (x12_1 + 1)) = ji20 := (i64_w _).trans hji20
                          by_cases c21 : 0 ≤ (ji20)
                          · rw [if_pos c21] at H
                            have c21b0 := eq_true c21
                            have c21b1 : decide (0 ≤ (ji20)) = true := decide_eq_true c21
                            clear c21
                            by_cases c22 : (ji20) ≤ (a0.size : Int)
                            · rw [if_pos c22] at H
                              have c22b0 := eq_true c22
                              have c22b1 : decide ((ji20) ≤ (a0.size : Int)) = true := decide_eq_true c22
                              clear c22
                              simp only [Option.some.injEq, Prod.mk.injEq] at H
                              obtain ⟨rfl, rfl, rfl⟩ := H
                              go_wp2
                              repeat (go_quiet (fail); try go_wp2)
                              go_ret3
                              exact ⟨by first | rfl | (simp; done) | (simp only [← hji14, ← hji16, ← hji20] <;> (first | rfl | simp)) | (simp [*]; done), by repeat (first | exact Drawn0.refl _ | apply Drawn0.step)⟩
                            · rw [if_neg c22] at H
                              exact absurd H (by simp)
                          · rw [if_neg c21] at H
                            exact absurd H (by simp)
                      · rw [if_neg c18] at H
                        have c18b0 : ((IntKind.u64.wrap (bt a0 x12_1)) == 0) = false := beq_eq_false_iff_ne.mpr c18
                        have c18b1 : ((IntKind.u64.wrap (bt a0 x12_1)) != 0) = true := bne_iff_ne.mpr c18
                        obtain ⟨ji23, hji23⟩ : ∃ j_ : Int, (wrap64 (x12_1 + 1)) = j_ := ⟨_, rfl⟩
                        replace H : (if 0 ≤ (ji23) then (if (ji23) ≤ (a0.size : Int) then (some (Go.bits .or .u64 x5_1 (ji16), a0.extract ((ji23) : Int).toNat a0.size, true)) else (none)) else (none)) = some (r1, r2, r3) := by first | (rw [hji23] at H; exact H) | (simp only [hji23] at H ⊢; exact H)
                        (try rw [hji23])
                        have hji23w : (IntKind.i64.wrap (x12_1 + 1)) = ji23 := (i64_w _).trans hji23
                        by_cases c24 : 0 ≤ (ji23)
                        · rw [if_pos c24] at H
                          have c24b0 := eq_true c24
                          have c24b1 : decide (0 ≤ (ji23)) = true := decide_eq_true c24
                          clear c24
                          by_cases c25 : (ji23) ≤ (a0.size : Int)
                          · rw [if_pos c25] at H
                            have c25b0 := eq_true c25
                            have c25b1 : decide ((ji23) ≤ (a0.size : Int)) = true := decide_eq_true c25
                            clear c25
                            simp only [Option.some.injEq, Prod.mk.injEq] at H
                            obtain ⟨rfl, rfl, rfl⟩ := H
                            go_wp2
                            repeat (go_quiet (fail); try go_wp2)
                            go_ret3
                            exact ⟨by first | rfl | (simp; done) | (simp only [← hji14, ← hji16, ← hji23] <;> (first | rfl | simp)) | (simp [*]; done), by repeat (first | exact Drawn0.refl _ | apply Drawn0.step)⟩
                          · rw [if_neg c25] at H
                            exact absurd H (by simp)
                        · rw [if_neg c24] at H
                          exact absurd H (by simp)
                    · rw [if_neg c17] at H
                      have c17b0 : decide ((IntKind.u64.wrap (bt a0 x12_1)) < 128) = false := decide_eq_false c17
                      clear c17
                      have H' := Aside0.mk H
                      clear H
                      go_wp2
                      repeat (go_quiet (fail); try go_wp2)
                      go_roundg kj5
                      case measure => have := HK1.out; have := HJ5.out; omega
                      case rel => exact ⟨(Go.bits .or .u64 x5_1 (ji16)), (wrap64 (x12_1 + 1)), (by first | rfl | (simp; done) | (simp only [← hji16] <;> (first | rfl | simp)) | (simp [*]; done)), (by first | rfl | (simp; done) | (simp [*]; done)), (by first | (with_reducible exact H') | exact H' | (subst_vars; exact H')), ⟨by have := HK1.out; have := HJ5.out; omega⟩, by repeat (first | exact Drawn0.refl _ | apply Drawn0.step)⟩
                  · rw [if_neg c15] at H
                    exact absurd H (by simp)
          · rw [if_neg c4] at H
            exact absurd H (by simp)
        · rw [if_neg c3] at H
          exact absurd H (by simp)
      · rw [if_neg c2] at H
        have c2b0 : decide (x12_1 < (a0.size : Int)) = false := decide_eq_false c2
        clear c2
        simp only [Option.some.injEq, Prod.mk.injEq] at H
        obtain ⟨rfl, rfl, rfl⟩ := H
        go_wp2
        repeat (go_quiet (fail); try go_wp2)
        go_ret3
        exact ⟨by first | rfl | (simp; done) | (simp [*]; done), by repeat (first | exact Drawn0.refl _ | apply Drawn0.step)⟩

-- NOT PRINTED: function 50 (block_cursor_number)

-- NOT PRINTED: function 51 (block_cursor_text)

-- NOT PRINTED: function 36 (block_reader_next)

end Go.Proofs.Ytcogolbgfkikfaa.P
