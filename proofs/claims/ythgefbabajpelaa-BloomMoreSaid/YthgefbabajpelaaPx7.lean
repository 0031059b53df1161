-- Printed by a program of this session's own (wip/tools/pprint.sh, over the kit's print, with given contracts): not typed by hand.
import Derived.Test.YthgefbabajpelaaPx0
import Derived.Test.YthgefbabajpelaaPx1
namespace Go.Proofs.Ythgefbabajpelaa.P
open Go.RowKit Go.Proofs.YthgefbabajpelaaW.PrintWords Go.Proofs.YthgefbabajpelaaW.PrintLast Go.Proofs.YthgefbabajpelaaW.PrintMore
attribute [local go_sem] max2_int min2_int max_two min_two max_three min_three max_four min_four   -- for this text's walks alone
set_option linter.unusedVariables false
set_option linter.unusedSimpArgs false

/-! ### screelaw10_BloomBits: function 7 -/
mutual
def screelaw10_BloomBits.j0 : Nat → ByteArray → Int → Int → List Int → Bool → Option (Bool)
  | 0, _, _, _, _, _ => none
  | k + 1, x0, x2, x7, x8, x40 => if x40 = true then (none) else (if 0 ≤ x7 then (if (x7 : Int).toNat ≤ 281474976710656 then ((some (List.replicate (x7 : Int).toNat 0 : List Int)).bind fun y205 => (screelaw10_BloomBits.l0 k x0 x2 x7 x8 y205 (y205.length : Int) 0)) else (none)) else (none))
def screelaw10_BloomBits.l0 : Nat → ByteArray → Int → Int → List Int → List Int → Int → Int → Option (Bool)
  | 0, _, _, _, _, _, _, _ => none
  | k + 1, x0, x2, x7, x8, x9, x44, x45 => if x45 < x44 then (if 0 ≤ x45 then (if x45 < (x9.length : Int) then (screelaw10_BloomBits.l0 k x0 x2 x7 x8 (x9.set (x45 : Int).toNat 255) x44 (wrap64 (x45 + 1))) else (none)) else (none)) else (screelaw10_BloomBits.l1 k x0 x2 x7 x8 x9 (x8.length : Int) 0)
def screelaw10_BloomBits.l1 : Nat → ByteArray → Int → Int → List Int → List Int → Int → Int → Option (Bool)
  | 0, _, _, _, _, _, _, _ => none
  | k + 1, x0, x2, x7, x8, x9, x53, x54 => if x54 < x53 then (if 0 ≤ x54 then (if x54 < (x8.length : Int) then (if (rd x8 x54) < 0 then (none) else (if (rd x8 x54) ≥ (wrap64 (8 * x7)) then (none) else (screelaw10_BloomBits.l1 k x0 x2 x7 x8 x9 x53 (wrap64 (x54 + 1))))) else (none)) else (none)) else (if (x8.length : Int) = 0 then (none) else (if 0 ≤ (Int.tmod (wrap64 (x2)) (x8.length : Int)) then (if (Int.tmod (wrap64 (x2)) (x8.length : Int)) < (x8.length : Int) then (if 0 ≤ (wrap64 (Int.tdiv (rd x8 (Int.tmod (wrap64 (x2)) (x8.length : Int))) 8)) then (if (wrap64 (Int.tdiv (rd x8 (Int.tmod (wrap64 (x2)) (x8.length : Int))) 8)) < (x9.length : Int) then (if 0 ≤ (Int.tmod (rd x8 (Int.tmod (wrap64 (x2)) (x8.length : Int))) 8) then ((bloom_May.f k (strOfNums (x9.set ((wrap64 (Int.tdiv (rd x8 (Int.tmod (wrap64 (x2)) (x8.length : Int))) 8)) : Int).toNat (Go.bits .andNot .u8 (rd x9 (wrap64 (Int.tdiv (rd x8 (Int.tmod (wrap64 (x2)) (x8.length : Int))) 8))) (shl .u8 1 (Int.tmod (rd x8 (Int.tmod (wrap64 (x2)) (x8.length : Int))) 8))))) x0).bind fun t214 => (some (!t214))) else (none)) else (none)) else (none)) else (none)) else (none)))
end
def screelaw10_BloomBits.f (k : Nat) (a0 : ByteArray) (a1 : Int) (a2 : Int) : Option (Bool) := (screelaw10_awake.f k).bind fun t195 => (if t195 = true then (if (a0.size : Int) > 300 then (some true) else ((bloom_Bits.f k a0 (wrap64 (8 * (wrap64 ((wrap64 (Int.tmod a1 100)) + 1))))).bind fun t196 => (if (t196.length : Int) = 4 then ((bloom_Bits.f k a0 0).bind fun t199 => (if (t199.length : Int) = 0 then ((bloom_Bits.f k a0 (-1)).bind fun t202 => (screelaw10_BloomBits.j0 k a0 a2 (wrap64 ((wrap64 (Int.tmod a1 100)) + 1)) t196 ((t202.length : Int) != 0))) else (screelaw10_BloomBits.j0 k a0 a2 (wrap64 ((wrap64 (Int.tmod a1 100)) + 1)) t196 true))) else (screelaw10_BloomBits.j0 k a0 a2 (wrap64 ((wrap64 (Int.tmod a1 100)) + 1)) t196 true)))) else (none))
theorem screelaw10_BloomBits.mono_l : ∀ k, (∀ y0 y1 y2 y3 y4, LeO (screelaw10_BloomBits.j0 k y0 y1 y2 y3 y4) (screelaw10_BloomBits.j0 (k + 1) y0 y1 y2 y3 y4)) ∧ (∀ y0 y1 y2 y3 y4 y5 y6, LeO (screelaw10_BloomBits.l0 k y0 y1 y2 y3 y4 y5 y6) (screelaw10_BloomBits.l0 (k + 1) y0 y1 y2 y3 y4 y5 y6)) ∧ (∀ y0 y1 y2 y3 y4 y5 y6, LeO (screelaw10_BloomBits.l1 k y0 y1 y2 y3 y4 y5 y6) (screelaw10_BloomBits.l1 (k + 1) y0 y1 y2 y3 y4 y5 y6))
  | 0 => ⟨fun _ _ _ _ _ r h => by simp [screelaw10_BloomBits.j0] at h, fun _ _ _ _ _ _ _ r h => by simp [screelaw10_BloomBits.l0] at h, fun _ _ _ _ _ _ _ r h => by simp [screelaw10_BloomBits.l1] at h⟩
  | k + 1 => by
    obtain ⟨ih0, ih1, ih2⟩ := screelaw10_BloomBits.mono_l k
    refine ⟨?_, ?_, ?_⟩
    · intro y0 y1 y2 y3 y4
      unfold screelaw10_BloomBits.j0
      repeat' first
      | (with_reducible exact ih0 _ _ _ _ _)
      | (with_reducible exact ih1 _ _ _ _ _ _ _)
      | (with_reducible exact ih2 _ _ _ _ _ _ _)
      | (with_reducible exact bloom_Bits.mono _ _ _)
      | (with_reducible exact bloom_May.mono _ _ _)
      | (with_reducible exact screelaw10_awake.mono _)
      | (with_reducible exact LeO.refl _)
      | (with_reducible exact LeO.none _)
      | (with_reducible refine LeO.ite ?_ ?_)
      | (with_reducible refine LeO.bind ?_ (fun _ => ?_))
      | exact ih0 _ _ _ _ _
      | exact ih1 _ _ _ _ _ _ _
      | exact ih2 _ _ _ _ _ _ _
      | exact bloom_Bits.mono _ _ _
      | exact bloom_May.mono _ _ _
      | exact screelaw10_awake.mono _
      | exact LeO.none _
      | refine LeO.ite ?_ ?_
      | refine LeO.bind ?_ (fun _ => ?_)
    · intro y0 y1 y2 y3 y4 y5 y6
      unfold screelaw10_BloomBits.l0
      repeat' first
      | (with_reducible exact ih0 _ _ _ _ _)
      | (with_reducible exact ih1 _ _ _ _ _ _ _)
      | (with_reducible exact ih2 _ _ _ _ _ _ _)
      | (with_reducible exact bloom_Bits.mono _ _ _)
      | (with_reducible exact bloom_May.mono _ _ _)
      | (with_reducible exact screelaw10_awake.mono _)
      | (with_reducible exact LeO.refl _)
      | (with_reducible exact LeO.none _)
      | (with_reducible refine LeO.ite ?_ ?_)
      | (with_reducible refine LeO.bind ?_ (fun _ => ?_))
      | exact ih0 _ _ _ _ _
      | exact ih1 _ _ _ _ _ _ _
      | exact ih2 _ _ _ _ _ _ _
      | exact bloom_Bits.mono _ _ _
      | exact bloom_May.mono _ _ _
      | exact screelaw10_awake.mono _
      | exact LeO.none _
      | refine LeO.ite ?_ ?_
      | refine LeO.bind ?_ (fun _ => ?_)
    · intro y0 y1 y2 y3 y4 y5 y6
      unfold screelaw10_BloomBits.l1
      repeat' first
      | (with_reducible exact ih0 _ _ _ _ _)
      | (with_reducible exact ih1 _ _ _ _ _ _ _)
      | (with_reducible exact ih2 _ _ _ _ _ _ _)
      | (with_reducible exact bloom_Bits.mono _ _ _)
      | (with_reducible exact bloom_May.mono _ _ _)
      | (with_reducible exact screelaw10_awake.mono _)
      | (with_reducible exact LeO.refl _)
      | (with_reducible exact LeO.none _)
      | (with_reducible refine LeO.ite ?_ ?_)
      | (with_reducible refine LeO.bind ?_ (fun _ => ?_))
      | exact ih0 _ _ _ _ _
      | exact ih1 _ _ _ _ _ _ _
      | exact ih2 _ _ _ _ _ _ _
      | exact bloom_Bits.mono _ _ _
      | exact bloom_May.mono _ _ _
      | exact screelaw10_awake.mono _
      | exact LeO.none _
      | refine LeO.ite ?_ ?_
      | refine LeO.bind ?_ (fun _ => ?_)
theorem screelaw10_BloomBits.mono : ∀ a0 a1 a2 k, LeO (screelaw10_BloomBits.f k a0 a1 a2) (screelaw10_BloomBits.f (k + 1) a0 a1 a2) := by
  intro a0 a1 a2 k
  obtain ⟨ih0, ih1, ih2⟩ := screelaw10_BloomBits.mono_l k
  unfold screelaw10_BloomBits.f
  repeat' first
      | (with_reducible exact ih0 _ _ _ _ _)
      | (with_reducible exact ih1 _ _ _ _ _ _ _)
      | (with_reducible exact ih2 _ _ _ _ _ _ _)
      | (with_reducible exact bloom_Bits.mono _ _ _)
      | (with_reducible exact bloom_May.mono _ _ _)
      | (with_reducible exact screelaw10_awake.mono _)
      | (with_reducible exact LeO.refl _)
      | (with_reducible exact LeO.none _)
      | (with_reducible refine LeO.ite ?_ ?_)
      | (with_reducible refine LeO.bind ?_ (fun _ => ?_))
      | exact ih0 _ _ _ _ _
      | exact ih1 _ _ _ _ _ _ _
      | exact ih2 _ _ _ _ _ _ _
      | exact bloom_Bits.mono _ _ _
      | exact bloom_May.mono _ _ _
      | exact screelaw10_awake.mono _
      | exact LeO.none _
      | refine LeO.ite ?_ ?_
      | refine LeO.bind ?_ (fun _ => ?_)
def screelaw10_BloomBits.T22 : Bool × List (List Nat × List Nat) := (true, [([], []), ([], []), ([1], [1]), ([0, 2], [0, 2]), ([3], [3]), ([], []), ([5], [5]), ([6], [6]), ([4, 7], [4, 7]), ([0, 2, 0, 1, 2, 3, 4, 5, 6, 7, 8], [0, 2]), ([9, 8, 0, 1, 2, 3, 4, 5, 6, 7, 8], [8, 9])])
def screelaw10_BloomBits.B22 : List Nat := [0, 0, 2, 7, 15, 0, 32, 96, 255, 511, 1023]
theorem screelaw10_BloomBits.tab22 : rtab .any (opsOf Try.f7 22) = screelaw10_BloomBits.T22 := by kernel_rfl
theorem screelaw10_BloomBits.bits22 : waitsOk screelaw10_BloomBits.T22.2 screelaw10_BloomBits.B22 = true := by kernel_rfl
set_option maxHeartbeats 8000000 in
set_option maxRecDepth 100000 in
theorem screelaw10_BloomBits.calls (k : Nat) (a0 : ByteArray) (a1 : Int) (a2 : Int) (r : Bool) (w : World) (h : screelaw10_BloomBits.f k a0 a1 a2 = some r) :
    Calls Try.prog 7 #[.string a0, .int .u8 a1, .int .u8 a2] w fun e w' => e = .returned (.bool r) ∧ Below w.heap.size w w' := by
  have HB := Aside0.mk (Below.refl w.heap.size w)
  have H : ((screelaw10_awake.f k).bind fun t195 => (if t195 = true then (if (a0.size : Int) > 300 then (some true) else ((bloom_Bits.f k a0 (wrap64 (8 * (wrap64 ((wrap64 (Int.tmod a1 100)) + 1))))).bind fun t196 => (if (t196.length : Int) = 4 then ((bloom_Bits.f k a0 0).bind fun t199 => (if (t199.length : Int) = 0 then ((bloom_Bits.f k a0 (-1)).bind fun t202 => (screelaw10_BloomBits.j0 k a0 a2 (wrap64 ((wrap64 (Int.tmod a1 100)) + 1)) t196 ((t202.length : Int) != 0))) else (screelaw10_BloomBits.j0 k a0 a2 (wrap64 ((wrap64 (Int.tmod a1 100)) + 1)) t196 true))) else (screelaw10_BloomBits.j0 k a0 a2 (wrap64 ((wrap64 (Int.tmod a1 100)) + 1)) t196 true)))) else (none))) = some r := h
  clear h
  replace H := Option.bind_eq_some_iff.mp H
  obtain ⟨t195, A40, H⟩ := H
  replace H : (if t195 = true then (if (a0.size : Int) > 300 then (some true) else ((bloom_Bits.f k a0 (wrap64 (8 * (wrap64 ((wrap64 (Int.tmod a1 100)) + 1))))).bind fun t196 => (if (t196.length : Int) = 4 then ((bloom_Bits.f k a0 0).bind fun t199 => (if (t199.length : Int) = 0 then ((bloom_Bits.f k a0 (-1)).bind fun t202 => (screelaw10_BloomBits.j0 k a0 a2 (wrap64 ((wrap64 (Int.tmod a1 100)) + 1)) t196 ((t202.length : Int) != 0))) else (screelaw10_BloomBits.j0 k a0 a2 (wrap64 ((wrap64 (Int.tmod a1 100)) + 1)) t196 true))) else (screelaw10_BloomBits.j0 k a0 a2 (wrap64 ((wrap64 (Int.tmod a1 100)) + 1)) t196 true)))) else (none)) = some r := H
  have A4 := Aside0.mk A40
  clear A40
  by_cases c5 : t195 = true
  · subst c5
    have H1 : (if (a0.size : Int) > 300 then (some true) else ((bloom_Bits.f k a0 (wrap64 (8 * (wrap64 ((wrap64 (Int.tmod a1 100)) + 1))))).bind fun t196 => (if (t196.length : Int) = 4 then ((bloom_Bits.f k a0 0).bind fun t199 => (if (t199.length : Int) = 0 then ((bloom_Bits.f k a0 (-1)).bind fun t202 => (screelaw10_BloomBits.j0 k a0 a2 (wrap64 ((wrap64 (Int.tmod a1 100)) + 1)) t196 ((t202.length : Int) != 0))) else (screelaw10_BloomBits.j0 k a0 a2 (wrap64 ((wrap64 (Int.tmod a1 100)) + 1)) t196 true))) else (screelaw10_BloomBits.j0 k a0 a2 (wrap64 ((wrap64 (Int.tmod a1 100)) + 1)) t196 true)))) = some r := by rw [if_pos rfl] at H; exact H
    clear H
    have H := H1
    clear H1
    by_cases c6 : (a0.size : Int) > 300
    · rw [if_pos c6] at H
      have c6b0 : decide (300 < (a0.size : Int)) = true := decide_eq_true c6
      have c6b1 : decide (300 < a0.size) = true := decide_eq_true (by omega)
      clear c6
      obtain rfl := Option.some.inj H
      go_enter Try.func7, Try.ntmps7
      go_wp2_with (first | ((with_reducible refine gate_callee (f := 10) rfl ?_); refine goesL_ (some 13) rfl rfl Try.func10 (by kernel_rfl) rfl #[] rfl (by (try simp only [List.map_toArray, List.map_cons, List.map_nil]); first | done | rfl | (simp only [List.length_drop, List.length_take]; rfl) | (simp (disch := omega) only [IntWalk.u64_in, IntWalk.i64_in, IntWalk.u8_in]; rfl)) ?_; (with_reducible refine (screelaw10_awake.calls k  true _ A4.out).mono ?_); rintro e w7 ⟨rfl, hb⟩; refine ⟨_, rfl, ?_⟩; have n0_ := Aside0.mk (below_step (by repeat (first | (with_reducible first | exact HB.out | apply below_alloc | apply pw_below_drewN | apply below_drew1) | exact HB.out)) hb); clear HB; have HB := n0_; clear n0_; (try clear hb); (try clear hb2); (try clear hk); (try clear hi); (try clear A4)))
      go_ret
      exact ⟨by first | rfl | (simp [errW_none, errW_some] <;> rfl) | (simp (disch := omega) only [← i64_w, IntWalk.i64_in]; rfl) | (simp [*, errW_none, errW_some] <;> rfl), by repeat (first | (with_reducible first | exact HB.out | apply below_alloc | apply pw_below_drewN | apply below_drew1) | exact HB.out)⟩
    · rw [if_neg c6] at H
      have c6b0 : decide (300 < (a0.size : Int)) = false := decide_eq_false c6
      have c6b1 : decide (300 < a0.size) = false := decide_eq_false (by omega)
      clear c6
      replace H := Option.bind_eq_some_iff.mp H
      obtain ⟨t196, A80, H⟩ := H
      replace H : (if (t196.length : Int) = 4 then ((bloom_Bits.f k a0 0).bind fun t199 => (if (t199.length : Int) = 0 then ((bloom_Bits.f k a0 (-1)).bind fun t202 => (screelaw10_BloomBits.j0 k a0 a2 (wrap64 ((wrap64 (Int.tmod a1 100)) + 1)) t196 ((t202.length : Int) != 0))) else (screelaw10_BloomBits.j0 k a0 a2 (wrap64 ((wrap64 (Int.tmod a1 100)) + 1)) t196 true))) else (screelaw10_BloomBits.j0 k a0 a2 (wrap64 ((wrap64 (Int.tmod a1 100)) + 1)) t196 true)) = some r := H
      have A8 := Aside0.mk A80
      clear A80
      have HC9 := Aside0.mk H
      clear H
      go_enter Try.func7, Try.ntmps7
      go_upto_region 7 with (first | ((with_reducible refine gate_callee (f := 10) rfl ?_); refine goesL_ (some 13) rfl rfl Try.func10 (by kernel_rfl) rfl #[] rfl (by (try simp only [List.map_toArray, List.map_cons, List.map_nil]); first | done | rfl | (simp only [List.length_drop, List.length_take]; rfl) | (simp (disch := omega) only [IntWalk.u64_in, IntWalk.i64_in, IntWalk.u8_in]; rfl)) ?_; (with_reducible refine (screelaw10_awake.calls k  true _ A4.out).mono ?_); rintro e w10 ⟨rfl, hb⟩; refine ⟨_, rfl, ?_⟩; have n0_ := Aside0.mk (below_step (by repeat (first | (with_reducible first | exact HB.out | apply below_alloc | apply pw_below_drewN | apply below_drew1) | exact HB.out)) hb); clear HB; have HB := n0_; clear n0_; (try clear hb); (try clear hb2); (try clear hk); (try clear hi); (try clear A4)) | ((with_reducible refine gate_callee (f := 20) rfl ?_); refine goesL_ (some 25) rfl rfl Try.func20 (by kernel_rfl) rfl #[.string a0, .int .i64 (wrap64 (8 * (wrap64 ((wrap64 (Int.tmod a1 100)) + 1))))] rfl (by (try simp only [List.map_toArray, List.map_cons, List.map_nil]); first | done | rfl | (simp only [List.length_drop, List.length_take]; rfl) | (simp (disch := omega) only [IntWalk.u64_in, IntWalk.i64_in, IntWalk.u8_in]; rfl)) ?_; (with_reducible refine (bloom_Bits.calls k a0 (wrap64 (8 * (wrap64 ((wrap64 (Int.tmod a1 100)) + 1)))) t196 _ A8.out).mono ?_); rintro e w11 ⟨v197, rfl, ho0, hb⟩; refine ⟨_, rfl, ?_⟩; have n0_ := Aside0.mk (Kd.R_lower ho0 (below_size (by repeat (first | (with_reducible first | exact HB.out | apply below_alloc | apply pw_below_drewN | apply below_drew1) | exact HB.out)))); have n1_ := Aside0.mk (below_step (by repeat (first | (with_reducible first | exact HB.out | apply below_alloc | apply pw_below_drewN | apply below_drew1) | exact HB.out)) hb); clear HB; have HO198 := n0_; have HB := n1_; clear n0_ n1_; (try clear hb); (try clear hb2); (try clear hk); (try clear hi); (try clear ho0); (try clear A8)))
      (try simp only [Act.put, List.setIfInBounds_toArray, List.set_cons_zero, List.set_cons_succ])
      go_cut [40] (fun v40 wc => ∃ (kq : Nat) (x40_8 : Bool), v40 = .bool x40_8 ∧ Aside0 (screelaw10_BloomBits.j0 kq a0 a2 (wrap64 ((wrap64 (Int.tmod a1 100)) + 1)) t196 x40_8 = some r) ∧ Aside0 (kq ≤ k) ∧ Aside0 (Kd.R (Kd.int .i64) 3 wc w.heap.size (fun _ => True) v197 t196) ∧ Aside0 (Below w.heap.size w wc))
      case first =>
        have H := HC9.out
        clear HC9
        by_cases c12 : (t196.length : Int) = 4
        · rw [if_pos c12] at H
          have c12b0 : ((t196.length : Int) == 4) = true := beq_iff_eq.mpr c12
          have c12b1 : ((t196.length : Int) != 4) = false := bne_eq_false_iff_eq.mpr c12
          clear c12
          (first | rw [c12b0] | (simp only [i64_w, i32_w]; rw [c12b0]) | skip)
          replace H := Option.bind_eq_some_iff.mp H
          obtain ⟨t199, A130, H⟩ := H
          replace H : (if (t199.length : Int) = 0 then ((bloom_Bits.f k a0 (-1)).bind fun t202 => (screelaw10_BloomBits.j0 k a0 a2 (wrap64 ((wrap64 (Int.tmod a1 100)) + 1)) t196 ((t202.length : Int) != 0))) else (screelaw10_BloomBits.j0 k a0 a2 (wrap64 ((wrap64 (Int.tmod a1 100)) + 1)) t196 true)) = some r := H
          have A13 := Aside0.mk A130
          clear A130
          by_cases c14 : (t199.length : Int) = 0
          · rw [if_pos c14] at H
            have c14b0 : ((t199.length : Int) == 0) = true := beq_iff_eq.mpr c14
            have c14b1 : ((t199.length : Int) != 0) = false := bne_eq_false_iff_eq.mpr c14
            clear c14
            replace H := Option.bind_eq_some_iff.mp H
            obtain ⟨t202, A150, H⟩ := H
            replace H : (screelaw10_BloomBits.j0 k a0 a2 (wrap64 ((wrap64 (Int.tmod a1 100)) + 1)) t196 ((t202.length : Int) != 0)) = some r := H
            have A15 := Aside0.mk A150
            clear A150
            have H' := Aside0.mk H
            clear H
            obtain ⟨Ao16, co16, eo16⟩ := Kd.R_slice HO198.out
            subst eo16
            go_wp2_with (first | (go_at_call 20; (with_reducible refine (bloom_Bits.calls k a0 0 t199 _ A13.out).mono ?_); rintro e w17 ⟨v200, rfl, ho0, hb⟩; have n0_ := Aside0.mk (Kd.R_elder' (by (with_reducible repeat (first | apply Kd.R_alloc | apply Kd.R_drewN | apply Kd.R_drew)); exact HO198.out) (Kd.R_base ho0) hb); have n1_ := Aside0.mk (Kd.R_lower (Kd.R_new' ho0 (Kd.R_lt (by (with_reducible repeat (first | apply Kd.R_alloc | apply Kd.R_drewN | apply Kd.R_drew)); exact HO198.out))) (below_size (by repeat (first | (with_reducible first | exact HB.out | apply below_alloc | apply pw_below_drewN | apply below_drew1) | exact HB.out)))); have n2_ := Aside0.mk (below_step (by repeat (first | (with_reducible first | exact HB.out | apply below_alloc | apply pw_below_drewN | apply below_drew1) | exact HB.out)) hb); clear HO198; clear HB; have HO198 := n0_; have HO201 := n1_; have HB := n2_; clear n0_ n1_ n2_; (try clear hb); (try clear hb2); (try clear hk); (try clear hi); (try clear ho0); (try clear A13); obtain ⟨Ao18, co18, eo18⟩ := Kd.R_slice HO201.out; subst eo18) | (go_at_call 20; (with_reducible refine (bloom_Bits.calls k a0 (-1) t202 _ A15.out).mono ?_); rintro e w19 ⟨v203, rfl, ho0, hb⟩; have n0_ := Aside0.mk (Kd.R_elder' (by (with_reducible repeat (first | apply Kd.R_alloc | apply Kd.R_drewN | apply Kd.R_drew)); exact HO198.out) (Kd.R_base ho0) hb); have n1_ := Aside0.mk (Kd.R_elder' (by (with_reducible repeat (first | apply Kd.R_alloc | apply Kd.R_drewN | apply Kd.R_drew)); exact HO201.out) (Kd.R_base ho0) hb); have n2_ := Aside0.mk (Kd.R_lower (Kd.R_new' (Kd.R_new' ho0 (Kd.R_lt (by (with_reducible repeat (first | apply Kd.R_alloc | apply Kd.R_drewN | apply Kd.R_drew)); exact HO198.out))) (Kd.R_lt (by (with_reducible repeat (first | apply Kd.R_alloc | apply Kd.R_drewN | apply Kd.R_drew)); exact HO201.out))) (below_size (by repeat (first | (with_reducible first | exact HB.out | apply below_alloc | apply pw_below_drewN | apply below_drew1) | exact HB.out)))); have n3_ := Aside0.mk (below_step (by repeat (first | (with_reducible first | exact HB.out | apply below_alloc | apply pw_below_drewN | apply below_drew1) | exact HB.out)) hb); clear HO198; clear HO201; clear HB; have HO198 := n0_; have HO201 := n1_; have HO204 := n2_; have HB := n3_; clear n0_ n1_ n2_ n3_; (try clear hb); (try clear hb2); (try clear hk); (try clear hi); (try clear ho0); (try clear A15); obtain ⟨Ao20, co20, eo20⟩ := Kd.R_slice HO204.out; subst eo20))
            go_meet
            case rel => exact ⟨_, (((t202.length : Int) != 0)), (by first | rfl | (simp; done) | (simp [*]; done)), (by first | (with_reducible exact H') | exact H' | (subst_vars; exact H')), ⟨by first | omega | exact Nat.le_refl _⟩, ⟨by (with_reducible repeat (first | apply Kd.R_alloc | apply Kd.R_drewN | apply Kd.R_drew)); exact Kd.R_mono HO198.out (fun _ hk => trivial)⟩, ⟨by repeat (first | (with_reducible first | exact HB.out | apply below_alloc | apply pw_below_drewN | apply below_drew1) | exact HB.out)⟩⟩
          · rw [if_neg c14] at H
            have c14b0 : ((t199.length : Int) == 0) = false := beq_eq_false_iff_ne.mpr c14
            have c14b1 : ((t199.length : Int) != 0) = true := bne_iff_ne.mpr c14
            have c14b2 : ¬ (t199 = []) := fun h_ => c14 (by rw [h_]; rfl)
            have H' := Aside0.mk H
            clear H
            obtain ⟨Ao21, co21, eo21⟩ := Kd.R_slice HO198.out
            subst eo21
            go_wp2_with (first | (go_at_call 20; (with_reducible refine (bloom_Bits.calls k a0 0 t199 _ A13.out).mono ?_); rintro e w22 ⟨v200, rfl, ho0, hb⟩; have n0_ := Aside0.mk (Kd.R_elder' (by (with_reducible repeat (first | apply Kd.R_alloc | apply Kd.R_drewN | apply Kd.R_drew)); exact HO198.out) (Kd.R_base ho0) hb); have n1_ := Aside0.mk (Kd.R_lower (Kd.R_new' ho0 (Kd.R_lt (by (with_reducible repeat (first | apply Kd.R_alloc | apply Kd.R_drewN | apply Kd.R_drew)); exact HO198.out))) (below_size (by repeat (first | (with_reducible first | exact HB.out | apply below_alloc | apply pw_below_drewN | apply below_drew1) | exact HB.out)))); have n2_ := Aside0.mk (below_step (by repeat (first | (with_reducible first | exact HB.out | apply below_alloc | apply pw_below_drewN | apply below_drew1) | exact HB.out)) hb); clear HO198; clear HB; have HO198 := n0_; have HO201 := n1_; have HB := n2_; clear n0_ n1_ n2_; (try clear hb); (try clear hb2); (try clear hk); (try clear hi); (try clear ho0); (try clear A13); obtain ⟨Ao23, co23, eo23⟩ := Kd.R_slice HO201.out; subst eo23))
            go_meet
            case rel => exact ⟨_, (true), (by first | rfl | (simp; done) | (simp [*]; done)), (by first | (with_reducible exact H') | exact H' | (subst_vars; exact H')), ⟨by first | omega | exact Nat.le_refl _⟩, ⟨by (with_reducible repeat (first | apply Kd.R_alloc | apply Kd.R_drewN | apply Kd.R_drew)); exact Kd.R_mono HO198.out (fun _ hk => trivial)⟩, ⟨by repeat (first | (with_reducible first | exact HB.out | apply below_alloc | apply pw_below_drewN | apply below_drew1) | exact HB.out)⟩⟩
        · rw [if_neg c12] at H
          have c12b0 : ((t196.length : Int) == 4) = false := beq_eq_false_iff_ne.mpr c12
          have c12b1 : ((t196.length : Int) != 4) = true := bne_iff_ne.mpr c12
          (first | rw [c12b0] | (simp only [i64_w, i32_w]; rw [c12b0]) | skip)
          have H' := Aside0.mk H
          clear H
          obtain ⟨Ao24, co24, eo24⟩ := Kd.R_slice HO198.out
          subst eo24
          go_wp2
          go_meet
          case rel => exact ⟨_, (true), (by first | rfl | (simp; done) | (simp [*]; done)), (by first | (with_reducible exact H') | exact H' | (subst_vars; exact H')), ⟨by first | omega | exact Nat.le_refl _⟩, ⟨by (with_reducible repeat (first | apply Kd.R_alloc | apply Kd.R_drewN | apply Kd.R_drew)); exact HO198.out⟩, ⟨by repeat (first | (with_reducible first | exact HB.out | apply below_alloc | apply pw_below_drewN | apply below_drew1) | exact HB.out)⟩⟩
      case rest =>
        clear HC9
        try clear c1
        try clear c2
        try clear p2
        try clear c5
        try clear c6
        try clear c6b0
        try clear c6b1
        try clear p6
        try clear c7
        try clear c10
        try clear c12
        try clear c12b0
        try clear c12b1
        try clear c14
        try clear c14b0
        try clear c14b1
        try clear c14b2
        try clear c20
        obtain ⟨kq, x40_8, rfl, HA, HJ8, HO_8, HB⟩ := hcut
        cases kq with
        | zero => exact absurd HA.out (by simp [screelaw10_BloomBits.j0])
        | succ kj8 =>
          have H := HA.out
          clear HA
          simp only [screelaw10_BloomBits.j0] at H
          by_cases c25 : x40_8 = true
          · subst c25
            have H1 : (none) = some r := by rw [if_pos rfl] at H; exact H
            clear H
            have H := H1
            clear H1
            exact absurd H (by simp)
          · replace c25 := Bool.eq_false_iff.mpr c25
            subst c25
            have H1 : (if 0 ≤ (wrap64 ((wrap64 (Int.tmod a1 100)) + 1)) then (if ((wrap64 ((wrap64 (Int.tmod a1 100)) + 1)) : Int).toNat ≤ 281474976710656 then ((some (List.replicate ((wrap64 ((wrap64 (Int.tmod a1 100)) + 1)) : Int).toNat 0 : List Int)).bind fun y205 => (screelaw10_BloomBits.l0 kj8 a0 a2 (wrap64 ((wrap64 (Int.tmod a1 100)) + 1)) t196 y205 (y205.length : Int) 0)) else (none)) else (none)) = some r := by rw [if_neg (show ¬ (false = true) by decide)] at H; exact H
            clear H
            have H := H1
            clear H1
            obtain ⟨ji26, hji26⟩ : ∃ j_ : Int, (wrap64 ((wrap64 (Int.tmod a1 100)) + 1)) = j_ := ⟨_, rfl⟩
            replace H : (if 0 ≤ (ji26) then (if ((ji26) : Int).toNat ≤ 281474976710656 then ((some (List.replicate ((ji26) : Int).toNat 0 : List Int)).bind fun y205 => (screelaw10_BloomBits.l0 kj8 a0 a2 (ji26) t196 y205 (y205.length : Int) 0)) else (none)) else (none)) = some r := by first | (rw [hji26] at H; exact H) | (simp only [hji26] at H ⊢; exact H)
            (try rw [hji26])
            have hji26w : (IntKind.i64.wrap ((wrap64 (Int.tmod a1 100)) + 1)) = ji26 := (i64_w _).trans hji26
            by_cases c27 : 0 ≤ (ji26)
            · rw [if_pos c27] at H
              have c27b0 := eq_true c27
              have c27b1 : decide (0 ≤ (ji26)) = true := decide_eq_true c27
              clear c27
              by_cases c28 : ((ji26) : Int).toNat ≤ 281474976710656
              · rw [if_pos c28] at H
                have c28b0 := eq_true c28
                have c28b1 : decide (((ji26) : Int).toNat ≤ 281474976710656) = true := decide_eq_true c28
                clear c28
                obtain ⟨y205, hy205⟩ : ∃ y_ : List Int, y_ = (List.replicate ((ji26) : Int).toNat 0) := ⟨_, rfl⟩
                replace H : (screelaw10_BloomBits.l0 kj8 a0 a2 (ji26) t196 y205 (y205.length : Int) 0) = some r := by first | (rw [hy205]; with_reducible exact H) | (have H2_ := (Option.bind_some _ _).symm.trans H; rw [hy205]; with_reducible exact H2_) | (have H2_ := (Option.bind_some _ _).symm.trans H; with_reducible exact H2_) | with_reducible exact H | (rw [hy205]; exact H) | exact H
                have Ny205 := Aside0.mk hy205
                clear hy205
                have H' := Aside0.mk H
                clear H
                go_wp2_with (first | ((with_reducible refine gate_dst (N := 42) rfl ?_); (try (refine gate_guard (by rfl) ?_; dsimp only)); refine Kd.R_make (Kd.int .u8) _ 5 rfl (N := 42) rfl 36 _ _ rfl (ji26) rfl rfl Try.underlying36 (.int .u8 0) 1 info5 rfl (by decide) (by omega) 0 (ok := fun _ => True) (okp := fun _ => True) rfl (fun _ hk => hk) trivial (of_decide_eq_true (by first | (with_reducible assumption) | assumption)) (Nat.le_trans (Nat.mul_le_mul_right _ (of_decide_eq_true (by first | (with_reducible assumption) | assumption) : (ji26).toNat ≤ 281474976710656)) (by omega)) (Below.refl _ _) (Nat.le_refl _) ?_; intro v206 w29 ho30 hb hg_ hnew_; clear hg_ hnew_; (first | rw [← Ny205.out] at ho30 | (simp only [Int.reduceToNat] at ho30; rw [← Ny205.out] at ho30)); have n0_ := Aside0.mk (Kd.R_below (by (with_reducible repeat (first | apply Kd.R_alloc | apply Kd.R_drewN | apply Kd.R_drew)); exact HO_8.out) hb); have n1_ := Aside0.mk (Kd.R_lower ho30 (below_size (by repeat (first | (with_reducible first | exact HB.out | apply below_alloc | apply pw_below_drewN | apply below_drew1) | exact HB.out)))); have n2_ := Aside0.mk (below_step (by repeat (first | (with_reducible first | exact HB.out | apply below_alloc | apply pw_below_drewN | apply below_drew1) | exact HB.out)) hb); clear HO_8; clear HB; have HO_8 := n0_; have HO207 := n1_; have HB := n2_; clear n0_ n1_ n2_; clear hb ho30; obtain ⟨Ao31, co31, eo31⟩ := Kd.R_slice HO207.out; subst eo31))
                go_loopg [45] kj8 (fun kq v45 w' => ∃ (x9_2 : List Int) (x45_2 : Int), v45 = .int .i64 x45_2 ∧ Aside0 (screelaw10_BloomBits.l0 kq a0 a2 (ji26) t196 x9_2 (y205.length : Int) x45_2 = some r) ∧ Aside0 (kq ≤ kj8) ∧ Aside0 (Kd.R (Kd.int .i64) 3 w' w.heap.size (fun _ => True) v197 t196) ∧ Aside0 (Kd.R (Kd.int .u8) 5 w' w.heap.size (fun _ => True) (.slice Ao31 y205.length co31) x9_2) ∧ Aside0 (Below w.heap.size w w'))
                case atStart => exact ⟨(y205), (0), (by first | rfl | (simp; done) | (simp [*]; done)), H', ⟨Nat.le_refl _⟩, ⟨by (with_reducible repeat (first | apply Kd.R_alloc | apply Kd.R_drewN | apply Kd.R_drew)); exact HO_8.out⟩, ⟨by (with_reducible repeat (first | apply Kd.R_alloc | apply Kd.R_drewN | apply Kd.R_drew)); exact HO207.out⟩, ⟨by repeat (first | (with_reducible first | exact HB.out | apply below_alloc | apply pw_below_drewN | apply below_drew1) | exact HB.out)⟩⟩
                case round =>
                  clear H'
                  try clear c1
                  try clear c2
                  try clear p2
                  try clear c5
                  try clear c6
                  try clear c6b0
                  try clear c6b1
                  try clear p6
                  try clear c7
                  try clear c10
                  try clear c12
                  try clear c12b0
                  try clear c12b1
                  try clear c14
                  try clear c14b0
                  try clear c14b1
                  try clear c14b2
                  try clear c20
                  try clear c25
                  try clear c27
                  try clear c27b0
                  try clear c27b1
                  try clear c28
                  try clear c28b0
                  try clear c28b1
                  try clear p2
                  try clear p6
                  obtain ⟨x9_2, x45_2, rfl, HA, HK2, HO_8, HO_9, HB⟩ := hrel
                  have hl9_2 := (Kd.R_reads' HO_9.out).1
                  rw [hl9_2] at HO_9
                  (try simp only [hl9_2])
                  (try simp only [hl9_2] at HO_8)
                  cases gk with
                  | zero => exact absurd HA.out (by simp [screelaw10_BloomBits.l0])
                  | succ k2 =>
                    have H := HA.out
                    clear HA
                    simp only [screelaw10_BloomBits.l0] at H
                    by_cases c32 : x45_2 < (y205.length : Int)
                    · rw [if_pos c32] at H
                      have c32b0 : decide (x45_2 < (y205.length : Int)) = true := decide_eq_true c32
                      (try simp only [hl9_2] at c32b0)
                      clear c32
                      by_cases c33 : 0 ≤ x45_2
                      · rw [if_pos c33] at H
                        have c33b0 : decide (0 ≤ x45_2) = true := decide_eq_true c33
                        clear c33
                        by_cases c34 : x45_2 < (x9_2.length : Int)
                        · rw [if_pos c34] at H
                          have c34b0 : decide (x45_2 < (x9_2.length : Int)) = true := decide_eq_true c34
                          (try simp only [hl9_2] at c34b0)
                          clear c34
                          obtain ⟨y208, hy208⟩ : ∃ y_ : List Int, y_ = (x9_2.set (x45_2 : Int).toNat 255) := ⟨_, rfl⟩
                          replace H : (screelaw10_BloomBits.l0 k2 a0 a2 (ji26) t196 y208 (y205.length : Int) (wrap64 (x45_2 + 1))) = some r := by first | (rw [hy208]; with_reducible exact H) | (have H2_ := (Option.bind_some _ _).symm.trans H; rw [hy208]; with_reducible exact H2_) | (have H2_ := (Option.bind_some _ _).symm.trans H; with_reducible exact H2_) | with_reducible exact H | (rw [hy208]; exact H) | exact H
                          have Ny208 := Aside0.mk hy208
                          clear hy208
                          have H' := Aside0.mk H
                          clear H
                          have p35 : 0 ≤ (x45_2 : Int) := of_decide_eq_true (by first | (with_reducible assumption) | assumption)
                          have q35 : (x45_2 : Int) < ((x9_2.length : Int) : Int) := of_decide_eq_true (by first | (with_reducible assumption) | assumption)
                          obtain ⟨go35, co35, eo35, gb35, gl35, cl35, HG35⟩ := Kd.R_form HO_9.out (by omega)
                          (first | cases eo35 | (injection eo35 with ea_ en_ ec_; (first | subst ea_ | (injection ea_ with ea_; subst ea_)); subst ec_; clear en_))
                          have GB35 := Aside0.mk gb35
                          have GG35 := Aside0.mk HG35
                          clear gb35 gl35 HG35
                          obtain ⟨hx35_0, hf35_0⟩ := Kd.R_celln 0 HO_9.out (x45_2 : Int) p35 q35
                          replace p35 := eq_true p35
                          replace q35 := eq_true q35
                          have HP36 := Kd.R_putg HO_9.out (x45_2 : Int) 255
                          go_wp2_with (first | ((with_reducible refine gate_store (t := 5) (p := 50) rfl ?_); refine store_event (t := 5) (p := 50) (v := ?vo_w37) (w1 := (wr.setCell ⟨go35, (x45_2 : Int).toNat, none⟩ (.int .u8 255))) ?hg ?ho ?hn ?hr ?_; (case ho => rfl); (case hg => rfl); (case hn => rfl); (case hr => first | (go_simp; done) | (go_simp; rfl)); intro w37 hw; have hg : wr.grownBy w37 (some go35) := (by rw [hw]; exact HP36.2); have hp_ : Kd.R (Kd.int .u8) 5 w37 w.heap.size (fun _ => True) (.slice (some ⟨go35, 0, none⟩) x9_2.length co31) y208 := (by rw [hw, Ny208.out]; exact HP36.1); clear HP36; have n0_ := Aside0.mk (Kd.R_over' (v := (.slice (some ⟨go35, 0, none⟩) x9_2.length co31)) (by (with_reducible repeat (first | apply Kd.R_alloc | apply Kd.R_drewN | apply Kd.R_drew)); exact HO_8.out) (Kd.R_typed HO_9.out) (by decide) hg); have n1_ := Aside0.mk (hp_); have n2_ := Aside0.mk ((by rw [hw]; exact below_set (HB.out) GB35.out : Below w.heap.size w w37)); clear HO_8; clear HO_9; clear HB; have HO_8 := n0_; have HO_9 := n1_; have HB := n2_; clear n0_ n1_ n2_; clear hg hw hp_))
                          (try simp only [← hl9_2])
                          go_roundg k2
                          case measure => have := HJ8.out; have := HK2.out; omega
                          case rel => exact ⟨(y208), (wrap64 (x45_2 + 1)), (by first | rfl | (simp; done) | (simp [*]; done)), (by first | (with_reducible exact H') | exact H' | (subst_vars; exact H')), ⟨by have := HJ8.out; have := HK2.out; omega⟩, ⟨by (try simp only [hl9_2]); (with_reducible repeat (first | apply Kd.R_alloc | apply Kd.R_drewN | apply Kd.R_drew)); exact HO_8.out⟩, ⟨by (try simp only [hl9_2]); (with_reducible repeat (first | apply Kd.R_alloc | apply Kd.R_drewN | apply Kd.R_drew)); exact HO_9.out⟩, ⟨by repeat (first | (with_reducible first | exact HB.out | apply below_alloc | apply pw_below_drewN | apply below_drew1) | exact HB.out)⟩⟩
                        · rw [if_neg c34] at H
                          exact absurd H (by simp)
                      · rw [if_neg c33] at H
                        exact absurd H (by simp)
                    · rw [if_neg c32] at H
                      have c32b0 : decide (x45_2 < (y205.length : Int)) = false := decide_eq_false c32
                      (try simp only [hl9_2] at c32b0)
                      clear c32
                      have H' := Aside0.mk H
                      clear H
                      obtain ⟨Ao38, co38, eo38⟩ := Kd.R_slice HO_8.out
                      subst eo38
                      go_wp2
                      go_loopg [54] k2 (fun kq v54 w' => ∃ (x54_3 : Int), v54 = .int .i64 x54_3 ∧ Aside0 (screelaw10_BloomBits.l1 kq a0 a2 (ji26) t196 x9_2 (t196.length : Int) x54_3 = some r) ∧ Aside0 (kq ≤ k2) ∧ Aside0 (Kd.R (Kd.int .i64) 3 w' w.heap.size (fun _ => True) (.slice Ao38 t196.length co38) t196) ∧ Aside0 (Kd.R (Kd.int .u8) 5 w' w.heap.size (fun _ => True) (.slice Ao31 x9_2.length co31) x9_2) ∧ Aside0 (Below w.heap.size w w'))
                      case atStart => exact ⟨(0), (by first | rfl | (simp; done) | (simp [*]; done)), H', ⟨Nat.le_refl _⟩, ⟨by (try simp only [hl9_2]); (with_reducible repeat (first | apply Kd.R_alloc | apply Kd.R_drewN | apply Kd.R_drew)); exact HO_8.out⟩, ⟨by (try simp only [hl9_2]); (with_reducible repeat (first | apply Kd.R_alloc | apply Kd.R_drewN | apply Kd.R_drew)); exact HO_9.out⟩, ⟨by repeat (first | (with_reducible first | exact HB.out | apply below_alloc | apply pw_below_drewN | apply below_drew1) | exact HB.out)⟩⟩
                      case round =>
                        clear H'
                        try clear c1
                        try clear c2
                        try clear p2
                        try clear c3
                        try clear p3
                        try clear q3
                        try clear hx3
                        try clear hf3
                        try clear c5
                        try clear c6
                        try clear c6b0
                        try clear c6b1
                        try clear p6
                        try clear c7
                        try clear c10
                        try clear c12
                        try clear c12b0
                        try clear c12b1
                        try clear c14
                        try clear c14b0
                        try clear c14b1
                        try clear c14b2
                        try clear c20
                        try clear c25
                        try clear c27
                        try clear c27b0
                        try clear c27b1
                        try clear c28
                        try clear c28b0
                        try clear c28b1
                        try clear c32
                        try clear c32b0
                        try clear c33
                        try clear c33b0
                        try clear c34
                        try clear c34b0
                        try clear p35
                        try clear q35
                        try clear hx35
                        try clear hf35
                        try clear hx35_0
                        try clear p2
                        try clear p35
                        try clear p6
                        try clear q35
                        obtain ⟨x54_3, rfl, HA, HK3, HO_8, HO_9, HB⟩ := hrel
                        cases gk with
                        | zero => exact absurd HA.out (by simp [screelaw10_BloomBits.l1])
                        | succ k3 =>
                          have H := HA.out
                          clear HA
                          simp only [screelaw10_BloomBits.l1] at H
                          by_cases c39 : x54_3 < (t196.length : Int)
                          · rw [if_pos c39] at H
                            have c39b0 : decide (x54_3 < (t196.length : Int)) = true := decide_eq_true c39
                            (try simp only [hl9_2] at c39b0)
                            clear c39
                            by_cases c40 : 0 ≤ x54_3
                            · rw [if_pos c40] at H
                              have c40b0 : decide (0 ≤ x54_3) = true := decide_eq_true c40
                              clear c40
                              by_cases c41 : x54_3 < (t196.length : Int)
                              · rw [if_pos c41] at H
                                have c41b0 : decide (x54_3 < (t196.length : Int)) = true := decide_eq_true c41
                                (try simp only [hl9_2] at c41b0)
                                clear c41
                                by_cases c42 : (rd t196 x54_3) < 0
                                · rw [if_pos c42] at H
                                  exact absurd H (by simp)
                                · rw [if_neg c42] at H
                                  have c42b0 : decide ((rd t196 x54_3) < 0) = false := decide_eq_false c42
                                  clear c42
                                  by_cases c43 : (rd t196 x54_3) ≥ (wrap64 (8 * (ji26)))
                                  · rw [if_pos c43] at H
                                    exact absurd H (by simp)
                                  · rw [if_neg c43] at H
                                    have c43b0 : decide ((wrap64 (8 * (ji26))) ≤ (rd t196 x54_3)) = false := decide_eq_false c43
                                    clear c43
                                    have H' := Aside0.mk H
                                    clear H
                                    have p209 : 0 ≤ (x54_3 : Int) := of_decide_eq_true (by first | (with_reducible assumption) | assumption)
                                    have q209 : x54_3 < (t196.length : Int) := of_decide_eq_true (by first | (with_reducible assumption) | assumption)
                                    obtain ⟨ad209, e209, hx209_0⟩ := Kd.at_int (Kd.R_reads' HO_8.out).2.2 x54_3 p209 q209
                                    cases e209
                                    replace p209 := eq_true p209
                                    replace q209 := eq_true q209
                                    have p210 : 0 ≤ (x54_3 : Int) := of_decide_eq_true (by first | (with_reducible assumption) | assumption)
                                    have q210 : x54_3 < (t196.length : Int) := of_decide_eq_true (by first | (with_reducible assumption) | assumption)
                                    obtain ⟨ad210, e210, hx210_0⟩ := Kd.at_int (Kd.R_reads' HO_8.out).2.2 x54_3 p210 q210
                                    obtain rfl : ad209 = ad210 := (by injection e210)
                                    replace p210 := eq_true p210
                                    replace q210 := eq_true q210
                                    go_wp2
                                    go_roundg k3
                                    case measure => have := HJ8.out; have := HK2.out; have := HK3.out; omega
                                    case rel => exact ⟨(wrap64 (x54_3 + 1)), (by first | rfl | (simp; done) | (simp [*]; done)), (by first | (with_reducible exact H') | exact H' | (subst_vars; exact H')), ⟨by have := HJ8.out; have := HK2.out; have := HK3.out; omega⟩, ⟨by (try simp only [hl9_2]); (with_reducible repeat (first | apply Kd.R_alloc | apply Kd.R_drewN | apply Kd.R_drew)); exact HO_8.out⟩, ⟨by (try simp only [hl9_2]); (with_reducible repeat (first | apply Kd.R_alloc | apply Kd.R_drewN | apply Kd.R_drew)); exact HO_9.out⟩, ⟨by repeat (first | (with_reducible first | exact HB.out | apply below_alloc | apply pw_below_drewN | apply below_drew1) | exact HB.out)⟩⟩
                              · rw [if_neg c41] at H
                                exact absurd H (by simp)
                            · rw [if_neg c40] at H
                              exact absurd H (by simp)
                          · rw [if_neg c39] at H
                            have c39b0 : decide (x54_3 < (t196.length : Int)) = false := decide_eq_false c39
                            (try simp only [hl9_2] at c39b0)
                            clear c39
                            by_cases c44 : (t196.length : Int) = 0
                            · rw [if_pos c44] at H
                              exact absurd H (by simp)
                            · rw [if_neg c44] at H
                              have c44b0 : ((t196.length : Int) == 0) = false := beq_eq_false_iff_ne.mpr c44
                              (try simp only [hl9_2] at c44b0)
                              have c44b1 : ((t196.length : Int) != 0) = true := bne_iff_ne.mpr c44
                              (try simp only [hl9_2] at c44b1)
                              have c44b2 : ¬ (t196 = []) := fun h_ => c44 (by rw [h_]; rfl)
                              obtain ⟨ji45, hji45⟩ : ∃ j_ : Int, (Int.tmod (wrap64 (a2)) (t196.length : Int)) = j_ := ⟨_, rfl⟩
                              replace H : (if 0 ≤ (ji45) then (if (ji45) < (t196.length : Int) then (if 0 ≤ (wrap64 (Int.tdiv (rd t196 (ji45)) 8)) then (if (wrap64 (Int.tdiv (rd t196 (ji45)) 8)) < (x9_2.length : Int) then (if 0 ≤ (Int.tmod (rd t196 (ji45)) 8) then ((bloom_May.f k3 (strOfNums (x9_2.set ((wrap64 (Int.tdiv (rd t196 (ji45)) 8)) : Int).toNat (Go.bits .andNot .u8 (rd x9_2 (wrap64 (Int.tdiv (rd t196 (ji45)) 8))) (shl .u8 1 (Int.tmod (rd t196 (ji45)) 8))))) a0).bind fun t214 => (some (!t214))) else (none)) else (none)) else (none)) else (none)) else (none)) = some r := by first | (rw [hji45] at H; exact H) | (simp only [hji45] at H ⊢; exact H)
                              (try rw [hji45])
                              by_cases c46 : 0 ≤ (ji45)
                              · rw [if_pos c46] at H
                                have c46b0 : decide (0 ≤ (ji45)) = true := decide_eq_true c46
                                clear c46
                                by_cases c47 : (ji45) < (t196.length : Int)
                                · rw [if_pos c47] at H
                                  have c47b0 : decide ((ji45) < (t196.length : Int)) = true := decide_eq_true c47
                                  (try simp only [hl9_2] at c47b0)
                                  clear c47
                                  obtain ⟨ji48, hji48⟩ : ∃ j_ : Int, (wrap64 (Int.tdiv (rd t196 (ji45)) 8)) = j_ := ⟨_, rfl⟩
                                  replace H : (if 0 ≤ (ji48) then (if (ji48) < (x9_2.length : Int) then (if 0 ≤ (Int.tmod (rd t196 (ji45)) 8) then ((bloom_May.f k3 (strOfNums (x9_2.set ((ji48) : Int).toNat (Go.bits .andNot .u8 (rd x9_2 (ji48)) (shl .u8 1 (Int.tmod (rd t196 (ji45)) 8))))) a0).bind fun t214 => (some (!t214))) else (none)) else (none)) else (none)) = some r := by first | (rw [hji48] at H; exact H) | (simp only [hji48] at H ⊢; exact H)
                                  (try rw [hji48])
                                  have hji48w : (IntKind.i64.wrap (Int.tdiv (rd t196 (ji45)) 8)) = ji48 := (i64_w _).trans hji48
                                  by_cases c49 : 0 ≤ (ji48)
                                  · rw [if_pos c49] at H
                                    have c49b0 : decide (0 ≤ (ji48)) = true := decide_eq_true c49
                                    clear c49
                                    by_cases c50 : (ji48) < (x9_2.length : Int)
                                    · rw [if_pos c50] at H
                                      have c50b0 : decide ((ji48) < (x9_2.length : Int)) = true := decide_eq_true c50
                                      (try simp only [hl9_2] at c50b0)
                                      clear c50
                                      obtain ⟨ji51, hji51⟩ : ∃ j_ : Int, (Int.tmod (rd t196 (ji45)) 8) = j_ := ⟨_, rfl⟩
                                      replace H : (if 0 ≤ (ji51) then ((bloom_May.f k3 (strOfNums (x9_2.set ((ji48) : Int).toNat (Go.bits .andNot .u8 (rd x9_2 (ji48)) (shl .u8 1 (ji51))))) a0).bind fun t214 => (some (!t214))) else (none)) = some r := by first | (rw [hji51] at H; exact H) | (simp only [hji51] at H ⊢; exact H)
                                      (try rw [hji51])
                                      by_cases c52 : 0 ≤ (ji51)
                                      · rw [if_pos c52] at H
                                        have c52b0 := eq_true c52
                                        have c52b1 : decide (0 ≤ (ji51)) = true := decide_eq_true c52
                                        clear c52
                                        obtain ⟨ji53, hji53⟩ : ∃ j_ : Int, (shl .u8 1 (ji51)) = j_ := ⟨_, rfl⟩
                                        replace H : ((bloom_May.f k3 (strOfNums (x9_2.set ((ji48) : Int).toNat (Go.bits .andNot .u8 (rd x9_2 (ji48)) (ji53)))) a0).bind fun t214 => (some (!t214))) = some r := by first | (rw [hji53] at H; exact H) | (simp only [hji53] at H ⊢; exact H)
                                        (try rw [hji53])
                                        have hji53_ : (IntKind.u8.wrap (1 * 2 ^ min (ji51).toNat 8)) = ji53 := hji53
                                        have hji53z : (ji51) ≤ 8 → (IntKind.u8.wrap (1 * 2 ^ (ji51).toNat)) = ji53 := shl_small hji53
                                        have hji53u : (IntKind.u8.wrap (2 ^ min (ji51).toNat 8)) = ji53 := by have h_ := hji53_; rw [Int.one_mul] at h_; exact h_
                                        have hji53v : (ji51) ≤ 8 → (IntKind.u8.wrap (2 ^ (ji51).toNat)) = ji53 := fun hle_ => by have h_ := hji53z hle_; rw [Int.one_mul] at h_; exact h_
                                        obtain ⟨y213, hy213⟩ : ∃ y_ : List Int, y_ = (x9_2.set ((ji48) : Int).toNat (Go.bits .andNot .u8 (rd x9_2 (ji48)) (ji53))) := ⟨_, rfl⟩
                                        replace H : ((bloom_May.f k3 (strOfNums y213) a0).bind fun t214 => (some (!t214))) = some r := by first | (rw [hy213]; with_reducible exact H) | (have H2_ := (Option.bind_some _ _).symm.trans H; rw [hy213]; with_reducible exact H2_) | (have H2_ := (Option.bind_some _ _).symm.trans H; with_reducible exact H2_) | with_reducible exact H | (rw [hy213]; exact H) | exact H
                                        have Ny213 := Aside0.mk hy213
                                        clear hy213
                                        replace H := Option.bind_eq_some_iff.mp H
                                        obtain ⟨t214, A550, H⟩ := H
                                        replace H : (some (!t214)) = some r := H
                                        have A55 := Aside0.mk A550
                                        clear A550
                                        obtain rfl := Option.some.inj H
                                        have p211 : 0 ≤ ((ji45) : Int) := of_decide_eq_true (by first | (with_reducible assumption) | assumption)
                                        have q211 : (ji45) < (t196.length : Int) := of_decide_eq_true (by first | (with_reducible assumption) | assumption)
                                        obtain ⟨ad211, e211, hx211_0⟩ := Kd.at_int (Kd.R_reads' HO_8.out).2.2 (ji45) p211 q211
                                        cases e211
                                        replace p211 := eq_true p211
                                        replace q211 := eq_true q211
                                        try go_wp2
                                        have n0_ := Aside0.mk (Kd.R_drew HO_8.out)
                                        have n1_ := Aside0.mk (Kd.R_drew HO_9.out)
                                        have n2_ := Aside0.mk (below_drew1 HB.out)
                                        clear HO_8
                                        clear HO_9
                                        clear HB
                                        have HO_8 := n0_
                                        have HO_9 := n1_
                                        have HB := n2_
                                        clear n0_ n1_ n2_
                                        have p212 : 0 ≤ ((ji48) : Int) := of_decide_eq_true (by first | (with_reducible assumption) | assumption)
                                        have q212 : (ji48) < (x9_2.length : Int) := of_decide_eq_true (by first | (with_reducible assumption) | assumption)
                                        obtain ⟨ad212, e212, hx212_0⟩ := Kd.at_int (Kd.R_reads' HO_9.out).2.2 (ji48) p212 q212
                                        cases e212
                                        replace p212 := eq_true p212
                                        replace q212 := eq_true q212
                                        have p54 : 0 ≤ ((ji48) : Int) := of_decide_eq_true (by first | (with_reducible assumption) | assumption)
                                        have q54 : ((ji48) : Int) < ((x9_2.length : Int) : Int) := of_decide_eq_true (by first | (with_reducible assumption) | assumption)
                                        obtain ⟨go54, co54, eo54, gb54, gl54, cl54, HG54⟩ := Kd.R_form HO_9.out (by omega)
                                        (first | cases eo54 | (injection eo54 with ea_ en_ ec_; (first | subst ea_ | (injection ea_ with ea_; subst ea_)); subst ec_; clear en_))
                                        have GB54 := Aside0.mk gb54
                                        have GG54 := Aside0.mk HG54
                                        clear gb54 gl54 HG54
                                        (first | simp only [add_plain] at hx212_0 | skip)
                                        obtain ⟨hx54_0, hf54_0⟩ := Kd.R_celln 0 HO_9.out ((ji48) : Int) p54 q54
                                        replace p54 := eq_true p54
                                        replace q54 := eq_true q54
                                        have HP57 := Kd.R_putn HO_9.out ((ji48) : Int) (Go.bits .andNot .u8 (rd x9_2 (ji48)) (ji53))
                                        rw [← Ny213.out] at HP57
                                        have HQ57 := Aside0.mk HP57
                                        clear HP57
                                        refine start_ (n := 11) (S := fun w' => w'.cell? ⟨go54, ((ji48)).toNat, none⟩ = some (.int .u8 (rd x9_2 (ji48)))) (ds := [10]) #[false, false, false, false, false, false, false, false, false, false, false] (by kernel_rfl) rfl rfl (hx212_0) (fun hHeld => ?_); refine with_tabW screelaw10_BloomBits.tab22 screelaw10_BloomBits.bits22 (fun HT_ HW_ => ?_)
                                        generalize wr.drew = w56 at HO_8 HO_9 HB GG54 HQ57 hf54_0 hx212_0 hx54_0 hHeld ⊢
                                        refine pure_ (i := 0) (N := some 80) (v := ?_) (a' := ?_) #[true, false, false, false, false, false, false, false, false, false, false] rfl rfl (any_of HT_.out (by kernel_rfl)) (fun _ _ _ h => h) (Or.inl ⟨by rfl, ?_⟩) ?_ ?_
                                        rotate_left
                                        · intro w'
                                          go_simp
                                          with_reducible rfl
                                        rotate_left
                                        · simp only [Act.put, List.setIfInBounds_toArray, List.set_cons_zero, List.set_cons_succ, i64_w, i32_w]
                                          rfl
                                        refine pure_ (i := 1) (N := some 81) (v := ?_) (a' := ?_) #[true, true, false, false, false, false, false, false, false, false, false] rfl rfl (any_of HT_.out (by kernel_rfl)) (fun _ _ _ h => h) (Or.inl ⟨by rfl, ?_⟩) ?_ ?_
                                        rotate_left
                                        · intro w'
                                          go_simp
                                          with_reducible rfl
                                        rotate_left
                                        · simp only [Act.put, List.setIfInBounds_toArray, List.set_cons_zero, List.set_cons_succ, i64_w, i32_w]
                                          rfl
                                        refine pure_ (i := 2) (N := some 82) (v := ?_) (a' := ?_) #[true, true, true, false, false, false, false, false, false, false, false] rfl rfl (any_of HT_.out (by kernel_rfl)) (fun _ _ _ h => h) (Or.inl ⟨by rfl, ?_⟩) ?_ ?_
                                        rotate_left
                                        · intro w'
                                          go_simp
                                          with_reducible rfl
                                        rotate_left
                                        · simp only [Act.put, List.setIfInBounds_toArray, List.set_cons_zero, List.set_cons_succ, i64_w, i32_w]
                                          rfl
                                        refine pure_ (i := 3) (N := some 83) (v := ?_) (a' := ?_) #[true, true, true, true, false, false, false, false, false, false, false] rfl rfl (any_of HT_.out (by kernel_rfl)) (fun _ _ _ h => h) (Or.inl ⟨by rfl, ?_⟩) ?_ ?_
                                        rotate_left
                                        · intro w'
                                          go_simp
                                          with_reducible rfl
                                        rotate_left
                                        · simp only [Act.put, List.setIfInBounds_toArray, List.set_cons_zero, List.set_cons_succ, i64_w, i32_w]
                                          rfl
                                        refine pure_ (i := 5) (N := some 85) (v := ?_) (a' := ?_) #[true, true, true, true, false, true, false, false, false, false, false] rfl rfl (any_of HT_.out (by kernel_rfl)) (fun _ _ _ h => h) (Or.inl ⟨by rfl, ?_⟩) ?_ ?_
                                        rotate_left
                                        · intro w'
                                          go_simp
                                          with_reducible rfl
                                        rotate_left
                                        · simp only [Act.put, List.setIfInBounds_toArray, List.set_cons_zero, List.set_cons_succ, i64_w, i32_w]
                                          rfl
                                        refine pure_ (i := 6) (N := some 86) (v := ?_) (a' := ?_) #[true, true, true, true, false, true, true, false, false, false, false] rfl rfl (any_of HT_.out (by kernel_rfl)) (fun _ _ _ h => h) (Or.inl ⟨by rfl, ?_⟩) ?_ ?_
                                        rotate_left
                                        · intro w'
                                          go_simp
                                          with_reducible rfl
                                        rotate_left
                                        · simp only [Act.put, List.setIfInBounds_toArray, List.set_cons_zero, List.set_cons_succ, i64_w, i32_w]
                                          rfl
                                        refine pure_ (i := 7) (N := some 87) (v := ?_) (a' := ?_) #[true, true, true, true, false, true, true, true, false, false, false] rfl rfl (any_of HT_.out (by kernel_rfl)) (fun _ _ _ h => h) (Or.inl ⟨by rfl, ?_⟩) ?_ ?_
                                        rotate_left
                                        · intro w'
                                          go_simp
                                          with_reducible rfl
                                        rotate_left
                                        · simp only [Act.put, List.setIfInBounds_toArray, List.set_cons_zero, List.set_cons_succ, i64_w, i32_w]
                                          rfl
                                        refine take_ (i := 4) (N := some 84) (v := ?_) (a' := ?_) #[true, true, true, true, true, true, true, true, false, false, false] rfl rfl (take_ofW HT_.out HW_.out (by kernel_rfl)) (fun _ _ _ h => h) (Or.inl ⟨by rfl, ?_⟩) hHeld ?_ ?_
                                        rotate_left
                                        · intro w' s0
                                          go_simp
                                          with_reducible rfl
                                        rotate_left
                                        · simp only [Act.put, List.setIfInBounds_toArray, List.set_cons_zero, List.set_cons_succ, i64_w, i32_w]
                                          rfl
                                        refine pure_ (i := 8) (N := some 88) (v := ?_) (a' := ?_) #[true, true, true, true, true, true, true, true, true, false, false] rfl rfl (any_of HT_.out (by kernel_rfl)) (fun _ _ _ h => h) (Or.inl ⟨by rfl, ?_⟩) ?_ ?_
                                        rotate_left
                                        · intro w'
                                          go_simp
                                          with_reducible rfl
                                        rotate_left
                                        · simp only [Act.put, List.setIfInBounds_toArray, List.set_cons_zero, List.set_cons_succ, i64_w, i32_w]
                                          rfl
                                        refine pure_ (i := 9) (N := some 89) (v := ?_) (a' := ?_) #[true, true, true, true, true, true, true, true, true, true, false] rfl rfl (any_of HT_.out (by kernel_rfl)) (fun _ _ _ h => h) (Or.inl ⟨by rfl, ?_⟩) ?_ ?_
                                        rotate_left
                                        · intro w'
                                          go_simp
                                          with_reducible rfl
                                        rotate_left
                                        · simp only [Act.put, List.setIfInBounds_toArray, List.set_cons_zero, List.set_cons_succ, i64_w, i32_w]
                                          rfl
                                        refine last_ (i := 10) (N := none) #[true, true, true, true, true, true, true, true, true, true, true] rfl rfl (one_of HT_.out (by kernel_rfl)) (by decide) (fun K hK => ?_)
                                        refine skip_ (w1 := ?_) (by rfl) rfl ?_ ?_
                                        rotate_left
                                        · go_simp
                                          rfl
                                        refine hK.out _ _ ?_
                                        clear hK K
                                        refine done_ (done_of HT_.out (by kernel_rfl)) ?_
                                        (try clear hHeld)
                                        (try clear c27b0); (try clear c27b1); (try clear c27b2); (try clear c27b3); (try clear c27b4); (try clear c27b5); (try clear c27b6); (try clear c28b0); (try clear c28b1); (try clear c28b2); (try clear c28b3); (try clear c28b4); (try clear c28b5); (try clear c28b6); (try clear c52b0); (try clear c52b1); (try clear c52b2); (try clear c52b3); (try clear c52b4); (try clear c52b5); (try clear c52b6)
                                        have hcv58 := own_string (P := Try.prog) Try.underlying36 Try.underlying5 Try.underlying9 (Kd.own_of_R (HQ57.out))
                                        try go_wp2_with (first | ((with_reducible refine gate_callee (f := 16) rfl ?_); refine goesL_ (some 93) rfl rfl Try.func16 (by kernel_rfl) rfl #[.string (strOfNums y213), .string a0] rfl (by (try simp only [List.map_toArray, List.map_cons, List.map_nil]); first | done | rfl | (simp only [List.length_drop, List.length_take]; rfl) | (simp (disch := omega) only [IntWalk.u64_in, IntWalk.i64_in, IntWalk.u8_in]; rfl)) ?_; (with_reducible refine (bloom_May.calls k3 (strOfNums y213) a0 t214 _ A55.out).mono ?_); rintro e w59 ⟨rfl, hb⟩; refine ⟨_, rfl, ?_⟩; have n0_ := Aside0.mk (Kd.R_below (by (with_reducible repeat (first | apply Kd.R_alloc | apply Kd.R_drewN | apply Kd.R_drew)); exact (Kd.R_mono (Kd.R_far (p := ⟨go54, ((ji48) : Int).toNat, none⟩) (Kd.R_types HO_8.out GG54.out (by decide)) (fun _ hk => hk.2) (.int .u8 (Go.bits .andNot .u8 (rd x9_2 (ji48)) (ji53)))) (fun _ h_ => h_.1))) hb); have n1_ := Aside0.mk (Kd.R_below (by (with_reducible repeat (first | apply Kd.R_alloc | apply Kd.R_drewN | apply Kd.R_drew)); exact HQ57.out) hb); have n2_ := Aside0.mk (below_step (by repeat (first | (with_reducible first | exact HB.out | apply below_alloc | apply pw_below_drewN | apply below_drew1 | refine below_set ?_ GB54.out) | exact HB.out)) hb); clear HO_8; clear HO_9; clear HB; have HO_8 := n0_; have HO_9 := n1_; have HB := n2_; clear n0_ n1_ n2_; (try clear hb); (try clear hb2); (try clear hk); (try clear hi); (try clear A55)))
                                        go_ret
                                        exact ⟨by first | rfl | (simp [errW_none, errW_some] <;> rfl) | (simp (disch := omega) only [← i64_w, IntWalk.i64_in]; rfl) | (simp only [← hji26, ← hji45, ← hji48, ← hji51, ← hji53]; first | rfl | (simp [errW_none, errW_some] <;> rfl)) | (simp [*, errW_none, errW_some] <;> rfl), by repeat (first | (with_reducible first | exact HB.out | apply below_alloc | apply pw_below_drewN | apply below_drew1) | exact HB.out)⟩
                                      · rw [if_neg c52] at H
                                        exact absurd H (by simp)
                                    · rw [if_neg c50] at H
                                      exact absurd H (by simp)
                                  · rw [if_neg c49] at H
                                    exact absurd H (by simp)
                                · rw [if_neg c47] at H
                                  exact absurd H (by simp)
                              · rw [if_neg c46] at H
                                exact absurd H (by simp)
              · rw [if_neg c28] at H
                exact absurd H (by simp)
            · rw [if_neg c27] at H
              exact absurd H (by simp)
  · replace c5 := Bool.eq_false_iff.mpr c5
    subst c5
    have H1 : (none) = some r := by rw [if_neg (show ¬ (false = true) by decide)] at H; exact H
    clear H
    have H := H1
    clear H1
    exact absurd H (by simp)

/-- THE ONE PURE STATEMENT of screelaw10_BloomBits: yours. -/
def screelaw10_BloomBits.Pure : Prop := ∀ (a0 : ByteArray) (a1 : Int) (a2 : Int), a0.size ≤ 140737488351232 → (Lit.int .u8 a1).wf = true → (Lit.int .u8 a2).wf = true → ∃ k, screelaw10_BloomBits.f k a0 a1 a2 = some true
theorem screelaw10_BloomBits.walk (P : screelaw10_BloomBits.Pure) (a0 : ByteArray) (a1 : Int) (a2 : Int) (w : World) (w0 : a0.size ≤ 140737488351232) (w1 : (Lit.int .u8 a1).wf = true) (w2 : (Lit.int .u8 a2).wf = true) :
    Calls Try.prog 7 #[.string a0, .int .u8 a1, .int .u8 a2] w fun e w' => e = .returned (.bool true) ∧ Below w.heap.size w w' := by
  obtain ⟨k, h⟩ := P a0 a1 a2 w0 w1 w2
  refine (screelaw10_BloomBits.calls k a0 a1 a2 true w h).mono ?_
  rintro e w' ⟨rfl, hd⟩
  exact ⟨rfl, hd⟩

end Go.Proofs.Ythgefbabajpelaa.P
