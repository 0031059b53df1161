-- Printed by a program of this session's own (wip/tools/pprint.sh, over the kit's print, with given contracts): not typed by hand.
import Derived.Test.YtfgelbkhjiajfaaPx0
import Derived.Test.YtfgelbkhjiajfaaPx1
import Derived.Test.YtfgelbkhjiajfaaPx3
import Derived.Test.YtfgelbkhjiajfaaPx4
import Derived.Test.YtfgelbkhjiajfaaPx5
import Derived.Test.YtfgelbkhjiajfaaPx6
import Derived.Test.YtfgelbkhjiajfaaPx7
namespace Go.Proofs.Ytfgelbkhjiajfaa.P
open Go.RowKit Go.Proofs.YtfgelbkhjiajfaaW.PrintWords Go.Proofs.YtfgelbkhjiajfaaW.PrintLast Go.Proofs.YtfgelbkhjiajfaaW.PrintMore
attribute [local go_sem] max2_int min2_int max_two min_two max_three min_three max_four min_four   -- for this text's walks alone
set_option linter.unusedVariables false
set_option linter.unusedSimpArgs false

attribute [local go_sem high] eqA32
/-! ### screelaw05_BatchWrites: function 3 -/
mutual
def screelaw05_BatchWrites.j0 : Nat → List (S34) → List (S34) → List (S32) → List (S32) → Bool → Option (Bool)
  | 0, _, _, _, _, _ => none
  | k + 1, x1, x5, x10, x11, x60 => if x60 = true then (none) else (screelaw05_BatchWrites.l0 k x1 x5 x10 x11 0 (x10.length : Int) 0)
def screelaw05_BatchWrites.l0 : Nat → List (S34) → List (S34) → List (S32) → List (S32) → Int → Int → Int → Option (Bool)
  | 0, _, _, _, _, _, _, _ => none
  | k + 1, x1, x5, x10, x11, x12, x62, x63 => if x63 < x62 then (if 0 ≤ x63 then (if x63 < (x10.length : Int) then (if x63 < (x11.length : Int) then (if (!((((rd_T32 x10 x63).f0).toList) == (((rd_T32 x11 x63).f0).toList)) || (!(((rd_T32 x10 x63).f1) == ((rd_T32 x11 x63).f1)) || (!(((rd_T32 x10 x63).f2) == ((rd_T32 x11 x63).f2)) || (!((((rd_T32 x10 x63).f3).toList) == (((rd_T32 x11 x63).f3).toList)))))) = true then (none) else (if x63 < (x1.length : Int) then (screelaw05_BatchWrites.l0 k x1 x5 x10 x11 (wrap64 (x12 + (wrap64 ((((rd_T34 x1 x63).f1).size : Int) + (((rd_T34 x1 x63).f2).size : Int))))) x62 (wrap64 (x63 + 1))) else (none))) else (none)) else (none)) else (none)) else ((batch_Size.f k x5).bind fun t205 => (if t205 = x12 then ((screeref05_Same.f k x5 x1).bind fun t206 => (some t206)) else (none)))
end
def screelaw05_BatchWrites.f (k : Nat) (a0 : Int) (l1 : List (S34)) : Option (Bool) := (screelaw05_awake.f k).bind fun t181 => (if t181 = true then ((screelaw05_large.f k l1).bind fun t182 => (if t182 = true then (some true) else ((some (([] : List (S34)) : List (S34))).bind fun y183 => (if y183.length + l1.length < 3518437208883 then ((some (y183 ++ l1 : List (S34))).bind fun y186 => ((batch_Encode.f k a0 y186).bind fun bt189 => ((screeref05_Encode.f k a0 l1).bind fun bt191 => ((batch_Entries.f k a0 y186).bind fun t193 => ((screeref05_Entries.f k a0 l1).bind fun t196 => (if bt189.1.toList = bt191.1.toList then (if bt189.2 = bt191.2 then ((batch_May.f y186).bind fun t199 => ((screeref05_May.f k l1).bind fun t200 => (if (t199 != t200) = true then (screelaw05_BatchWrites.j0 k l1 y186 t193 t196 true) else (screelaw05_BatchWrites.j0 k l1 y186 t193 t196 ((t193.length : Int) != (t196.length : Int)))))) else (screelaw05_BatchWrites.j0 k l1 y186 t193 t196 true)) else (screelaw05_BatchWrites.j0 k l1 y186 t193 t196 true))))))) else (none))))) else (none))
theorem screelaw05_BatchWrites.mono_l : ∀ k, (∀ y0 y1 y2 y3 y4, LeO (screelaw05_BatchWrites.j0 k y0 y1 y2 y3 y4) (screelaw05_BatchWrites.j0 (k + 1) y0 y1 y2 y3 y4)) ∧ (∀ y0 y1 y2 y3 y4 y5 y6, LeO (screelaw05_BatchWrites.l0 k y0 y1 y2 y3 y4 y5 y6) (screelaw05_BatchWrites.l0 (k + 1) y0 y1 y2 y3 y4 y5 y6))
  | 0 => ⟨fun _ _ _ _ _ r h => by simp [screelaw05_BatchWrites.j0] at h, fun _ _ _ _ _ _ _ r h => by simp [screelaw05_BatchWrites.l0] at h⟩
  | k + 1 => by
    obtain ⟨ih0, ih1⟩ := screelaw05_BatchWrites.mono_l k
    refine ⟨?_, ?_⟩
    · intro y0 y1 y2 y3 y4
      unfold screelaw05_BatchWrites.j0
      repeat' first
      | (with_reducible exact ih0 _ _ _ _ _)
      | (with_reducible exact ih1 _ _ _ _ _ _ _)
      | (with_reducible exact batch_Encode.mono _ _ _)
      | (with_reducible exact batch_Entries.mono _ _ _)
      | (with_reducible exact batch_Size.mono _ _)
      | (with_reducible exact screelaw05_awake.mono _)
      | (with_reducible exact screelaw05_large.mono _ _)
      | (with_reducible exact screeref05_Encode.mono _ _ _)
      | (with_reducible exact screeref05_Entries.mono _ _ _)
      | (with_reducible exact screeref05_May.mono _ _)
      | (with_reducible exact screeref05_Same.mono _ _ _)
      | (with_reducible exact LeO.refl _)
      | (with_reducible exact LeO.none _)
      | (with_reducible refine LeO.ite ?_ ?_)
      | (with_reducible refine LeO.bind ?_ (fun _ => ?_))
      | exact ih0 _ _ _ _ _
      | exact ih1 _ _ _ _ _ _ _
      | exact batch_Encode.mono _ _ _
      | exact batch_Entries.mono _ _ _
      | exact batch_Size.mono _ _
      | exact screelaw05_awake.mono _
      | exact screelaw05_large.mono _ _
      | exact screeref05_Encode.mono _ _ _
      | exact screeref05_Entries.mono _ _ _
      | exact screeref05_May.mono _ _
      | exact screeref05_Same.mono _ _ _
      | exact LeO.none _
      | refine LeO.ite ?_ ?_
      | refine LeO.bind ?_ (fun _ => ?_)
    · intro y0 y1 y2 y3 y4 y5 y6
      unfold screelaw05_BatchWrites.l0
      repeat' first
      | (with_reducible exact ih0 _ _ _ _ _)
      | (with_reducible exact ih1 _ _ _ _ _ _ _)
      | (with_reducible exact batch_Encode.mono _ _ _)
      | (with_reducible exact batch_Entries.mono _ _ _)
      | (with_reducible exact batch_Size.mono _ _)
      | (with_reducible exact screelaw05_awake.mono _)
      | (with_reducible exact screelaw05_large.mono _ _)
      | (with_reducible exact screeref05_Encode.mono _ _ _)
      | (with_reducible exact screeref05_Entries.mono _ _ _)
      | (with_reducible exact screeref05_May.mono _ _)
      | (with_reducible exact screeref05_Same.mono _ _ _)
      | (with_reducible exact LeO.refl _)
      | (with_reducible exact LeO.none _)
      | (with_reducible refine LeO.ite ?_ ?_)
      | (with_reducible refine LeO.bind ?_ (fun _ => ?_))
      | exact ih0 _ _ _ _ _
      | exact ih1 _ _ _ _ _ _ _
      | exact batch_Encode.mono _ _ _
      | exact batch_Entries.mono _ _ _
      | exact batch_Size.mono _ _
      | exact screelaw05_awake.mono _
      | exact screelaw05_large.mono _ _
      | exact screeref05_Encode.mono _ _ _
      | exact screeref05_Entries.mono _ _ _
      | exact screeref05_May.mono _ _
      | exact screeref05_Same.mono _ _ _
      | exact LeO.none _
      | refine LeO.ite ?_ ?_
      | refine LeO.bind ?_ (fun _ => ?_)
theorem screelaw05_BatchWrites.mono : ∀ a0 a1 k, LeO (screelaw05_BatchWrites.f k a0 a1) (screelaw05_BatchWrites.f (k + 1) a0 a1) := by
  intro a0 a1 k
  obtain ⟨ih0, ih1⟩ := screelaw05_BatchWrites.mono_l k
  unfold screelaw05_BatchWrites.f
  repeat' first
      | (with_reducible exact ih0 _ _ _ _ _)
      | (with_reducible exact ih1 _ _ _ _ _ _ _)
      | (with_reducible exact batch_Encode.mono _ _ _)
      | (with_reducible exact batch_Entries.mono _ _ _)
      | (with_reducible exact batch_Size.mono _ _)
      | (with_reducible exact screelaw05_awake.mono _)
      | (with_reducible exact screelaw05_large.mono _ _)
      | (with_reducible exact screeref05_Encode.mono _ _ _)
      | (with_reducible exact screeref05_Entries.mono _ _ _)
      | (with_reducible exact screeref05_May.mono _ _)
      | (with_reducible exact screeref05_Same.mono _ _ _)
      | (with_reducible exact LeO.refl _)
      | (with_reducible exact LeO.none _)
      | (with_reducible refine LeO.ite ?_ ?_)
      | (with_reducible refine LeO.bind ?_ (fun _ => ?_))
      | exact ih0 _ _ _ _ _
      | exact ih1 _ _ _ _ _ _ _
      | exact batch_Encode.mono _ _ _
      | exact batch_Entries.mono _ _ _
      | exact batch_Size.mono _ _
      | exact screelaw05_awake.mono _
      | exact screelaw05_large.mono _ _
      | exact screeref05_Encode.mono _ _ _
      | exact screeref05_Entries.mono _ _ _
      | exact screeref05_May.mono _ _
      | exact screeref05_Same.mono _ _ _
      | exact LeO.none _
      | refine LeO.ite ?_ ?_
      | refine LeO.bind ?_ (fun _ => ?_)
set_option maxHeartbeats 8000000 in
set_option maxRecDepth 100000 in
theorem screelaw05_BatchWrites.calls (k : Nat) (a0 : Int) (A1 : Option Addr) (c1 : Nat) (l1 : List (S34)) (r : Bool) (w : World) (hr1 : Kd.C k34 w A1 l1.length l1) (hc1 : l1.length ≤ c1) (h : screelaw05_BatchWrites.f k a0 l1 = some r) :
    Calls Try.prog 3 #[.int .u64 a0, .slice A1 l1.length c1] w fun e w' => e = .returned (.bool r) ∧ Below w.heap.size w w' := by
  have hu32 := Try.underlying32
  have HR1 := Aside0.mk hr1
  have HC1 := Aside0.mk hc1
  clear hr1 hc1
  have HB := Aside0.mk (Below.refl w.heap.size w)
  have H : ((screelaw05_awake.f k).bind fun t181 => (if t181 = true then ((screelaw05_large.f k l1).bind fun t182 => (if t182 = true then (some true) else ((some (([] : List (S34)) : List (S34))).bind fun y183 => (if y183.length + l1.length < 3518437208883 then ((some (y183 ++ l1 : List (S34))).bind fun y186 => ((batch_Encode.f k a0 y186).bind fun bt189 => ((screeref05_Encode.f k a0 l1).bind fun bt191 => ((batch_Entries.f k a0 y186).bind fun t193 => ((screeref05_Entries.f k a0 l1).bind fun t196 => (if bt189.1.toList = bt191.1.toList then (if bt189.2 = bt191.2 then ((batch_May.f y186).bind fun t199 => ((screeref05_May.f k l1).bind fun t200 => (if (t199 != t200) = true then (screelaw05_BatchWrites.j0 k l1 y186 t193 t196 true) else (screelaw05_BatchWrites.j0 k l1 y186 t193 t196 ((t193.length : Int) != (t196.length : Int)))))) else (screelaw05_BatchWrites.j0 k l1 y186 t193 t196 true)) else (screelaw05_BatchWrites.j0 k l1 y186 t193 t196 true))))))) else (none))))) else (none))) = some r := h
  clear h
  replace H := Option.bind_eq_some_iff.mp H
  obtain ⟨t181, A30, H⟩ := H
  replace H : (if t181 = true then ((screelaw05_large.f k l1).bind fun t182 => (if t182 = true then (some true) else ((some (([] : List (S34)) : List (S34))).bind fun y183 => (if y183.length + l1.length < 3518437208883 then ((some (y183 ++ l1 : List (S34))).bind fun y186 => ((batch_Encode.f k a0 y186).bind fun bt189 => ((screeref05_Encode.f k a0 l1).bind fun bt191 => ((batch_Entries.f k a0 y186).bind fun t193 => ((screeref05_Entries.f k a0 l1).bind fun t196 => (if bt189.1.toList = bt191.1.toList then (if bt189.2 = bt191.2 then ((batch_May.f y186).bind fun t199 => ((screeref05_May.f k l1).bind fun t200 => (if (t199 != t200) = true then (screelaw05_BatchWrites.j0 k l1 y186 t193 t196 true) else (screelaw05_BatchWrites.j0 k l1 y186 t193 t196 ((t193.length : Int) != (t196.length : Int)))))) else (screelaw05_BatchWrites.j0 k l1 y186 t193 t196 true)) else (screelaw05_BatchWrites.j0 k l1 y186 t193 t196 true))))))) else (none))))) else (none)) = some r := H
  have A3 := Aside0.mk A30
  clear A30
  by_cases c4 : t181 = true
  · subst c4
    have H1 : ((screelaw05_large.f k l1).bind fun t182 => (if t182 = true then (some true) else ((some (([] : List (S34)) : List (S34))).bind fun y183 => (if y183.length + l1.length < 3518437208883 then ((some (y183 ++ l1 : List (S34))).bind fun y186 => ((batch_Encode.f k a0 y186).bind fun bt189 => ((screeref05_Encode.f k a0 l1).bind fun bt191 => ((batch_Entries.f k a0 y186).bind fun t193 => ((screeref05_Entries.f k a0 l1).bind fun t196 => (if bt189.1.toList = bt191.1.toList then (if bt189.2 = bt191.2 then ((batch_May.f y186).bind fun t199 => ((screeref05_May.f k l1).bind fun t200 => (if (t199 != t200) = true then (screelaw05_BatchWrites.j0 k l1 y186 t193 t196 true) else (screelaw05_BatchWrites.j0 k l1 y186 t193 t196 ((t193.length : Int) != (t196.length : Int)))))) else (screelaw05_BatchWrites.j0 k l1 y186 t193 t196 true)) else (screelaw05_BatchWrites.j0 k l1 y186 t193 t196 true))))))) else (none))))) = some r := by rw [if_pos rfl] at H; exact H
    clear H
    have H := H1
    clear H1
    replace H := Option.bind_eq_some_iff.mp H
    obtain ⟨t182, A50, H⟩ := H
    replace H : (if t182 = true then (some true) else ((some (([] : List (S34)) : List (S34))).bind fun y183 => (if y183.length + l1.length < 3518437208883 then ((some (y183 ++ l1 : List (S34))).bind fun y186 => ((batch_Encode.f k a0 y186).bind fun bt189 => ((screeref05_Encode.f k a0 l1).bind fun bt191 => ((batch_Entries.f k a0 y186).bind fun t193 => ((screeref05_Entries.f k a0 l1).bind fun t196 => (if bt189.1.toList = bt191.1.toList then (if bt189.2 = bt191.2 then ((batch_May.f y186).bind fun t199 => ((screeref05_May.f k l1).bind fun t200 => (if (t199 != t200) = true then (screelaw05_BatchWrites.j0 k l1 y186 t193 t196 true) else (screelaw05_BatchWrites.j0 k l1 y186 t193 t196 ((t193.length : Int) != (t196.length : Int)))))) else (screelaw05_BatchWrites.j0 k l1 y186 t193 t196 true)) else (screelaw05_BatchWrites.j0 k l1 y186 t193 t196 true))))))) else (none)))) = some r := H
    have A5 := Aside0.mk A50
    clear A50
    by_cases c6 : t182 = true
    · subst c6
      have H1 : (some true) = some r := by rw [if_pos rfl] at H; exact H
      clear H
      have H := H1
      clear H1
      obtain rfl := Option.some.inj H
      go_enter Try.func3, Try.ntmps3
      go_wp2_with (first | (go_at_call 10; (with_reducible refine (screelaw05_awake.calls k  true _ A3.out).mono ?_); rintro e w7 ⟨rfl, hb⟩; have n0_ := Aside0.mk (below_step (by repeat (first | (with_reducible first | exact HB.out | apply below_alloc | apply pw_below_drewN | apply below_drew1) | exact HB.out)) hb); clear HB; have HB := n0_; clear n0_; (try clear hb); (try clear hb2); (try clear hk); (try clear hi); (try clear A3)) | (go_at_call 11; (with_reducible refine (screelaw05_large.calls k _ _ l1 true _ ?side1 ?side2 A5.out).mono ?_); (case side1 => repeat (first | exact (Kd.C_below HR1.out HB.out) | (with_reducible refine Kd.C_alloc ?_ _) | (with_reducible refine Kd.C_drewN ?_ _) | (with_reducible refine Kd.C_drew ?_))); (case side2 => exact HC1.out); rintro e w' ⟨rfl, ⟨nd, rfl⟩⟩; (try first | exact ⟨rfl, _, World.drewN_drewN _ _ _⟩ | exact ⟨rfl, _, Eq.trans (World.drewN_drewN _ _ _) (congrArg (World.drewN _) (Nat.add_assoc _ _ _))⟩)))
      repeat (go_quiet (first | (go_at_call 10; (with_reducible refine (screelaw05_awake.calls k  true _ A3.out).mono ?_); rintro e w7 ⟨rfl, hb⟩; have n0_ := Aside0.mk (below_step (by repeat (first | (with_reducible first | exact HB.out | apply below_alloc | apply pw_below_drewN | apply below_drew1) | exact HB.out)) hb); clear HB; have HB := n0_; clear n0_; (try clear hb); (try clear hb2); (try clear hk); (try clear hi); (try clear A3)) | (go_at_call 11; (with_reducible refine (screelaw05_large.calls k _ _ l1 true _ ?side1 ?side2 A5.out).mono ?_); (case side1 => repeat (first | exact (Kd.C_below HR1.out HB.out) | (with_reducible refine Kd.C_alloc ?_ _) | (with_reducible refine Kd.C_drewN ?_ _) | (with_reducible refine Kd.C_drew ?_))); (case side2 => exact HC1.out); rintro e w' ⟨rfl, ⟨nd, rfl⟩⟩; (try first | exact ⟨rfl, _, World.drewN_drewN _ _ _⟩ | exact ⟨rfl, _, Eq.trans (World.drewN_drewN _ _ _) (congrArg (World.drewN _) (Nat.add_assoc _ _ _))⟩))); try go_wp2_with (first | (go_at_call 10; (with_reducible refine (screelaw05_awake.calls k  true _ A3.out).mono ?_); rintro e w7 ⟨rfl, hb⟩; have n0_ := Aside0.mk (below_step (by repeat (first | (with_reducible first | exact HB.out | apply below_alloc | apply pw_below_drewN | apply below_drew1) | exact HB.out)) hb); clear HB; have HB := n0_; clear n0_; (try clear hb); (try clear hb2); (try clear hk); (try clear hi); (try clear A3)) | (go_at_call 11; (with_reducible refine (screelaw05_large.calls k _ _ l1 true _ ?side1 ?side2 A5.out).mono ?_); (case side1 => repeat (first | exact (Kd.C_below HR1.out HB.out) | (with_reducible refine Kd.C_alloc ?_ _) | (with_reducible refine Kd.C_drewN ?_ _) | (with_reducible refine Kd.C_drew ?_))); (case side2 => exact HC1.out); rintro e w' ⟨rfl, ⟨nd, rfl⟩⟩; (try first | exact ⟨rfl, _, World.drewN_drewN _ _ _⟩ | exact ⟨rfl, _, Eq.trans (World.drewN_drewN _ _ _) (congrArg (World.drewN _) (Nat.add_assoc _ _ _))⟩))))
      go_ret
      exact ⟨by first | rfl | (simp [errW_none, errW_some] <;> rfl) | (simp (disch := omega) only [← i64_w, IntWalk.i64_in]; rfl) | (simp [*, errW_none, errW_some] <;> rfl), by repeat (first | (with_reducible first | exact HB.out | apply below_alloc | apply pw_below_drewN | apply below_drew1) | exact HB.out)⟩
    · replace c6 := Bool.eq_false_iff.mpr c6
      subst c6
      have H1 : ((some (([] : List (S34)) : List (S34))).bind fun y183 => (if y183.length + l1.length < 3518437208883 then ((some (y183 ++ l1 : List (S34))).bind fun y186 => ((batch_Encode.f k a0 y186).bind fun bt189 => ((screeref05_Encode.f k a0 l1).bind fun bt191 => ((batch_Entries.f k a0 y186).bind fun t193 => ((screeref05_Entries.f k a0 l1).bind fun t196 => (if bt189.1.toList = bt191.1.toList then (if bt189.2 = bt191.2 then ((batch_May.f y186).bind fun t199 => ((screeref05_May.f k l1).bind fun t200 => (if (t199 != t200) = true then (screelaw05_BatchWrites.j0 k l1 y186 t193 t196 true) else (screelaw05_BatchWrites.j0 k l1 y186 t193 t196 ((t193.length : Int) != (t196.length : Int)))))) else (screelaw05_BatchWrites.j0 k l1 y186 t193 t196 true)) else (screelaw05_BatchWrites.j0 k l1 y186 t193 t196 true))))))) else (none))) = some r := by rw [if_neg (show ¬ (false = true) by decide)] at H; exact H
      clear H
      have H := H1
      clear H1
      obtain ⟨y183, hy183⟩ : ∃ y_ : List (S34), y_ = (([] : List (S34))) := ⟨_, rfl⟩
      replace H : (if y183.length + l1.length < 3518437208883 then ((some (y183 ++ l1 : List (S34))).bind fun y186 => ((batch_Encode.f k a0 y186).bind fun bt189 => ((screeref05_Encode.f k a0 l1).bind fun bt191 => ((batch_Entries.f k a0 y186).bind fun t193 => ((screeref05_Entries.f k a0 l1).bind fun t196 => (if bt189.1.toList = bt191.1.toList then (if bt189.2 = bt191.2 then ((batch_May.f y186).bind fun t199 => ((screeref05_May.f k l1).bind fun t200 => (if (t199 != t200) = true then (screelaw05_BatchWrites.j0 k l1 y186 t193 t196 true) else (screelaw05_BatchWrites.j0 k l1 y186 t193 t196 ((t193.length : Int) != (t196.length : Int)))))) else (screelaw05_BatchWrites.j0 k l1 y186 t193 t196 true)) else (screelaw05_BatchWrites.j0 k l1 y186 t193 t196 true))))))) else (none)) = some r := by first | (rw [hy183]; with_reducible exact H) | (have H2_ := (Option.bind_some _ _).symm.trans H; rw [hy183]; with_reducible exact H2_) | (have H2_ := (Option.bind_some _ _).symm.trans H; with_reducible exact H2_) | with_reducible exact H | (rw [hy183]; exact H) | exact H
      have Ny183 := Aside0.mk hy183
      clear hy183
      by_cases c8 : y183.length + l1.length < 3518437208883
      · rw [if_pos c8] at H
        have LMc8 := Aside0.mk c8
        clear c8
        obtain ⟨y186, hy186⟩ : ∃ y_ : List (S34), y_ = (y183 ++ l1) := ⟨_, rfl⟩
        replace H : ((batch_Encode.f k a0 y186).bind fun bt189 => ((screeref05_Encode.f k a0 l1).bind fun bt191 => ((batch_Entries.f k a0 y186).bind fun t193 => ((screeref05_Entries.f k a0 l1).bind fun t196 => (if bt189.1.toList = bt191.1.toList then (if bt189.2 = bt191.2 then ((batch_May.f y186).bind fun t199 => ((screeref05_May.f k l1).bind fun t200 => (if (t199 != t200) = true then (screelaw05_BatchWrites.j0 k l1 y186 t193 t196 true) else (screelaw05_BatchWrites.j0 k l1 y186 t193 t196 ((t193.length : Int) != (t196.length : Int)))))) else (screelaw05_BatchWrites.j0 k l1 y186 t193 t196 true)) else (screelaw05_BatchWrites.j0 k l1 y186 t193 t196 true)))))) = some r := by first | (rw [hy186]; with_reducible exact H) | (have H2_ := (Option.bind_some _ _).symm.trans H; rw [hy186]; with_reducible exact H2_) | (have H2_ := (Option.bind_some _ _).symm.trans H; with_reducible exact H2_) | with_reducible exact H | (rw [hy186]; exact H) | exact H
        have Ny186 := Aside0.mk hy186
        clear hy186
        replace H := Option.bind_eq_some_iff.mp H
        obtain ⟨⟨t189, t190⟩, A90, H⟩ := H
        replace H : ((screeref05_Encode.f k a0 l1).bind fun bt191 => ((batch_Entries.f k a0 y186).bind fun t193 => ((screeref05_Entries.f k a0 l1).bind fun t196 => (if t189.toList = bt191.1.toList then (if t190 = bt191.2 then ((batch_May.f y186).bind fun t199 => ((screeref05_May.f k l1).bind fun t200 => (if (t199 != t200) = true then (screelaw05_BatchWrites.j0 k l1 y186 t193 t196 true) else (screelaw05_BatchWrites.j0 k l1 y186 t193 t196 ((t193.length : Int) != (t196.length : Int)))))) else (screelaw05_BatchWrites.j0 k l1 y186 t193 t196 true)) else (screelaw05_BatchWrites.j0 k l1 y186 t193 t196 true))))) = some r := H
        have A9 := Aside0.mk A90
        clear A90
        replace H := Option.bind_eq_some_iff.mp H
        obtain ⟨⟨t191, t192⟩, A100, H⟩ := H
        replace H : ((batch_Entries.f k a0 y186).bind fun t193 => ((screeref05_Entries.f k a0 l1).bind fun t196 => (if t189.toList = t191.toList then (if t190 = t192 then ((batch_May.f y186).bind fun t199 => ((screeref05_May.f k l1).bind fun t200 => (if (t199 != t200) = true then (screelaw05_BatchWrites.j0 k l1 y186 t193 t196 true) else (screelaw05_BatchWrites.j0 k l1 y186 t193 t196 ((t193.length : Int) != (t196.length : Int)))))) else (screelaw05_BatchWrites.j0 k l1 y186 t193 t196 true)) else (screelaw05_BatchWrites.j0 k l1 y186 t193 t196 true)))) = some r := H
        have A10 := Aside0.mk A100
        clear A100
        replace H := Option.bind_eq_some_iff.mp H
        obtain ⟨t193, A110, H⟩ := H
        replace H : ((screeref05_Entries.f k a0 l1).bind fun t196 => (if t189.toList = t191.toList then (if t190 = t192 then ((batch_May.f y186).bind fun t199 => ((screeref05_May.f k l1).bind fun t200 => (if (t199 != t200) = true then (screelaw05_BatchWrites.j0 k l1 y186 t193 t196 true) else (screelaw05_BatchWrites.j0 k l1 y186 t193 t196 ((t193.length : Int) != (t196.length : Int)))))) else (screelaw05_BatchWrites.j0 k l1 y186 t193 t196 true)) else (screelaw05_BatchWrites.j0 k l1 y186 t193 t196 true))) = some r := H
        have A11 := Aside0.mk A110
        clear A110
        replace H := Option.bind_eq_some_iff.mp H
        obtain ⟨t196, A120, H⟩ := H
        replace H : (if t189.toList = t191.toList then (if t190 = t192 then ((batch_May.f y186).bind fun t199 => ((screeref05_May.f k l1).bind fun t200 => (if (t199 != t200) = true then (screelaw05_BatchWrites.j0 k l1 y186 t193 t196 true) else (screelaw05_BatchWrites.j0 k l1 y186 t193 t196 ((t193.length : Int) != (t196.length : Int)))))) else (screelaw05_BatchWrites.j0 k l1 y186 t193 t196 true)) else (screelaw05_BatchWrites.j0 k l1 y186 t193 t196 true)) = some r := H
        have A12 := Aside0.mk A120
        clear A120
        have HC13 := Aside0.mk H
        clear H
        go_enter Try.func3, Try.ntmps3
        go_upto_region 10 with (first | (go_at_call 10; (with_reducible refine (screelaw05_awake.calls k  true _ A3.out).mono ?_); rintro e w14 ⟨rfl, hb⟩; have n0_ := Aside0.mk (below_step (by repeat (first | (with_reducible first | exact HB.out | apply below_alloc | apply pw_below_drewN | apply below_drew1) | exact HB.out)) hb); clear HB; have HB := n0_; clear n0_; (try clear hb); (try clear hb2); (try clear hk); (try clear hi); (try clear A3)) | (go_at_call 11; (with_reducible refine (screelaw05_large.calls k _ _ l1 false _ ?side1 ?side2 A5.out).mono ?_); (case side1 => repeat (first | exact (Kd.C_below HR1.out HB.out) | (with_reducible refine Kd.C_alloc ?_ _) | (with_reducible refine Kd.C_drewN ?_ _) | (with_reducible refine Kd.C_drew ?_))); (case side2 => exact HC1.out); rintro e w' ⟨rfl, ⟨nd, rfl⟩⟩; (try first | exact ⟨rfl, _, World.drewN_drewN _ _ _⟩ | exact ⟨rfl, _, Eq.trans (World.drewN_drewN _ _ _) (congrArg (World.drewN _) (Nat.add_assoc _ _ _))⟩)) | ((with_reducible refine gate_dst (N := 18) rfl ?_); (try (refine gate_guard (by rfl) ?_; dsimp only)); refine Kd.R_lit k34 _ 34 ?hg (N := 18) ?hd (xs := ([] : List (S34))) (inner := []) (ok := fun _ => True) (okp := fun _ => True) ?hr ?hp (fun _ hk => hk) trivial (Below.refl _ _) (Nat.le_refl _) (by simp) ?_; (case hd => rfl); (case hg => rfl); (case hr => first | (go_simp; done) | (go_simp; rfl)); (case hp => exact (Reps.none _ _)); intro v184 w15 ho16 hb hg_ hnew_; clear hg_ hnew_; (first | rw [← Ny183.out] at ho16 | (simp only [Int.reduceToNat] at ho16; rw [← Ny183.out] at ho16)); have n0_ := Aside0.mk (Kd.R_lower ho16 (below_size (by repeat (first | (with_reducible first | exact HB.out | apply below_alloc | apply pw_below_drewN | apply below_drew1) | exact HB.out)))); have n1_ := Aside0.mk (below_step (by repeat (first | (with_reducible first | exact HB.out | apply below_alloc | apply pw_below_drewN | apply below_drew1) | exact HB.out)) hb); clear HB; have HO185 := n0_; have HB := n1_; clear n0_ n1_; clear hb ho16) | ((with_reducible refine gate_builtin (b := .append) (xs := #[.tmp 18, .tmp 19]) rfl ?_); (try (refine gate_guard (by rfl) ?_; dsimp only)); at_builtin; refine Kd.R_append_rows k34 (w0 := w) w.heap.size rfl (.tmp 18) (.tmp 19) 23 34 (.agg #[(.bool false), (.string ⟨#[]⟩), (.string ⟨#[]⟩)]) 40 rfl Try.underlying23 info34 rfl (by decide) (by omega) v184 y183 l1 _ _ _ (fun _ => True) (fun _ => False) rfl rfl ?aO ?aR (fun _ _ h => h) (fun _ h => h.elim) ?aF ?aB ?aS ?aL ?_; (case aR => repeat (first | exact (Kd.C_below HR1.out HB.out) | (with_reducible refine Kd.C_alloc ?_ _) | (with_reducible refine Kd.C_drewN ?_ _) | (with_reducible refine Kd.C_drew ?_))); (case aB => exact (by repeat (first | (with_reducible first | exact HB.out | apply below_alloc | apply pw_below_drewN | apply below_drew1) | exact HB.out))); (case aF => exact (fun _ _ => trivial)); (case aO => exact (by (with_reducible repeat (first | apply Kd.R_alloc | apply Kd.R_drewN | apply Kd.R_drew)); exact HO185.out)); (case aS => exact (below_size (by repeat (first | (with_reducible first | exact HB.out | apply below_alloc | apply pw_below_drewN | apply below_drew1) | exact HB.out)))); (case aL => have := LMc8.out; omega); intro v187 w17 ho hb hg hat; rw [← Ny186.out] at ho; have n0_ := Aside0.mk (hb); have n1_ := Aside0.mk (ho); clear HB; clear HO185; have HB := n0_; have HO188 := n1_; clear n0_ n1_; clear ho hb hg hat; obtain ⟨Ao18, co18, eo18⟩ := Kd.R_slice HO188.out; subst eo18) | (go_at_call 12; (with_reducible refine (batch_Encode.calls k a0 _ _ y186 t189 t190 _ ?side1 ?side2 A9.out).mono ?_); (case side1 => repeat (first | exact (Kd.R_reads' HO188.out).2.2 | (with_reducible refine Kd.C_alloc ?_ _) | (with_reducible refine Kd.C_drewN ?_ _) | (with_reducible refine Kd.C_drew ?_))); (case side2 => exact (Kd.R_reads' HO188.out).2.1); rintro e w19 ⟨rfl, hb⟩; have n0_ := Aside0.mk (Kd.R_below (by (with_reducible repeat (first | apply Kd.R_alloc | apply Kd.R_drewN | apply Kd.R_drew)); exact HO188.out) hb); have n1_ := Aside0.mk (below_step (by repeat (first | (with_reducible first | exact HB.out | apply below_alloc | apply pw_below_drewN | apply below_drew1) | exact HB.out)) hb); clear HO188; clear HB; have HO188 := n0_; have HB := n1_; clear n0_ n1_; (try clear hb); (try clear hb2); (try clear hk); (try clear hi); (try clear A9)) | (go_at_call 13; (with_reducible refine (screeref05_Encode.calls k a0 _ _ l1 t191 t192 _ ?side1 ?side2 A10.out).mono ?_); (case side1 => repeat (first | exact (Kd.C_below HR1.out HB.out) | (with_reducible refine Kd.C_alloc ?_ _) | (with_reducible refine Kd.C_drewN ?_ _) | (with_reducible refine Kd.C_drew ?_))); (case side2 => exact HC1.out); rintro e w20 ⟨rfl, hb⟩; have n0_ := Aside0.mk (Kd.R_below (by (with_reducible repeat (first | apply Kd.R_alloc | apply Kd.R_drewN | apply Kd.R_drew)); exact HO188.out) hb); have n1_ := Aside0.mk (below_step (by repeat (first | (with_reducible first | exact HB.out | apply below_alloc | apply pw_below_drewN | apply below_drew1) | exact HB.out)) hb); clear HO188; clear HB; have HO188 := n0_; have HB := n1_; clear n0_ n1_; (try clear hb); (try clear hb2); (try clear hk); (try clear hi); (try clear A10)) | (go_at_call 14; (with_reducible refine (batch_Entries.calls k a0 _ _ y186 t193 _ ?side1 ?side2 A11.out).mono ?_); (case side1 => repeat (first | exact (Kd.R_reads' HO188.out).2.2 | (with_reducible refine Kd.C_alloc ?_ _) | (with_reducible refine Kd.C_drewN ?_ _) | (with_reducible refine Kd.C_drew ?_))); (case side2 => exact (Kd.R_reads' HO188.out).2.1); rintro e w21 ⟨v194, rfl, ho0, hb⟩; have n0_ := Aside0.mk (Kd.R_below (by (with_reducible repeat (first | apply Kd.R_alloc | apply Kd.R_drewN | apply Kd.R_drew)); exact HO188.out) hb); have n1_ := Aside0.mk (Kd.R_lower ho0 (below_size (by repeat (first | (with_reducible first | exact HB.out | apply below_alloc | apply pw_below_drewN | apply below_drew1) | exact HB.out)))); have n2_ := Aside0.mk (below_step (by repeat (first | (with_reducible first | exact HB.out | apply below_alloc | apply pw_below_drewN | apply below_drew1) | exact HB.out)) hb); clear HO188; clear HB; have HO188 := n0_; have HO195 := n1_; have HB := n2_; clear n0_ n1_ n2_; (try clear hb); (try clear hb2); (try clear hk); (try clear hi); (try clear ho0); (try clear A11)) | (go_at_call 15; (with_reducible refine (screeref05_Entries.calls k a0 _ _ l1 t196 _ ?side1 ?side2 A12.out).mono ?_); (case side1 => repeat (first | exact (Kd.C_below HR1.out HB.out) | (with_reducible refine Kd.C_alloc ?_ _) | (with_reducible refine Kd.C_drewN ?_ _) | (with_reducible refine Kd.C_drew ?_))); (case side2 => exact HC1.out); rintro e w22 ⟨v197, rfl, ho0, hb⟩; have n0_ := Aside0.mk (Kd.R_below (by (with_reducible repeat (first | apply Kd.R_alloc | apply Kd.R_drewN | apply Kd.R_drew)); exact HO188.out) hb); have n1_ := Aside0.mk (Kd.R_elder' (by (with_reducible repeat (first | apply Kd.R_alloc | apply Kd.R_drewN | apply Kd.R_drew)); exact HO195.out) (Kd.R_base ho0) hb); have n2_ := Aside0.mk (Kd.R_lower (Kd.R_new' ho0 (Kd.R_lt (by (with_reducible repeat (first | apply Kd.R_alloc | apply Kd.R_drewN | apply Kd.R_drew)); exact HO195.out))) (below_size (by repeat (first | (with_reducible first | exact HB.out | apply below_alloc | apply pw_below_drewN | apply below_drew1) | exact HB.out)))); have n3_ := Aside0.mk (below_step (by repeat (first | (with_reducible first | exact HB.out | apply below_alloc | apply pw_below_drewN | apply below_drew1) | exact HB.out)) hb); clear HO188; clear HO195; clear HB; have HO188 := n0_; have HO195 := n1_; have HO198 := n2_; have HB := n3_; clear n0_ n1_ n2_ n3_; (try clear hb); (try clear hb2); (try clear hk); (try clear hi); (try clear ho0); (try clear A12)))
        repeat (go_quiet (first | (go_at_call 10; (with_reducible refine (screelaw05_awake.calls k  true _ A3.out).mono ?_); rintro e w14 ⟨rfl, hb⟩; have n0_ := Aside0.mk (below_step (by repeat (first | (with_reducible first | exact HB.out | apply below_alloc | apply pw_below_drewN | apply below_drew1) | exact HB.out)) hb); clear HB; have HB := n0_; clear n0_; (try clear hb); (try clear hb2); (try clear hk); (try clear hi); (try clear A3)) | (go_at_call 11; (with_reducible refine (screelaw05_large.calls k _ _ l1 false _ ?side1 ?side2 A5.out).mono ?_); (case side1 => repeat (first | exact (Kd.C_below HR1.out HB.out) | (with_reducible refine Kd.C_alloc ?_ _) | (with_reducible refine Kd.C_drewN ?_ _) | (with_reducible refine Kd.C_drew ?_))); (case side2 => exact HC1.out); rintro e w' ⟨rfl, ⟨nd, rfl⟩⟩; (try first | exact ⟨rfl, _, World.drewN_drewN _ _ _⟩ | exact ⟨rfl, _, Eq.trans (World.drewN_drewN _ _ _) (congrArg (World.drewN _) (Nat.add_assoc _ _ _))⟩)) | ((with_reducible refine gate_dst (N := 18) rfl ?_); (try (refine gate_guard (by rfl) ?_; dsimp only)); refine Kd.R_lit k34 _ 34 ?hg (N := 18) ?hd (xs := ([] : List (S34))) (inner := []) (ok := fun _ => True) (okp := fun _ => True) ?hr ?hp (fun _ hk => hk) trivial (Below.refl _ _) (Nat.le_refl _) (by simp) ?_; (case hd => rfl); (case hg => rfl); (case hr => first | (go_simp; done) | (go_simp; rfl)); (case hp => exact (Reps.none _ _)); intro v184 w15 ho16 hb hg_ hnew_; clear hg_ hnew_; (first | rw [← Ny183.out] at ho16 | (simp only [Int.reduceToNat] at ho16; rw [← Ny183.out] at ho16)); have n0_ := Aside0.mk (Kd.R_lower ho16 (below_size (by repeat (first | (with_reducible first | exact HB.out | apply below_alloc | apply pw_below_drewN | apply below_drew1) | exact HB.out)))); have n1_ := Aside0.mk (below_step (by repeat (first | (with_reducible first | exact HB.out | apply below_alloc | apply pw_below_drewN | apply below_drew1) | exact HB.out)) hb); clear HB; have HO185 := n0_; have HB := n1_; clear n0_ n1_; clear hb ho16) | ((with_reducible refine gate_builtin (b := .append) (xs := #[.tmp 18, .tmp 19]) rfl ?_); (try (refine gate_guard (by rfl) ?_; dsimp only)); at_builtin; refine Kd.R_append_rows k34 (w0 := w) w.heap.size rfl (.tmp 18) (.tmp 19) 23 34 (.agg #[(.bool false), (.string ⟨#[]⟩), (.string ⟨#[]⟩)]) 40 rfl Try.underlying23 info34 rfl (by decide) (by omega) v184 y183 l1 _ _ _ (fun _ => True) (fun _ => False) rfl rfl ?aO ?aR (fun _ _ h => h) (fun _ h => h.elim) ?aF ?aB ?aS ?aL ?_; (case aR => repeat (first | exact (Kd.C_below HR1.out HB.out) | (with_reducible refine Kd.C_alloc ?_ _) | (with_reducible refine Kd.C_drewN ?_ _) | (with_reducible refine Kd.C_drew ?_))); (case aB => exact (by repeat (first | (with_reducible first | exact HB.out | apply below_alloc | apply pw_below_drewN | apply below_drew1) | exact HB.out))); (case aF => exact (fun _ _ => trivial)); (case aO => exact (by (with_reducible repeat (first | apply Kd.R_alloc | apply Kd.R_drewN | apply Kd.R_drew)); exact HO185.out)); (case aS => exact (below_size (by repeat (first | (with_reducible first | exact HB.out | apply below_alloc | apply pw_below_drewN | apply below_drew1) | exact HB.out)))); (case aL => have := LMc8.out; omega); intro v187 w17 ho hb hg hat; rw [← Ny186.out] at ho; have n0_ := Aside0.mk (hb); have n1_ := Aside0.mk (ho); clear HB; clear HO185; have HB := n0_; have HO188 := n1_; clear n0_ n1_; clear ho hb hg hat; obtain ⟨Ao18, co18, eo18⟩ := Kd.R_slice HO188.out; subst eo18) | (go_at_call 12; (with_reducible refine (batch_Encode.calls k a0 _ _ y186 t189 t190 _ ?side1 ?side2 A9.out).mono ?_); (case side1 => repeat (first | exact (Kd.R_reads' HO188.out).2.2 | (with_reducible refine Kd.C_alloc ?_ _) | (with_reducible refine Kd.C_drewN ?_ _) | (with_reducible refine Kd.C_drew ?_))); (case side2 => exact (Kd.R_reads' HO188.out).2.1); rintro e w19 ⟨rfl, hb⟩; have n0_ := Aside0.mk (Kd.R_below (by (with_reducible repeat (first | apply Kd.R_alloc | apply Kd.R_drewN | apply Kd.R_drew)); exact HO188.out) hb); have n1_ := Aside0.mk (below_step (by repeat (first | (with_reducible first | exact HB.out | apply below_alloc | apply pw_below_drewN | apply below_drew1) | exact HB.out)) hb); clear HO188; clear HB; have HO188 := n0_; have HB := n1_; clear n0_ n1_; (try clear hb); (try clear hb2); (try clear hk); (try clear hi); (try clear A9)) | (go_at_call 13; (with_reducible refine (screeref05_Encode.calls k a0 _ _ l1 t191 t192 _ ?side1 ?side2 A10.out).mono ?_); (case side1 => repeat (first | exact (Kd.C_below HR1.out HB.out) | (with_reducible refine Kd.C_alloc ?_ _) | (with_reducible refine Kd.C_drewN ?_ _) | (with_reducible refine Kd.C_drew ?_))); (case side2 => exact HC1.out); rintro e w20 ⟨rfl, hb⟩; have n0_ := Aside0.mk (Kd.R_below (by (with_reducible repeat (first | apply Kd.R_alloc | apply Kd.R_drewN | apply Kd.R_drew)); exact HO188.out) hb); have n1_ := Aside0.mk (below_step (by repeat (first | (with_reducible first | exact HB.out | apply below_alloc | apply pw_below_drewN | apply below_drew1) | exact HB.out)) hb); clear HO188; clear HB; have HO188 := n0_; have HB := n1_; clear n0_ n1_; (try clear hb); (try clear hb2); (try clear hk); (try clear hi); (try clear A10)) | (go_at_call 14; (with_reducible refine (batch_Entries.calls k a0 _ _ y186 t193 _ ?side1 ?side2 A11.out).mono ?_); (case side1 => repeat (first | exact (Kd.R_reads' HO188.out).2.2 | (with_reducible refine Kd.C_alloc ?_ _) | (with_reducible refine Kd.C_drewN ?_ _) | (with_reducible refine Kd.C_drew ?_))); (case side2 => exact (Kd.R_reads' HO188.out).2.1); rintro e w21 ⟨v194, rfl, ho0, hb⟩; have n0_ := Aside0.mk (Kd.R_below (by (with_reducible repeat (first | apply Kd.R_alloc | apply Kd.R_drewN | apply Kd.R_drew)); exact HO188.out) hb); have n1_ := Aside0.mk (Kd.R_lower ho0 (below_size (by repeat (first | (with_reducible first | exact HB.out | apply below_alloc | apply pw_below_drewN | apply below_drew1) | exact HB.out)))); have n2_ := Aside0.mk (below_step (by repeat (first | (with_reducible first | exact HB.out | apply below_alloc | apply pw_below_drewN | apply below_drew1) | exact HB.out)) hb); clear HO188; clear HB; have HO188 := n0_; have HO195 := n1_; have HB := n2_; clear n0_ n1_ n2_; (try clear hb); (try clear hb2); (try clear hk); (try clear hi); (try clear ho0); (try clear A11)) | (go_at_call 15; (with_reducible refine (screeref05_Entries.calls k a0 _ _ l1 t196 _ ?side1 ?side2 A12.out).mono ?_); (case side1 => repeat (first | exact (Kd.C_below HR1.out HB.out) | (with_reducible refine Kd.C_alloc ?_ _) | (with_reducible refine Kd.C_drewN ?_ _) | (with_reducible refine Kd.C_drew ?_))); (case side2 => exact HC1.out); rintro e w22 ⟨v197, rfl, ho0, hb⟩; have n0_ := Aside0.mk (Kd.R_below (by (with_reducible repeat (first | apply Kd.R_alloc | apply Kd.R_drewN | apply Kd.R_drew)); exact HO188.out) hb); have n1_ := Aside0.mk (Kd.R_elder' (by (with_reducible repeat (first | apply Kd.R_alloc | apply Kd.R_drewN | apply Kd.R_drew)); exact HO195.out) (Kd.R_base ho0) hb); have n2_ := Aside0.mk (Kd.R_lower (Kd.R_new' ho0 (Kd.R_lt (by (with_reducible repeat (first | apply Kd.R_alloc | apply Kd.R_drewN | apply Kd.R_drew)); exact HO195.out))) (below_size (by repeat (first | (with_reducible first | exact HB.out | apply below_alloc | apply pw_below_drewN | apply below_drew1) | exact HB.out)))); have n3_ := Aside0.mk (below_step (by repeat (first | (with_reducible first | exact HB.out | apply below_alloc | apply pw_below_drewN | apply below_drew1) | exact HB.out)) hb); clear HO188; clear HO195; clear HB; have HO188 := n0_; have HO195 := n1_; have HO198 := n2_; have HB := n3_; clear n0_ n1_ n2_ n3_; (try clear hb); (try clear hb2); (try clear hk); (try clear hi); (try clear ho0); (try clear A12))); go_upto_region 10 with (first | (go_at_call 10; (with_reducible refine (screelaw05_awake.calls k  true _ A3.out).mono ?_); rintro e w14 ⟨rfl, hb⟩; have n0_ := Aside0.mk (below_step (by repeat (first | (with_reducible first | exact HB.out | apply below_alloc | apply pw_below_drewN | apply below_drew1) | exact HB.out)) hb); clear HB; have HB := n0_; clear n0_; (try clear hb); (try clear hb2); (try clear hk); (try clear hi); (try clear A3)) | (go_at_call 11; (with_reducible refine (screelaw05_large.calls k _ _ l1 false _ ?side1 ?side2 A5.out).mono ?_); (case side1 => repeat (first | exact (Kd.C_below HR1.out HB.out) | (with_reducible refine Kd.C_alloc ?_ _) | (with_reducible refine Kd.C_drewN ?_ _) | (with_reducible refine Kd.C_drew ?_))); (case side2 => exact HC1.out); rintro e w' ⟨rfl, ⟨nd, rfl⟩⟩; (try first | exact ⟨rfl, _, World.drewN_drewN _ _ _⟩ | exact ⟨rfl, _, Eq.trans (World.drewN_drewN _ _ _) (congrArg (World.drewN _) (Nat.add_assoc _ _ _))⟩)) | ((with_reducible refine gate_dst (N := 18) rfl ?_); (try (refine gate_guard (by rfl) ?_; dsimp only)); refine Kd.R_lit k34 _ 34 ?hg (N := 18) ?hd (xs := ([] : List (S34))) (inner := []) (ok := fun _ => True) (okp := fun _ => True) ?hr ?hp (fun _ hk => hk) trivial (Below.refl _ _) (Nat.le_refl _) (by simp) ?_; (case hd => rfl); (case hg => rfl); (case hr => first | (go_simp; done) | (go_simp; rfl)); (case hp => exact (Reps.none _ _)); intro v184 w15 ho16 hb hg_ hnew_; clear hg_ hnew_; (first | rw [← Ny183.out] at ho16 | (simp only [Int.reduceToNat] at ho16; rw [← Ny183.out] at ho16)); have n0_ := Aside0.mk (Kd.R_lower ho16 (below_size (by repeat (first | (with_reducible first | exact HB.out | apply below_alloc | apply pw_below_drewN | apply below_drew1) | exact HB.out)))); have n1_ := Aside0.mk (below_step (by repeat (first | (with_reducible first | exact HB.out | apply below_alloc | apply pw_below_drewN | apply below_drew1) | exact HB.out)) hb); clear HB; have HO185 := n0_; have HB := n1_; clear n0_ n1_; clear hb ho16) | ((with_reducible refine gate_builtin (b := .append) (xs := #[.tmp 18, .tmp 19]) rfl ?_); (try (refine gate_guard (by rfl) ?_; dsimp only)); at_builtin; refine Kd.R_append_rows k34 (w0 := w) w.heap.size rfl (.tmp 18) (.tmp 19) 23 34 (.agg #[(.bool false), (.string ⟨#[]⟩), (.string ⟨#[]⟩)]) 40 rfl Try.underlying23 info34 rfl (by decide) (by omega) v184 y183 l1 _ _ _ (fun _ => True) (fun _ => False) rfl rfl ?aO ?aR (fun _ _ h => h) (fun _ h => h.elim) ?aF ?aB ?aS ?aL ?_; (case aR => repeat (first | exact (Kd.C_below HR1.out HB.out) | (with_reducible refine Kd.C_alloc ?_ _) | (with_reducible refine Kd.C_drewN ?_ _) | (with_reducible refine Kd.C_drew ?_))); (case aB => exact (by repeat (first | (with_reducible first | exact HB.out | apply below_alloc | apply pw_below_drewN | apply below_drew1) | exact HB.out))); (case aF => exact (fun _ _ => trivial)); (case aO => exact (by (with_reducible repeat (first | apply Kd.R_alloc | apply Kd.R_drewN | apply Kd.R_drew)); exact HO185.out)); (case aS => exact (below_size (by repeat (first | (with_reducible first | exact HB.out | apply below_alloc | apply pw_below_drewN | apply below_drew1) | exact HB.out)))); (case aL => have := LMc8.out; omega); intro v187 w17 ho hb hg hat; rw [← Ny186.out] at ho; have n0_ := Aside0.mk (hb); have n1_ := Aside0.mk (ho); clear HB; clear HO185; have HB := n0_; have HO188 := n1_; clear n0_ n1_; clear ho hb hg hat; obtain ⟨Ao18, co18, eo18⟩ := Kd.R_slice HO188.out; subst eo18) | (go_at_call 12; (with_reducible refine (batch_Encode.calls k a0 _ _ y186 t189 t190 _ ?side1 ?side2 A9.out).mono ?_); (case side1 => repeat (first | exact (Kd.R_reads' HO188.out).2.2 | (with_reducible refine Kd.C_alloc ?_ _) | (with_reducible refine Kd.C_drewN ?_ _) | (with_reducible refine Kd.C_drew ?_))); (case side2 => exact (Kd.R_reads' HO188.out).2.1); rintro e w19 ⟨rfl, hb⟩; have n0_ := Aside0.mk (Kd.R_below (by (with_reducible repeat (first | apply Kd.R_alloc | apply Kd.R_drewN | apply Kd.R_drew)); exact HO188.out) hb); have n1_ := Aside0.mk (below_step (by repeat (first | (with_reducible first | exact HB.out | apply below_alloc | apply pw_below_drewN | apply below_drew1) | exact HB.out)) hb); clear HO188; clear HB; have HO188 := n0_; have HB := n1_; clear n0_ n1_; (try clear hb); (try clear hb2); (try clear hk); (try clear hi); (try clear A9)) | (go_at_call 13; (with_reducible refine (screeref05_Encode.calls k a0 _ _ l1 t191 t192 _ ?side1 ?side2 A10.out).mono ?_); (case side1 => repeat (first | exact (Kd.C_below HR1.out HB.out) | (with_reducible refine Kd.C_alloc ?_ _) | (with_reducible refine Kd.C_drewN ?_ _) | (with_reducible refine Kd.C_drew ?_))); (case side2 => exact HC1.out); rintro e w20 ⟨rfl, hb⟩; have n0_ := Aside0.mk (Kd.R_below (by (with_reducible repeat (first | apply Kd.R_alloc | apply Kd.R_drewN | apply Kd.R_drew)); exact HO188.out) hb); have n1_ := Aside0.mk (below_step (by repeat (first | (with_reducible first | exact HB.out | apply below_alloc | apply pw_below_drewN | apply below_drew1) | exact HB.out)) hb); clear HO188; clear HB; have HO188 := n0_; have HB := n1_; clear n0_ n1_; (try clear hb); (try clear hb2); (try clear hk); (try clear hi); (try clear A10)) | (go_at_call 14; (with_reducible refine (batch_Entries.calls k a0 _ _ y186 t193 _ ?side1 ?side2 A11.out).mono ?_); (case side1 => repeat (first | exact (Kd.R_reads' HO188.out).2.2 | (with_reducible refine Kd.C_alloc ?_ _) | (with_reducible refine Kd.C_drewN ?_ _) | (with_reducible refine Kd.C_drew ?_))); (case side2 => exact (Kd.R_reads' HO188.out).2.1); rintro e w21 ⟨v194, rfl, ho0, hb⟩; have n0_ := Aside0.mk (Kd.R_below (by (with_reducible repeat (first | apply Kd.R_alloc | apply Kd.R_drewN | apply Kd.R_drew)); exact HO188.out) hb); have n1_ := Aside0.mk (Kd.R_lower ho0 (below_size (by repeat (first | (with_reducible first | exact HB.out | apply below_alloc | apply pw_below_drewN | apply below_drew1) | exact HB.out)))); have n2_ := Aside0.mk (below_step (by repeat (first | (with_reducible first | exact HB.out | apply below_alloc | apply pw_below_drewN | apply below_drew1) | exact HB.out)) hb); clear HO188; clear HB; have HO188 := n0_; have HO195 := n1_; have HB := n2_; clear n0_ n1_ n2_; (try clear hb); (try clear hb2); (try clear hk); (try clear hi); (try clear ho0); (try clear A11)) | (go_at_call 15; (with_reducible refine (screeref05_Entries.calls k a0 _ _ l1 t196 _ ?side1 ?side2 A12.out).mono ?_); (case side1 => repeat (first | exact (Kd.C_below HR1.out HB.out) | (with_reducible refine Kd.C_alloc ?_ _) | (with_reducible refine Kd.C_drewN ?_ _) | (with_reducible refine Kd.C_drew ?_))); (case side2 => exact HC1.out); rintro e w22 ⟨v197, rfl, ho0, hb⟩; have n0_ := Aside0.mk (Kd.R_below (by (with_reducible repeat (first | apply Kd.R_alloc | apply Kd.R_drewN | apply Kd.R_drew)); exact HO188.out) hb); have n1_ := Aside0.mk (Kd.R_elder' (by (with_reducible repeat (first | apply Kd.R_alloc | apply Kd.R_drewN | apply Kd.R_drew)); exact HO195.out) (Kd.R_base ho0) hb); have n2_ := Aside0.mk (Kd.R_lower (Kd.R_new' ho0 (Kd.R_lt (by (with_reducible repeat (first | apply Kd.R_alloc | apply Kd.R_drewN | apply Kd.R_drew)); exact HO195.out))) (below_size (by repeat (first | (with_reducible first | exact HB.out | apply below_alloc | apply pw_below_drewN | apply below_drew1) | exact HB.out)))); have n3_ := Aside0.mk (below_step (by repeat (first | (with_reducible first | exact HB.out | apply below_alloc | apply pw_below_drewN | apply below_drew1) | exact HB.out)) hb); clear HO188; clear HO195; clear HB; have HO188 := n0_; have HO195 := n1_; have HO198 := n2_; have HB := n3_; clear n0_ n1_ n2_ n3_; (try clear hb); (try clear hb2); (try clear hk); (try clear hi); (try clear ho0); (try clear A12))))
        (try simp only [Act.put, List.setIfInBounds_toArray, List.set_cons_zero, List.set_cons_succ])
        go_cut [60] (fun v60 wc => ∃ (kq : Nat) (x60_12 : Bool), v60 = .bool x60_12 ∧ Aside0 (screelaw05_BatchWrites.j0 kq l1 y186 t193 t196 x60_12 = some r) ∧ Aside0 (kq ≤ k) ∧ Aside0 (Kd.R k34 34 wc w.heap.size (fun _ => True) (.slice Ao18 y186.length co18) y186) ∧ Aside0 (Kd.R k32 32 wc w.heap.size (fun k_ => some k_ ≠ (v197 : Value).ownBlock) v194 t193) ∧ Aside0 (Kd.R k32 32 wc w.heap.size (fun k_ => some k_ ≠ (v194 : Value).ownBlock) v197 t196) ∧ Aside0 (Below w.heap.size w wc))
        case first =>
          have H := HC13.out
          clear HC13
          by_cases c23 : t189.toList = t191.toList
          · rw [if_pos c23] at H
            have c23b0 : (t189.toList == t191.toList) = true := beq_iff_eq.mpr c23
            have c23b1 : (t189.toList != t191.toList) = false := bne_eq_false_iff_eq.mpr c23
            clear c23
            (first | rw [c23b0] | (simp only [i64_w, i32_w]; rw [c23b0]) | skip)
            by_cases c24 : t190 = t192
            · rw [if_pos c24] at H
              have c24b0 : (t190 == t192) = true := beq_iff_eq.mpr c24
              have c24b1 : (t190 != t192) = false := bne_eq_false_iff_eq.mpr c24
              clear c24
              replace H := Option.bind_eq_some_iff.mp H
              obtain ⟨t199, A250, H⟩ := H
              replace H : ((screeref05_May.f k l1).bind fun t200 => (if (t199 != t200) = true then (screelaw05_BatchWrites.j0 k l1 y186 t193 t196 true) else (screelaw05_BatchWrites.j0 k l1 y186 t193 t196 ((t193.length : Int) != (t196.length : Int))))) = some r := H
              have A25 := Aside0.mk A250
              clear A250
              replace H := Option.bind_eq_some_iff.mp H
              obtain ⟨t200, A260, H⟩ := H
              replace H : (if (t199 != t200) = true then (screelaw05_BatchWrites.j0 k l1 y186 t193 t196 true) else (screelaw05_BatchWrites.j0 k l1 y186 t193 t196 ((t193.length : Int) != (t196.length : Int)))) = some r := H
              have A26 := Aside0.mk A260
              clear A260
              by_cases c27 : (t199 != t200) = true
              · rw [if_pos c27] at H
                have c27b0 : (t199 != t200) = true := c27
                (try (have c27b1 : decide (t199 = t200) = false := by simpa using c27))
                (try (have c27b2 : (t199 == t200) = false := by simpa using c27))
                (try (have c27b3 : ¬ (t199 = t200) := by simpa using c27))
                clear c27
                have H' := Aside0.mk H
                clear H
                go_wp2_with (first | (go_at_call 16; (with_reducible refine (batch_May.calls _ _ y186 t199 _ ?side1 ?side2 A25.out).mono ?_); (case side1 => repeat (first | exact (Kd.R_reads' HO188.out).2.2 | (with_reducible refine Kd.C_alloc ?_ _) | (with_reducible refine Kd.C_drewN ?_ _) | (with_reducible refine Kd.C_drew ?_))); (case side2 => exact (Kd.R_reads' HO188.out).2.1); rintro e w28 ⟨rfl, hb⟩; have n0_ := Aside0.mk (Kd.R_below (by (with_reducible repeat (first | apply Kd.R_alloc | apply Kd.R_drewN | apply Kd.R_drew)); exact HO188.out) hb); have n1_ := Aside0.mk (Kd.R_below (by (with_reducible repeat (first | apply Kd.R_alloc | apply Kd.R_drewN | apply Kd.R_drew)); exact HO195.out) hb); have n2_ := Aside0.mk (Kd.R_below (by (with_reducible repeat (first | apply Kd.R_alloc | apply Kd.R_drewN | apply Kd.R_drew)); exact HO198.out) hb); have n3_ := Aside0.mk (below_step (by repeat (first | (with_reducible first | exact HB.out | apply below_alloc | apply pw_below_drewN | apply below_drew1) | exact HB.out)) hb); clear HO188; clear HO195; clear HO198; clear HB; have HO188 := n0_; have HO195 := n1_; have HO198 := n2_; have HB := n3_; clear n0_ n1_ n2_ n3_; (try clear hb); (try clear hb2); (try clear hk); (try clear hi); (try clear A25)) | (go_at_call 17; (with_reducible refine (screeref05_May.calls k _ _ l1 t200 _ ?side1 ?side2 A26.out).mono ?_); (case side1 => repeat (first | exact (Kd.C_below HR1.out HB.out) | (with_reducible refine Kd.C_alloc ?_ _) | (with_reducible refine Kd.C_drewN ?_ _) | (with_reducible refine Kd.C_drew ?_))); (case side2 => exact HC1.out); rintro e w29 ⟨rfl, hb⟩; have n0_ := Aside0.mk (Kd.R_below (by (with_reducible repeat (first | apply Kd.R_alloc | apply Kd.R_drewN | apply Kd.R_drew)); exact HO188.out) hb); have n1_ := Aside0.mk (Kd.R_below (by (with_reducible repeat (first | apply Kd.R_alloc | apply Kd.R_drewN | apply Kd.R_drew)); exact HO195.out) hb); have n2_ := Aside0.mk (Kd.R_below (by (with_reducible repeat (first | apply Kd.R_alloc | apply Kd.R_drewN | apply Kd.R_drew)); exact HO198.out) hb); have n3_ := Aside0.mk (below_step (by repeat (first | (with_reducible first | exact HB.out | apply below_alloc | apply pw_below_drewN | apply below_drew1) | exact HB.out)) hb); clear HO188; clear HO195; clear HO198; clear HB; have HO188 := n0_; have HO195 := n1_; have HO198 := n2_; have HB := n3_; clear n0_ n1_ n2_ n3_; (try clear hb); (try clear hb2); (try clear hk); (try clear hi); (try clear A26)))
                repeat (go_quiet (first | (go_at_call 16; (with_reducible refine (batch_May.calls _ _ y186 t199 _ ?side1 ?side2 A25.out).mono ?_); (case side1 => repeat (first | exact (Kd.R_reads' HO188.out).2.2 | (with_reducible refine Kd.C_alloc ?_ _) | (with_reducible refine Kd.C_drewN ?_ _) | (with_reducible refine Kd.C_drew ?_))); (case side2 => exact (Kd.R_reads' HO188.out).2.1); rintro e w28 ⟨rfl, hb⟩; have n0_ := Aside0.mk (Kd.R_below (by (with_reducible repeat (first | apply Kd.R_alloc | apply Kd.R_drewN | apply Kd.R_drew)); exact HO188.out) hb); have n1_ := Aside0.mk (Kd.R_below (by (with_reducible repeat (first | apply Kd.R_alloc | apply Kd.R_drewN | apply Kd.R_drew)); exact HO195.out) hb); have n2_ := Aside0.mk (Kd.R_below (by (with_reducible repeat (first | apply Kd.R_alloc | apply Kd.R_drewN | apply Kd.R_drew)); exact HO198.out) hb); have n3_ := Aside0.mk (below_step (by repeat (first | (with_reducible first | exact HB.out | apply below_alloc | apply pw_below_drewN | apply below_drew1) | exact HB.out)) hb); clear HO188; clear HO195; clear HO198; clear HB; have HO188 := n0_; have HO195 := n1_; have HO198 := n2_; have HB := n3_; clear n0_ n1_ n2_ n3_; (try clear hb); (try clear hb2); (try clear hk); (try clear hi); (try clear A25)) | (go_at_call 17; (with_reducible refine (screeref05_May.calls k _ _ l1 t200 _ ?side1 ?side2 A26.out).mono ?_); (case side1 => repeat (first | exact (Kd.C_below HR1.out HB.out) | (with_reducible refine Kd.C_alloc ?_ _) | (with_reducible refine Kd.C_drewN ?_ _) | (with_reducible refine Kd.C_drew ?_))); (case side2 => exact HC1.out); rintro e w29 ⟨rfl, hb⟩; have n0_ := Aside0.mk (Kd.R_below (by (with_reducible repeat (first | apply Kd.R_alloc | apply Kd.R_drewN | apply Kd.R_drew)); exact HO188.out) hb); have n1_ := Aside0.mk (Kd.R_below (by (with_reducible repeat (first | apply Kd.R_alloc | apply Kd.R_drewN | apply Kd.R_drew)); exact HO195.out) hb); have n2_ := Aside0.mk (Kd.R_below (by (with_reducible repeat (first | apply Kd.R_alloc | apply Kd.R_drewN | apply Kd.R_drew)); exact HO198.out) hb); have n3_ := Aside0.mk (below_step (by repeat (first | (with_reducible first | exact HB.out | apply below_alloc | apply pw_below_drewN | apply below_drew1) | exact HB.out)) hb); clear HO188; clear HO195; clear HO198; clear HB; have HO188 := n0_; have HO195 := n1_; have HO198 := n2_; have HB := n3_; clear n0_ n1_ n2_ n3_; (try clear hb); (try clear hb2); (try clear hk); (try clear hi); (try clear A26))); try go_wp2_with (first | (go_at_call 16; (with_reducible refine (batch_May.calls _ _ y186 t199 _ ?side1 ?side2 A25.out).mono ?_); (case side1 => repeat (first | exact (Kd.R_reads' HO188.out).2.2 | (with_reducible refine Kd.C_alloc ?_ _) | (with_reducible refine Kd.C_drewN ?_ _) | (with_reducible refine Kd.C_drew ?_))); (case side2 => exact (Kd.R_reads' HO188.out).2.1); rintro e w28 ⟨rfl, hb⟩; have n0_ := Aside0.mk (Kd.R_below (by (with_reducible repeat (first | apply Kd.R_alloc | apply Kd.R_drewN | apply Kd.R_drew)); exact HO188.out) hb); have n1_ := Aside0.mk (Kd.R_below (by (with_reducible repeat (first | apply Kd.R_alloc | apply Kd.R_drewN | apply Kd.R_drew)); exact HO195.out) hb); have n2_ := Aside0.mk (Kd.R_below (by (with_reducible repeat (first | apply Kd.R_alloc | apply Kd.R_drewN | apply Kd.R_drew)); exact HO198.out) hb); have n3_ := Aside0.mk (below_step (by repeat (first | (with_reducible first | exact HB.out | apply below_alloc | apply pw_below_drewN | apply below_drew1) | exact HB.out)) hb); clear HO188; clear HO195; clear HO198; clear HB; have HO188 := n0_; have HO195 := n1_; have HO198 := n2_; have HB := n3_; clear n0_ n1_ n2_ n3_; (try clear hb); (try clear hb2); (try clear hk); (try clear hi); (try clear A25)) | (go_at_call 17; (with_reducible refine (screeref05_May.calls k _ _ l1 t200 _ ?side1 ?side2 A26.out).mono ?_); (case side1 => repeat (first | exact (Kd.C_below HR1.out HB.out) | (with_reducible refine Kd.C_alloc ?_ _) | (with_reducible refine Kd.C_drewN ?_ _) | (with_reducible refine Kd.C_drew ?_))); (case side2 => exact HC1.out); rintro e w29 ⟨rfl, hb⟩; have n0_ := Aside0.mk (Kd.R_below (by (with_reducible repeat (first | apply Kd.R_alloc | apply Kd.R_drewN | apply Kd.R_drew)); exact HO188.out) hb); have n1_ := Aside0.mk (Kd.R_below (by (with_reducible repeat (first | apply Kd.R_alloc | apply Kd.R_drewN | apply Kd.R_drew)); exact HO195.out) hb); have n2_ := Aside0.mk (Kd.R_below (by (with_reducible repeat (first | apply Kd.R_alloc | apply Kd.R_drewN | apply Kd.R_drew)); exact HO198.out) hb); have n3_ := Aside0.mk (below_step (by repeat (first | (with_reducible first | exact HB.out | apply below_alloc | apply pw_below_drewN | apply below_drew1) | exact HB.out)) hb); clear HO188; clear HO195; clear HO198; clear HB; have HO188 := n0_; have HO195 := n1_; have HO198 := n2_; have HB := n3_; clear n0_ n1_ n2_ n3_; (try clear hb); (try clear hb2); (try clear hk); (try clear hi); (try clear A26))))
                go_meet
                case rel => exact ⟨_, (true), (by first | rfl | (simp; done) | (simp [*]; done)), (by first | (with_reducible exact H') | exact H' | (subst_vars; exact H')), ⟨by first | omega | exact Nat.le_refl _⟩, ⟨by (with_reducible repeat (first | apply Kd.R_alloc | apply Kd.R_drewN | apply Kd.R_drew)); exact HO188.out⟩, ⟨by (with_reducible repeat (first | apply Kd.R_alloc | apply Kd.R_drewN | apply Kd.R_drew)); exact Kd.R_mono HO195.out (fun _ hk => hk.2)⟩, ⟨by (with_reducible repeat (first | apply Kd.R_alloc | apply Kd.R_drewN | apply Kd.R_drew)); exact Kd.R_mono HO198.out (fun _ hk => hk.2)⟩, ⟨by repeat (first | (with_reducible first | exact HB.out | apply below_alloc | apply pw_below_drewN | apply below_drew1) | exact HB.out)⟩⟩
              · rw [if_neg c27] at H
                have c27b0 : (t199 != t200) = false := by simpa using c27
                (try (have c27b1 : decide (t199 = t200) = true := by simpa using c27))
                (try (have c27b2 : (t199 == t200) = true := by simpa using c27))
                clear c27
                have H' := Aside0.mk H
                clear H
                go_wp2_with (first | (go_at_call 16; (with_reducible refine (batch_May.calls _ _ y186 t199 _ ?side1 ?side2 A25.out).mono ?_); (case side1 => repeat (first | exact (Kd.R_reads' HO188.out).2.2 | (with_reducible refine Kd.C_alloc ?_ _) | (with_reducible refine Kd.C_drewN ?_ _) | (with_reducible refine Kd.C_drew ?_))); (case side2 => exact (Kd.R_reads' HO188.out).2.1); rintro e w30 ⟨rfl, hb⟩; have n0_ := Aside0.mk (Kd.R_below (by (with_reducible repeat (first | apply Kd.R_alloc | apply Kd.R_drewN | apply Kd.R_drew)); exact HO188.out) hb); have n1_ := Aside0.mk (Kd.R_below (by (with_reducible repeat (first | apply Kd.R_alloc | apply Kd.R_drewN | apply Kd.R_drew)); exact HO195.out) hb); have n2_ := Aside0.mk (Kd.R_below (by (with_reducible repeat (first | apply Kd.R_alloc | apply Kd.R_drewN | apply Kd.R_drew)); exact HO198.out) hb); have n3_ := Aside0.mk (below_step (by repeat (first | (with_reducible first | exact HB.out | apply below_alloc | apply pw_below_drewN | apply below_drew1) | exact HB.out)) hb); clear HO188; clear HO195; clear HO198; clear HB; have HO188 := n0_; have HO195 := n1_; have HO198 := n2_; have HB := n3_; clear n0_ n1_ n2_ n3_; (try clear hb); (try clear hb2); (try clear hk); (try clear hi); (try clear A25)) | (go_at_call 17; (with_reducible refine (screeref05_May.calls k _ _ l1 t200 _ ?side1 ?side2 A26.out).mono ?_); (case side1 => repeat (first | exact (Kd.C_below HR1.out HB.out) | (with_reducible refine Kd.C_alloc ?_ _) | (with_reducible refine Kd.C_drewN ?_ _) | (with_reducible refine Kd.C_drew ?_))); (case side2 => exact HC1.out); rintro e w31 ⟨rfl, hb⟩; have n0_ := Aside0.mk (Kd.R_below (by (with_reducible repeat (first | apply Kd.R_alloc | apply Kd.R_drewN | apply Kd.R_drew)); exact HO188.out) hb); have n1_ := Aside0.mk (Kd.R_below (by (with_reducible repeat (first | apply Kd.R_alloc | apply Kd.R_drewN | apply Kd.R_drew)); exact HO195.out) hb); have n2_ := Aside0.mk (Kd.R_below (by (with_reducible repeat (first | apply Kd.R_alloc | apply Kd.R_drewN | apply Kd.R_drew)); exact HO198.out) hb); have n3_ := Aside0.mk (below_step (by repeat (first | (with_reducible first | exact HB.out | apply below_alloc | apply pw_below_drewN | apply below_drew1) | exact HB.out)) hb); clear HO188; clear HO195; clear HO198; clear HB; have HO188 := n0_; have HO195 := n1_; have HO198 := n2_; have HB := n3_; clear n0_ n1_ n2_ n3_; (try clear hb); (try clear hb2); (try clear hk); (try clear hi); (try clear A26); obtain ⟨Ao32, co32, eo32⟩ := Kd.R_slice HO195.out; subst eo32; obtain ⟨Ao33, co33, eo33⟩ := Kd.R_slice HO198.out; subst eo33))
                repeat (go_quiet (first | (go_at_call 16; (with_reducible refine (batch_May.calls _ _ y186 t199 _ ?side1 ?side2 A25.out).mono ?_); (case side1 => repeat (first | exact (Kd.R_reads' HO188.out).2.2 | (with_reducible refine Kd.C_alloc ?_ _) | (with_reducible refine Kd.C_drewN ?_ _) | (with_reducible refine Kd.C_drew ?_))); (case side2 => exact (Kd.R_reads' HO188.out).2.1); rintro e w30 ⟨rfl, hb⟩; have n0_ := Aside0.mk (Kd.R_below (by (with_reducible repeat (first | apply Kd.R_alloc | apply Kd.R_drewN | apply Kd.R_drew)); exact HO188.out) hb); have n1_ := Aside0.mk (Kd.R_below (by (with_reducible repeat (first | apply Kd.R_alloc | apply Kd.R_drewN | apply Kd.R_drew)); exact HO195.out) hb); have n2_ := Aside0.mk (Kd.R_below (by (with_reducible repeat (first | apply Kd.R_alloc | apply Kd.R_drewN | apply Kd.R_drew)); exact HO198.out) hb); have n3_ := Aside0.mk (below_step (by repeat (first | (with_reducible first | exact HB.out | apply below_alloc | apply pw_below_drewN | apply below_drew1) | exact HB.out)) hb); clear HO188; clear HO195; clear HO198; clear HB; have HO188 := n0_; have HO195 := n1_; have HO198 := n2_; have HB := n3_; clear n0_ n1_ n2_ n3_; (try clear hb); (try clear hb2); (try clear hk); (try clear hi); (try clear A25)) | (go_at_call 17; (with_reducible refine (screeref05_May.calls k _ _ l1 t200 _ ?side1 ?side2 A26.out).mono ?_); (case side1 => repeat (first | exact (Kd.C_below HR1.out HB.out) | (with_reducible refine Kd.C_alloc ?_ _) | (with_reducible refine Kd.C_drewN ?_ _) | (with_reducible refine Kd.C_drew ?_))); (case side2 => exact HC1.out); rintro e w31 ⟨rfl, hb⟩; have n0_ := Aside0.mk (Kd.R_below (by (with_reducible repeat (first | apply Kd.R_alloc | apply Kd.R_drewN | apply Kd.R_drew)); exact HO188.out) hb); have n1_ := Aside0.mk (Kd.R_below (by (with_reducible repeat (first | apply Kd.R_alloc | apply Kd.R_drewN | apply Kd.R_drew)); exact HO195.out) hb); have n2_ := Aside0.mk (Kd.R_below (by (with_reducible repeat (first | apply Kd.R_alloc | apply Kd.R_drewN | apply Kd.R_drew)); exact HO198.out) hb); have n3_ := Aside0.mk (below_step (by repeat (first | (with_reducible first | exact HB.out | apply below_alloc | apply pw_below_drewN | apply below_drew1) | exact HB.out)) hb); clear HO188; clear HO195; clear HO198; clear HB; have HO188 := n0_; have HO195 := n1_; have HO198 := n2_; have HB := n3_; clear n0_ n1_ n2_ n3_; (try clear hb); (try clear hb2); (try clear hk); (try clear hi); (try clear A26); obtain ⟨Ao32, co32, eo32⟩ := Kd.R_slice HO195.out; subst eo32; obtain ⟨Ao33, co33, eo33⟩ := Kd.R_slice HO198.out; subst eo33)); try go_wp2_with (first | (go_at_call 16; (with_reducible refine (batch_May.calls _ _ y186 t199 _ ?side1 ?side2 A25.out).mono ?_); (case side1 => repeat (first | exact (Kd.R_reads' HO188.out).2.2 | (with_reducible refine Kd.C_alloc ?_ _) | (with_reducible refine Kd.C_drewN ?_ _) | (with_reducible refine Kd.C_drew ?_))); (case side2 => exact (Kd.R_reads' HO188.out).2.1); rintro e w30 ⟨rfl, hb⟩; have n0_ := Aside0.mk (Kd.R_below (by (with_reducible repeat (first | apply Kd.R_alloc | apply Kd.R_drewN | apply Kd.R_drew)); exact HO188.out) hb); have n1_ := Aside0.mk (Kd.R_below (by (with_reducible repeat (first | apply Kd.R_alloc | apply Kd.R_drewN | apply Kd.R_drew)); exact HO195.out) hb); have n2_ := Aside0.mk (Kd.R_below (by (with_reducible repeat (first | apply Kd.R_alloc | apply Kd.R_drewN | apply Kd.R_drew)); exact HO198.out) hb); have n3_ := Aside0.mk (below_step (by repeat (first | (with_reducible first | exact HB.out | apply below_alloc | apply pw_below_drewN | apply below_drew1) | exact HB.out)) hb); clear HO188; clear HO195; clear HO198; clear HB; have HO188 := n0_; have HO195 := n1_; have HO198 := n2_; have HB := n3_; clear n0_ n1_ n2_ n3_; (try clear hb); (try clear hb2); (try clear hk); (try clear hi); (try clear A25)) | (go_at_call 17; (with_reducible refine (screeref05_May.calls k _ _ l1 t200 _ ?side1 ?side2 A26.out).mono ?_); (case side1 => repeat (first | exact (Kd.C_below HR1.out HB.out) | (with_reducible refine Kd.C_alloc ?_ _) | (with_reducible refine Kd.C_drewN ?_ _) | (with_reducible refine Kd.C_drew ?_))); (case side2 => exact HC1.out); rintro e w31 ⟨rfl, hb⟩; have n0_ := Aside0.mk (Kd.R_below (by (with_reducible repeat (first | apply Kd.R_alloc | apply Kd.R_drewN | apply Kd.R_drew)); exact HO188.out) hb); have n1_ := Aside0.mk (Kd.R_below (by (with_reducible repeat (first | apply Kd.R_alloc | apply Kd.R_drewN | apply Kd.R_drew)); exact HO195.out) hb); have n2_ := Aside0.mk (Kd.R_below (by (with_reducible repeat (first | apply Kd.R_alloc | apply Kd.R_drewN | apply Kd.R_drew)); exact HO198.out) hb); have n3_ := Aside0.mk (below_step (by repeat (first | (with_reducible first | exact HB.out | apply below_alloc | apply pw_below_drewN | apply below_drew1) | exact HB.out)) hb); clear HO188; clear HO195; clear HO198; clear HB; have HO188 := n0_; have HO195 := n1_; have HO198 := n2_; have HB := n3_; clear n0_ n1_ n2_ n3_; (try clear hb); (try clear hb2); (try clear hk); (try clear hi); (try clear A26); obtain ⟨Ao32, co32, eo32⟩ := Kd.R_slice HO195.out; subst eo32; obtain ⟨Ao33, co33, eo33⟩ := Kd.R_slice HO198.out; subst eo33)))
                go_meet
                case rel => exact ⟨_, (((t193.length : Int) != (t196.length : Int))), (by first | rfl | (simp; done) | (simp [*]; done)), (by first | (with_reducible exact H') | exact H' | (subst_vars; exact H')), ⟨by first | omega | exact Nat.le_refl _⟩, ⟨by (with_reducible repeat (first | apply Kd.R_alloc | apply Kd.R_drewN | apply Kd.R_drew)); exact HO188.out⟩, ⟨by (with_reducible repeat (first | apply Kd.R_alloc | apply Kd.R_drewN | apply Kd.R_drew)); exact Kd.R_mono HO195.out (fun _ hk => hk.2)⟩, ⟨by (with_reducible repeat (first | apply Kd.R_alloc | apply Kd.R_drewN | apply Kd.R_drew)); exact Kd.R_mono HO198.out (fun _ hk => hk.2)⟩, ⟨by repeat (first | (with_reducible first | exact HB.out | apply below_alloc | apply pw_below_drewN | apply below_drew1) | exact HB.out)⟩⟩
            · rw [if_neg c24] at H
              have c24b0 : (t190 == t192) = false := beq_eq_false_iff_ne.mpr c24
              have c24b1 : (t190 != t192) = true := bne_iff_ne.mpr c24
              have H' := Aside0.mk H
              clear H
              go_wp2
              repeat (go_quiet (fail); try go_wp2)
              go_meet
              case rel => exact ⟨_, (true), (by first | rfl | (simp; done) | (simp [*]; done)), (by first | (with_reducible exact H') | exact H' | (subst_vars; exact H')), ⟨by first | omega | exact Nat.le_refl _⟩, ⟨by (with_reducible repeat (first | apply Kd.R_alloc | apply Kd.R_drewN | apply Kd.R_drew)); exact HO188.out⟩, ⟨by (with_reducible repeat (first | apply Kd.R_alloc | apply Kd.R_drewN | apply Kd.R_drew)); exact Kd.R_mono HO195.out (fun _ hk => hk.2)⟩, ⟨by (with_reducible repeat (first | apply Kd.R_alloc | apply Kd.R_drewN | apply Kd.R_drew)); exact Kd.R_mono HO198.out (fun _ hk => hk.2)⟩, ⟨by repeat (first | (with_reducible first | exact HB.out | apply below_alloc | apply pw_below_drewN | apply below_drew1) | exact HB.out)⟩⟩
          · rw [if_neg c23] at H
            have c23b0 : (t189.toList == t191.toList) = false := beq_eq_false_iff_ne.mpr c23
            have c23b1 : (t189.toList != t191.toList) = true := bne_iff_ne.mpr c23
            (first | rw [c23b0] | (simp only [i64_w, i32_w]; rw [c23b0]) | skip)
            have H' := Aside0.mk H
            clear H
            go_wp2
            repeat (go_quiet (fail); try go_wp2)
            go_meet
            case rel => exact ⟨_, (true), (by first | rfl | (simp; done) | (simp [*]; done)), (by first | (with_reducible exact H') | exact H' | (subst_vars; exact H')), ⟨by first | omega | exact Nat.le_refl _⟩, ⟨by (with_reducible repeat (first | apply Kd.R_alloc | apply Kd.R_drewN | apply Kd.R_drew)); exact HO188.out⟩, ⟨by (with_reducible repeat (first | apply Kd.R_alloc | apply Kd.R_drewN | apply Kd.R_drew)); exact Kd.R_mono HO195.out (fun _ hk => hk.2)⟩, ⟨by (with_reducible repeat (first | apply Kd.R_alloc | apply Kd.R_drewN | apply Kd.R_drew)); exact Kd.R_mono HO198.out (fun _ hk => hk.2)⟩, ⟨by repeat (first | (with_reducible first | exact HB.out | apply below_alloc | apply pw_below_drewN | apply below_drew1) | exact HB.out)⟩⟩
        case rest =>
          clear HC13
          try clear c1
          try clear c2
          try clear p2
          try clear c3
          try clear c4
          try clear c6
          try clear c8
          try clear c23
          try clear c23b0
          try clear c23b1
          try clear c24
          try clear c24b0
          try clear c24b1
          try clear c27
          try clear c27b0
          try clear c27b1
          try clear c27b2
          obtain ⟨kq, x60_12, rfl, HA, HJ12, HO_5, HO_10, HO_11, HB⟩ := hcut
          cases kq with
          | zero => exact absurd HA.out (by simp [screelaw05_BatchWrites.j0])
          | succ kj12 =>
            have H := HA.out
            clear HA
            simp only [screelaw05_BatchWrites.j0] at H
            by_cases c34 : x60_12 = true
            · subst c34
              have H1 : (none) = some r := by rw [if_pos rfl] at H; exact H
              clear H
              have H := H1
              clear H1
              exact absurd H (by simp)
            · replace c34 := Bool.eq_false_iff.mpr c34
              subst c34
              have H1 : (screelaw05_BatchWrites.l0 kj12 l1 y186 t193 t196 0 (t193.length : Int) 0) = some r := by rw [if_neg (show ¬ (false = true) by decide)] at H; exact H
              clear H
              have H := H1
              clear H1
              have H' := Aside0.mk H
              clear H
              obtain ⟨Ao35, co35, eo35⟩ := Kd.R_slice HO_10.out
              subst eo35
              go_wp2
              repeat (go_quiet (fail); try go_wp2)
              go_loopg [12, 63] kj12 (fun kq v12 v63 w' => ∃ (x12_2 : Int) (x63_2 : Int), v12 = .int .i64 x12_2 ∧ v63 = .int .i64 x63_2 ∧ Aside0 (screelaw05_BatchWrites.l0 kq l1 y186 t193 t196 x12_2 (t193.length : Int) x63_2 = some r) ∧ Aside0 (kq ≤ kj12) ∧ Aside0 (Kd.R k34 34 w' w.heap.size (fun _ => True) (.slice Ao18 y186.length co18) y186) ∧ Aside0 (Kd.R k32 32 w' w.heap.size (fun k_ => some k_ ≠ (v197 : Value).ownBlock) (.slice Ao35 t193.length co35) t193) ∧ Aside0 (Kd.R k32 32 w' w.heap.size (fun k_ => some k_ ≠ ((.slice Ao35 t193.length co35) : Value).ownBlock) v197 t196) ∧ Aside0 (Below w.heap.size w w'))
              case atStart => exact ⟨(0), (0), (by first | rfl | (simp; done) | (simp [*]; done)), (by first | rfl | (simp; done) | (simp [*]; done)), H', ⟨Nat.le_refl _⟩, ⟨by (with_reducible repeat (first | apply Kd.R_alloc | apply Kd.R_drewN | apply Kd.R_drew)); exact HO_5.out⟩, ⟨by (with_reducible repeat (first | apply Kd.R_alloc | apply Kd.R_drewN | apply Kd.R_drew)); exact HO_10.out⟩, ⟨by (with_reducible repeat (first | apply Kd.R_alloc | apply Kd.R_drewN | apply Kd.R_drew)); exact HO_11.out⟩, ⟨by repeat (first | (with_reducible first | exact HB.out | apply below_alloc | apply pw_below_drewN | apply below_drew1) | exact HB.out)⟩⟩
              case round =>
                clear H'
                try clear c1
                try clear c2
                try clear p2
                try clear c3
                try clear c4
                try clear c6
                try clear c8
                try clear c23
                try clear c23b0
                try clear c23b1
                try clear c24
                try clear c24b0
                try clear c24b1
                try clear c27
                try clear c27b0
                try clear c27b1
                try clear c27b2
                try clear c34
                try clear p2
                obtain ⟨x12_2, x63_2, rfl, rfl, HA, HK2, HO_5, HO_10, HO_11, HB⟩ := hrel
                cases gk with
                | zero => exact absurd HA.out (by simp [screelaw05_BatchWrites.l0])
                | succ k2 =>
                  have H := HA.out
                  clear HA
                  simp only [screelaw05_BatchWrites.l0] at H
                  by_cases c36 : x63_2 < (t193.length : Int)
                  · rw [if_pos c36] at H
                    have c36b0 : decide (x63_2 < (t193.length : Int)) = true := decide_eq_true c36
                    clear c36
                    by_cases c37 : 0 ≤ x63_2
                    · rw [if_pos c37] at H
                      have c37b0 : decide (0 ≤ x63_2) = true := decide_eq_true c37
                      clear c37
                      by_cases c38 : x63_2 < (t193.length : Int)
                      · rw [if_pos c38] at H
                        have c38b0 : decide (x63_2 < (t193.length : Int)) = true := decide_eq_true c38
                        clear c38
                        by_cases c39 : x63_2 < (t196.length : Int)
                        · rw [if_pos c39] at H
                          have c39b0 : decide (x63_2 < (t196.length : Int)) = true := decide_eq_true c39
                          clear c39
                          by_cases c40 : (!((((rd_T32 t193 x63_2).f0).toList) == (((rd_T32 t196 x63_2).f0).toList)) || (!(((rd_T32 t193 x63_2).f1) == ((rd_T32 t196 x63_2).f1)) || (!(((rd_T32 t193 x63_2).f2) == ((rd_T32 t196 x63_2).f2)) || (!((((rd_T32 t193 x63_2).f3).toList) == (((rd_T32 t196 x63_2).f3).toList)))))) = true
                          · rw [if_pos c40] at H
                            exact absurd H (by simp)
                          · rw [if_neg c40] at H
                            have c40b0 : (!((((rd_T32 t193 x63_2).f0).toList) == (((rd_T32 t196 x63_2).f0).toList)) || (!(((rd_T32 t193 x63_2).f1) == ((rd_T32 t196 x63_2).f1)) || (!(((rd_T32 t193 x63_2).f2) == ((rd_T32 t196 x63_2).f2)) || (!((((rd_T32 t193 x63_2).f3).toList) == (((rd_T32 t196 x63_2).f3).toList)))))) = false := by simpa using c40
                            clear c40
                            by_cases c41 : x63_2 < (l1.length : Int)
                            · rw [if_pos c41] at H
                              have c41b0 : decide (x63_2 < (l1.length : Int)) = true := decide_eq_true c41
                              clear c41
                              have H' := Aside0.mk H
                              clear H
                              have p201 : 0 ≤ (x63_2 : Int) := of_decide_eq_true (by first | (with_reducible assumption) | assumption)
                              have q201 : x63_2 < (t193.length : Int) := of_decide_eq_true (by first | (with_reducible assumption) | assumption)
                              obtain ⟨ad201, e201, hx201_0, hx201_1, hx201_2, hx201_3⟩ := at_T32 (Kd.R_reads' HO_10.out).2.2 x63_2 p201 q201
                              cases e201
                              replace p201 := eq_true p201
                              replace q201 := eq_true q201
                              obtain ⟨Ao42, co42, eo42⟩ := Kd.R_slice HO_11.out
                              subst eo42
                              have p202 : 0 ≤ (x63_2 : Int) := of_decide_eq_true (by first | (with_reducible assumption) | assumption)
                              have q202 : x63_2 < (t196.length : Int) := of_decide_eq_true (by first | (with_reducible assumption) | assumption)
                              obtain ⟨ad202, e202, hx202_0, hx202_1, hx202_2, hx202_3⟩ := at_T32 (Kd.R_reads' HO_11.out).2.2 x63_2 p202 q202
                              cases e202
                              replace p202 := eq_true p202
                              replace q202 := eq_true q202
                              have p203 : 0 ≤ (x63_2 : Int) := of_decide_eq_true (by first | (with_reducible assumption) | assumption)
                              have q203 : x63_2 < (l1.length : Int) := of_decide_eq_true (by first | (with_reducible assumption) | assumption)
                              obtain ⟨ad203, e203, hx203_0, hx203_1, hx203_2⟩ := at_T34 HR1.out x63_2 p203 q203
                              cases e203
                              replace hx203_0 := (HB.out.cell (World.block_lt_of_cell? w _ hx203_0)).trans hx203_0
                              replace hx203_1 := (HB.out.cell (World.block_lt_of_cell? w _ hx203_1)).trans hx203_1
                              replace hx203_2 := (HB.out.cell (World.block_lt_of_cell? w _ hx203_2)).trans hx203_2
                              replace p203 := eq_true p203
                              replace q203 := eq_true q203
                              have p204 : 0 ≤ (x63_2 : Int) := of_decide_eq_true (by first | (with_reducible assumption) | assumption)
                              have q204 : x63_2 < (l1.length : Int) := of_decide_eq_true (by first | (with_reducible assumption) | assumption)
                              obtain ⟨ad204, e204, hx204_0, hx204_1, hx204_2⟩ := at_T34 HR1.out x63_2 p204 q204
                              obtain rfl : ad203 = ad204 := (by injection e204)
                              replace hx204_0 := (HB.out.cell (World.block_lt_of_cell? w _ hx204_0)).trans hx204_0
                              replace hx204_1 := (HB.out.cell (World.block_lt_of_cell? w _ hx204_1)).trans hx204_1
                              replace hx204_2 := (HB.out.cell (World.block_lt_of_cell? w _ hx204_2)).trans hx204_2
                              replace p204 := eq_true p204
                              replace q204 := eq_true q204
                              go_wp2
                              repeat (go_quiet (fail); try go_wp2)
                              go_roundg k2
                              case measure => have := HJ12.out; have := HK2.out; omega
                              case rel => exact ⟨(wrap64 (x12_2 + (wrap64 ((((rd_T34 l1 x63_2).f1).size : Int) + (((rd_T34 l1 x63_2).f2).size : Int))))), (wrap64 (x63_2 + 1)), (by first | rfl | (simp; done) | (simp [*]; done)), (by first | rfl | (simp; done) | (simp [*]; done)), (by first | (with_reducible exact H') | exact H' | (subst_vars; exact H')), ⟨by have := HJ12.out; have := HK2.out; omega⟩, ⟨by (with_reducible repeat (first | apply Kd.R_alloc | apply Kd.R_drewN | apply Kd.R_drew)); exact HO_5.out⟩, ⟨by (with_reducible repeat (first | apply Kd.R_alloc | apply Kd.R_drewN | apply Kd.R_drew)); exact HO_10.out⟩, ⟨by (with_reducible repeat (first | apply Kd.R_alloc | apply Kd.R_drewN | apply Kd.R_drew)); exact HO_11.out⟩, ⟨by repeat (first | (with_reducible first | exact HB.out | apply below_alloc | apply pw_below_drewN | apply below_drew1) | exact HB.out)⟩⟩
                            · rw [if_neg c41] at H
                              exact absurd H (by simp)
                        · rw [if_neg c39] at H
                          exact absurd H (by simp)
                      · rw [if_neg c38] at H
                        exact absurd H (by simp)
                    · rw [if_neg c37] at H
                      exact absurd H (by simp)
                  · rw [if_neg c36] at H
                    have c36b0 : decide (x63_2 < (t193.length : Int)) = false := decide_eq_false c36
                    clear c36
                    replace H := Option.bind_eq_some_iff.mp H
                    obtain ⟨t205, A430, H⟩ := H
                    replace H : (if t205 = x12_2 then ((screeref05_Same.f k2 y186 l1).bind fun t206 => (some t206)) else (none)) = some r := H
                    have A43 := Aside0.mk A430
                    clear A430
                    by_cases c44 : t205 = x12_2
                    · rw [if_pos c44] at H
                      have c44b0 : (t205 == x12_2) = true := beq_iff_eq.mpr c44
                      have c44b1 : (t205 != x12_2) = false := bne_eq_false_iff_eq.mpr c44
                      clear c44
                      replace H := Option.bind_eq_some_iff.mp H
                      obtain ⟨t206, A450, H⟩ := H
                      replace H : (some t206) = some r := H
                      have A45 := Aside0.mk A450
                      clear A450
                      obtain rfl := Option.some.inj H
                      go_wp2_with (first | (go_at_call 18; (with_reducible refine (batch_Size.calls k2 _ _ y186 t205 _ ?side1 ?side2 A43.out).mono ?_); (case side1 => repeat (first | exact (Kd.R_reads' HO_5.out).2.2 | (with_reducible refine Kd.C_alloc ?_ _) | (with_reducible refine Kd.C_drewN ?_ _) | (with_reducible refine Kd.C_drew ?_))); (case side2 => exact (Kd.R_reads' HO_5.out).2.1); rintro e w46 ⟨rfl, hb⟩; have n0_ := Aside0.mk (Kd.R_below (by (with_reducible repeat (first | apply Kd.R_alloc | apply Kd.R_drewN | apply Kd.R_drew)); exact HO_5.out) hb); have n1_ := Aside0.mk (Kd.R_below (by (with_reducible repeat (first | apply Kd.R_alloc | apply Kd.R_drewN | apply Kd.R_drew)); exact HO_10.out) hb); have n2_ := Aside0.mk (Kd.R_below (by (with_reducible repeat (first | apply Kd.R_alloc | apply Kd.R_drewN | apply Kd.R_drew)); exact HO_11.out) hb); have n3_ := Aside0.mk (below_step (by repeat (first | (with_reducible first | exact HB.out | apply below_alloc | apply pw_below_drewN | apply below_drew1) | exact HB.out)) hb); clear HO_5; clear HO_10; clear HO_11; clear HB; have HO_5 := n0_; have HO_10 := n1_; have HO_11 := n2_; have HB := n3_; clear n0_ n1_ n2_ n3_; (try clear hb); (try clear hb2); (try clear hk); (try clear hi); (try clear A43)) | (go_at_call 19; (with_reducible refine (screeref05_Same.calls k2 _ _ y186 _ _ l1 t206 _ ?side1 ?side2 ?side3 ?side4 A45.out).mono ?_); (case side1 => repeat (first | exact (Kd.R_reads' HO_5.out).2.2 | (with_reducible refine Kd.C_alloc ?_ _) | (with_reducible refine Kd.C_drewN ?_ _) | (with_reducible refine Kd.C_drew ?_))); (case side2 => exact (Kd.R_reads' HO_5.out).2.1); (case side3 => repeat (first | exact (Kd.C_below HR1.out HB.out) | (with_reducible refine Kd.C_alloc ?_ _) | (with_reducible refine Kd.C_drewN ?_ _) | (with_reducible refine Kd.C_drew ?_))); (case side4 => exact HC1.out); rintro e w' ⟨rfl, ⟨nd, rfl⟩⟩; (try first | exact ⟨rfl, _, World.drewN_drewN _ _ _⟩ | exact ⟨rfl, _, Eq.trans (World.drewN_drewN _ _ _) (congrArg (World.drewN _) (Nat.add_assoc _ _ _))⟩)))
                      repeat (go_quiet (first | (go_at_call 18; (with_reducible refine (batch_Size.calls k2 _ _ y186 t205 _ ?side1 ?side2 A43.out).mono ?_); (case side1 => repeat (first | exact (Kd.R_reads' HO_5.out).2.2 | (with_reducible refine Kd.C_alloc ?_ _) | (with_reducible refine Kd.C_drewN ?_ _) | (with_reducible refine Kd.C_drew ?_))); (case side2 => exact (Kd.R_reads' HO_5.out).2.1); rintro e w46 ⟨rfl, hb⟩; have n0_ := Aside0.mk (Kd.R_below (by (with_reducible repeat (first | apply Kd.R_alloc | apply Kd.R_drewN | apply Kd.R_drew)); exact HO_5.out) hb); have n1_ := Aside0.mk (Kd.R_below (by (with_reducible repeat (first | apply Kd.R_alloc | apply Kd.R_drewN | apply Kd.R_drew)); exact HO_10.out) hb); have n2_ := Aside0.mk (Kd.R_below (by (with_reducible repeat (first | apply Kd.R_alloc | apply Kd.R_drewN | apply Kd.R_drew)); exact HO_11.out) hb); have n3_ := Aside0.mk (below_step (by repeat (first | (with_reducible first | exact HB.out | apply below_alloc | apply pw_below_drewN | apply below_drew1) | exact HB.out)) hb); clear HO_5; clear HO_10; clear HO_11; clear HB; have HO_5 := n0_; have HO_10 := n1_; have HO_11 := n2_; have HB := n3_; clear n0_ n1_ n2_ n3_; (try clear hb); (try clear hb2); (try clear hk); (try clear hi); (try clear A43)) | (go_at_call 19; (with_reducible refine (screeref05_Same.calls k2 _ _ y186 _ _ l1 t206 _ ?side1 ?side2 ?side3 ?side4 A45.out).mono ?_); (case side1 => repeat (first | exact (Kd.R_reads' HO_5.out).2.2 | (with_reducible refine Kd.C_alloc ?_ _) | (with_reducible refine Kd.C_drewN ?_ _) | (with_reducible refine Kd.C_drew ?_))); (case side2 => exact (Kd.R_reads' HO_5.out).2.1); (case side3 => repeat (first | exact (Kd.C_below HR1.out HB.out) | (with_reducible refine Kd.C_alloc ?_ _) | (with_reducible refine Kd.C_drewN ?_ _) | (with_reducible refine Kd.C_drew ?_))); (case side4 => exact HC1.out); rintro e w' ⟨rfl, ⟨nd, rfl⟩⟩; (try first | exact ⟨rfl, _, World.drewN_drewN _ _ _⟩ | exact ⟨rfl, _, Eq.trans (World.drewN_drewN _ _ _) (congrArg (World.drewN _) (Nat.add_assoc _ _ _))⟩))); try go_wp2_with (first | (go_at_call 18; (with_reducible refine (batch_Size.calls k2 _ _ y186 t205 _ ?side1 ?side2 A43.out).mono ?_); (case side1 => repeat (first | exact (Kd.R_reads' HO_5.out).2.2 | (with_reducible refine Kd.C_alloc ?_ _) | (with_reducible refine Kd.C_drewN ?_ _) | (with_reducible refine Kd.C_drew ?_))); (case side2 => exact (Kd.R_reads' HO_5.out).2.1); rintro e w46 ⟨rfl, hb⟩; have n0_ := Aside0.mk (Kd.R_below (by (with_reducible repeat (first | apply Kd.R_alloc | apply Kd.R_drewN | apply Kd.R_drew)); exact HO_5.out) hb); have n1_ := Aside0.mk (Kd.R_below (by (with_reducible repeat (first | apply Kd.R_alloc | apply Kd.R_drewN | apply Kd.R_drew)); exact HO_10.out) hb); have n2_ := Aside0.mk (Kd.R_below (by (with_reducible repeat (first | apply Kd.R_alloc | apply Kd.R_drewN | apply Kd.R_drew)); exact HO_11.out) hb); have n3_ := Aside0.mk (below_step (by repeat (first | (with_reducible first | exact HB.out | apply below_alloc | apply pw_below_drewN | apply below_drew1) | exact HB.out)) hb); clear HO_5; clear HO_10; clear HO_11; clear HB; have HO_5 := n0_; have HO_10 := n1_; have HO_11 := n2_; have HB := n3_; clear n0_ n1_ n2_ n3_; (try clear hb); (try clear hb2); (try clear hk); (try clear hi); (try clear A43)) | (go_at_call 19; (with_reducible refine (screeref05_Same.calls k2 _ _ y186 _ _ l1 t206 _ ?side1 ?side2 ?side3 ?side4 A45.out).mono ?_); (case side1 => repeat (first | exact (Kd.R_reads' HO_5.out).2.2 | (with_reducible refine Kd.C_alloc ?_ _) | (with_reducible refine Kd.C_drewN ?_ _) | (with_reducible refine Kd.C_drew ?_))); (case side2 => exact (Kd.R_reads' HO_5.out).2.1); (case side3 => repeat (first | exact (Kd.C_below HR1.out HB.out) | (with_reducible refine Kd.C_alloc ?_ _) | (with_reducible refine Kd.C_drewN ?_ _) | (with_reducible refine Kd.C_drew ?_))); (case side4 => exact HC1.out); rintro e w' ⟨rfl, ⟨nd, rfl⟩⟩; (try first | exact ⟨rfl, _, World.drewN_drewN _ _ _⟩ | exact ⟨rfl, _, Eq.trans (World.drewN_drewN _ _ _) (congrArg (World.drewN _) (Nat.add_assoc _ _ _))⟩))))
                      go_ret
                      exact ⟨by first | rfl | (simp [errW_none, errW_some] <;> rfl) | (simp (disch := omega) only [← i64_w, IntWalk.i64_in]; rfl) | (simp [*, errW_none, errW_some] <;> rfl), by repeat (first | (with_reducible first | exact HB.out | apply below_alloc | apply pw_below_drewN | apply below_drew1) | exact HB.out)⟩
                    · rw [if_neg c44] at H
                      exact absurd H (by simp)
      · rw [if_neg c8] at H
        exact absurd H (by simp)
  · replace c4 := Bool.eq_false_iff.mpr c4
    subst c4
    have H1 : (none) = some r := by rw [if_neg (show ¬ (false = true) by decide)] at H; exact H
    clear H
    have H := H1
    clear H1
    exact absurd H (by simp)

end Go.Proofs.Ytfgelbkhjiajfaa.P
