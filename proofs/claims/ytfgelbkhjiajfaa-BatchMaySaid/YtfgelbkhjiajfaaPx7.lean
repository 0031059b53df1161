-- Printed by a program of this session's own (wip/tools/pprint.sh, over the kit's print, with given contracts): not typed by hand.
import Derived.Test.YtfgelbkhjiajfaaPx0
import Derived.Test.YtfgelbkhjiajfaaPx3
import Derived.Test.YtfgelbkhjiajfaaPx5
import Derived.Test.YtfgelbkhjiajfaaPx6
namespace Go.Proofs.Ytfgelbkhjiajfaa.P
open Go.RowKit Go.Proofs.YtfgelbkhjiajfaaW.PrintWords Go.Proofs.YtfgelbkhjiajfaaW.PrintLast Go.Proofs.YtfgelbkhjiajfaaW.PrintMore
attribute [local go_sem] max2_int min2_int max_two min_two max_three min_three max_four min_four   -- for this text's walks alone
set_option linter.unusedVariables false
set_option linter.unusedSimpArgs false

/-! ### screelaw05_BatchNumbers: function 7 -/
def screelaw05_BatchNumbers.l0 : Nat → Int → List (S34) → Int → List (S32) → Int → Int → Option (Bool)
  | 0, _, _, _, _, _, _ => none
  | k + 1, x0, x1, x6, x7, x28, x29 => if x29 < x28 then (if 0 ≤ x29 then (if x29 < (x7.length : Int) then (if ((rd_T32 x7 x29).f1) = (IntKind.u64.wrap (x0 + (IntKind.u64.wrap (x29)))) then (if x29 < (x1.length : Int) then (if ((rd_T32 x7 x29).f0).toList = ((rd_T34 x1 x29).f1).toList then (if (((rd_T32 x7 x29).f2) != ((rd_T34 x1 x29).f0)) = true then (none) else (if ((rd_T32 x7 x29).f3).toList = ((rd_T34 x1 x29).f2).toList then (if x6 = 0 then (if ((rd_T32 x7 x29).f1) < 1 then (none) else (if ((rd_T32 x7 x29).f1) > 1099511627776 then (none) else (screelaw05_BatchNumbers.l0 k x0 x1 x6 x7 x28 (wrap64 (x29 + 1))))) else (screelaw05_BatchNumbers.l0 k x0 x1 x6 x7 x28 (wrap64 (x29 + 1)))) else (none))) else (none)) else (none)) else (none)) else (none)) else (none)) else (some true)
def screelaw05_BatchNumbers.f (k : Nat) (a0 : Int) (l1 : List (S34)) : Option (Bool) := (screelaw05_awake.f k).bind fun t176 => (if t176 = true then ((screelaw05_large.f k l1).bind fun t177 => (if t177 = true then (some true) else ((batch_Encode.f k a0 l1).bind fun bt178 => ((batch_Entries.f k a0 l1).bind fun t180 => (if (t180.length : Int) = (l1.length : Int) then (screelaw05_BatchNumbers.l0 k a0 l1 bt178.2 t180 (t180.length : Int) 0) else (none)))))) else (none))
theorem screelaw05_BatchNumbers.mono_l : ∀ k, (∀ y0 y1 y2 y3 y4 y5, LeO (screelaw05_BatchNumbers.l0 k y0 y1 y2 y3 y4 y5) (screelaw05_BatchNumbers.l0 (k + 1) y0 y1 y2 y3 y4 y5))
  | 0 => fun _ _ _ _ _ _ r h => by simp [screelaw05_BatchNumbers.l0] at h
  | k + 1 => by
    have ih0 := screelaw05_BatchNumbers.mono_l k
    · intro y0 y1 y2 y3 y4 y5
      unfold screelaw05_BatchNumbers.l0
      repeat' first
      | (with_reducible exact ih0 _ _ _ _ _ _)
      | (with_reducible exact batch_Encode.mono _ _ _)
      | (with_reducible exact batch_Entries.mono _ _ _)
      | (with_reducible exact screelaw05_awake.mono _)
      | (with_reducible exact screelaw05_large.mono _ _)
      | (with_reducible exact LeO.refl _)
      | (with_reducible exact LeO.none _)
      | (with_reducible refine LeO.ite ?_ ?_)
      | (with_reducible refine LeO.bind ?_ (fun _ => ?_))
      | exact ih0 _ _ _ _ _ _
      | exact batch_Encode.mono _ _ _
      | exact batch_Entries.mono _ _ _
      | exact screelaw05_awake.mono _
      | exact screelaw05_large.mono _ _
      | exact LeO.none _
      | refine LeO.ite ?_ ?_
      | refine LeO.bind ?_ (fun _ => ?_)
theorem screelaw05_BatchNumbers.mono : ∀ a0 a1 k, LeO (screelaw05_BatchNumbers.f k a0 a1) (screelaw05_BatchNumbers.f (k + 1) a0 a1) := by
  intro a0 a1 k
  have ih0 := screelaw05_BatchNumbers.mono_l k
  unfold screelaw05_BatchNumbers.f
  repeat' first
      | (with_reducible exact ih0 _ _ _ _ _ _)
      | (with_reducible exact batch_Encode.mono _ _ _)
      | (with_reducible exact batch_Entries.mono _ _ _)
      | (with_reducible exact screelaw05_awake.mono _)
      | (with_reducible exact screelaw05_large.mono _ _)
      | (with_reducible exact LeO.refl _)
      | (with_reducible exact LeO.none _)
      | (with_reducible refine LeO.ite ?_ ?_)
      | (with_reducible refine LeO.bind ?_ (fun _ => ?_))
      | exact ih0 _ _ _ _ _ _
      | exact batch_Encode.mono _ _ _
      | exact batch_Entries.mono _ _ _
      | exact screelaw05_awake.mono _
      | exact screelaw05_large.mono _ _
      | exact LeO.none _
      | refine LeO.ite ?_ ?_
      | refine LeO.bind ?_ (fun _ => ?_)
set_option maxHeartbeats 8000000 in
set_option maxRecDepth 100000 in
theorem screelaw05_BatchNumbers.calls (k : Nat) (a0 : Int) (A1 : Option Addr) (c1 : Nat) (l1 : List (S34)) (r : Bool) (w : World) (hr1 : Kd.C k34 w A1 l1.length l1) (hc1 : l1.length ≤ c1) (h : screelaw05_BatchNumbers.f k a0 l1 = some r) :
    Calls Try.prog 7 #[.int .u64 a0, .slice A1 l1.length c1] w fun e w' => e = .returned (.bool r) ∧ Below w.heap.size w w' := by
  have HR1 := Aside0.mk hr1
  have HC1 := Aside0.mk hc1
  clear hr1 hc1
  have HB := Aside0.mk (Below.refl w.heap.size w)
  have H : ((screelaw05_awake.f k).bind fun t176 => (if t176 = true then ((screelaw05_large.f k l1).bind fun t177 => (if t177 = true then (some true) else ((batch_Encode.f k a0 l1).bind fun bt178 => ((batch_Entries.f k a0 l1).bind fun t180 => (if (t180.length : Int) = (l1.length : Int) then (screelaw05_BatchNumbers.l0 k a0 l1 bt178.2 t180 (t180.length : Int) 0) else (none)))))) else (none))) = some r := h
  clear h
  replace H := Option.bind_eq_some_iff.mp H
  obtain ⟨t176, A30, H⟩ := H
  replace H : (if t176 = true then ((screelaw05_large.f k l1).bind fun t177 => (if t177 = true then (some true) else ((batch_Encode.f k a0 l1).bind fun bt178 => ((batch_Entries.f k a0 l1).bind fun t180 => (if (t180.length : Int) = (l1.length : Int) then (screelaw05_BatchNumbers.l0 k a0 l1 bt178.2 t180 (t180.length : Int) 0) else (none)))))) else (none)) = some r := H
  have A3 := Aside0.mk A30
  clear A30
  by_cases c4 : t176 = true
  · subst c4
    have H1 : ((screelaw05_large.f k l1).bind fun t177 => (if t177 = true then (some true) else ((batch_Encode.f k a0 l1).bind fun bt178 => ((batch_Entries.f k a0 l1).bind fun t180 => (if (t180.length : Int) = (l1.length : Int) then (screelaw05_BatchNumbers.l0 k a0 l1 bt178.2 t180 (t180.length : Int) 0) else (none)))))) = some r := by rw [if_pos rfl] at H; exact H
    clear H
    have H := H1
    clear H1
    replace H := Option.bind_eq_some_iff.mp H
    obtain ⟨t177, A50, H⟩ := H
    replace H : (if t177 = true then (some true) else ((batch_Encode.f k a0 l1).bind fun bt178 => ((batch_Entries.f k a0 l1).bind fun t180 => (if (t180.length : Int) = (l1.length : Int) then (screelaw05_BatchNumbers.l0 k a0 l1 bt178.2 t180 (t180.length : Int) 0) else (none))))) = some r := H
    have A5 := Aside0.mk A50
    clear A50
    by_cases c6 : t177 = true
    · subst c6
      have H1 : (some true) = some r := by rw [if_pos rfl] at H; exact H
      clear H
      have H := H1
      clear H1
      obtain rfl := Option.some.inj H
      go_enter Try.func7, Try.ntmps7
      go_wp2_with (first | (go_at_call 10; (with_reducible refine (screelaw05_awake.calls k  true _ A3.out).mono ?_); rintro e w7 ⟨rfl, hb⟩; have n0_ := Aside0.mk (below_step (by repeat (first | (with_reducible first | exact HB.out | apply below_alloc | apply pw_below_drewN | apply below_drew1) | exact HB.out)) hb); clear HB; have HB := n0_; clear n0_; (try clear hb); (try clear hb2); (try clear hk); (try clear hi); (try clear A3)) | (go_at_call 11; (with_reducible refine (screelaw05_large.calls k _ _ l1 true _ ?side1 ?side2 A5.out).mono ?_); (case side1 => repeat (first | exact (Kd.C_below HR1.out HB.out) | (with_reducible refine Kd.C_alloc ?_ _) | (with_reducible refine Kd.C_drewN ?_ _) | (with_reducible refine Kd.C_drew ?_))); (case side2 => exact HC1.out); rintro e w' ⟨rfl, ⟨nd, rfl⟩⟩; (try first | exact ⟨rfl, _, World.drewN_drewN _ _ _⟩ | exact ⟨rfl, _, Eq.trans (World.drewN_drewN _ _ _) (congrArg (World.drewN _) (Nat.add_assoc _ _ _))⟩)))
      repeat (go_quiet (first | (go_at_call 10; (with_reducible refine (screelaw05_awake.calls k  true _ A3.out).mono ?_); rintro e w7 ⟨rfl, hb⟩; have n0_ := Aside0.mk (below_step (by repeat (first | (with_reducible first | exact HB.out | apply below_alloc | apply pw_below_drewN | apply below_drew1) | exact HB.out)) hb); clear HB; have HB := n0_; clear n0_; (try clear hb); (try clear hb2); (try clear hk); (try clear hi); (try clear A3)) | (go_at_call 11; (with_reducible refine (screelaw05_large.calls k _ _ l1 true _ ?side1 ?side2 A5.out).mono ?_); (case side1 => repeat (first | exact (Kd.C_below HR1.out HB.out) | (with_reducible refine Kd.C_alloc ?_ _) | (with_reducible refine Kd.C_drewN ?_ _) | (with_reducible refine Kd.C_drew ?_))); (case side2 => exact HC1.out); rintro e w' ⟨rfl, ⟨nd, rfl⟩⟩; (try first | exact ⟨rfl, _, World.drewN_drewN _ _ _⟩ | exact ⟨rfl, _, Eq.trans (World.drewN_drewN _ _ _) (congrArg (World.drewN _) (Nat.add_assoc _ _ _))⟩))); try go_wp2_with (first | (go_at_call 10; (with_reducible refine (screelaw05_awake.calls k  true _ A3.out).mono ?_); rintro e w7 ⟨rfl, hb⟩; have n0_ := Aside0.mk (below_step (by repeat (first | (with_reducible first | exact HB.out | apply below_alloc | apply pw_below_drewN | apply below_drew1) | exact HB.out)) hb); clear HB; have HB := n0_; clear n0_; (try clear hb); (try clear hb2); (try clear hk); (try clear hi); (try clear A3)) | (go_at_call 11; (with_reducible refine (screelaw05_large.calls k _ _ l1 true _ ?side1 ?side2 A5.out).mono ?_); (case side1 => repeat (first | exact (Kd.C_below HR1.out HB.out) | (with_reducible refine Kd.C_alloc ?_ _) | (with_reducible refine Kd.C_drewN ?_ _) | (with_reducible refine Kd.C_drew ?_))); (case side2 => exact HC1.out); rintro e w' ⟨rfl, ⟨nd, rfl⟩⟩; (try first | exact ⟨rfl, _, World.drewN_drewN _ _ _⟩ | exact ⟨rfl, _, Eq.trans (World.drewN_drewN _ _ _) (congrArg (World.drewN _) (Nat.add_assoc _ _ _))⟩))))
      go_ret
      exact ⟨by first | rfl | (simp [errW_none, errW_some] <;> rfl) | (simp (disch := omega) only [← i64_w, IntWalk.i64_in]; rfl) | (simp [*, errW_none, errW_some] <;> rfl), by repeat (first | (with_reducible first | exact HB.out | apply below_alloc | apply pw_below_drewN | apply below_drew1) | exact HB.out)⟩
    · replace c6 := Bool.eq_false_iff.mpr c6
      subst c6
      have H1 : ((batch_Encode.f k a0 l1).bind fun bt178 => ((batch_Entries.f k a0 l1).bind fun t180 => (if (t180.length : Int) = (l1.length : Int) then (screelaw05_BatchNumbers.l0 k a0 l1 bt178.2 t180 (t180.length : Int) 0) else (none)))) = some r := by rw [if_neg (show ¬ (false = true) by decide)] at H; exact H
      clear H
      have H := H1
      clear H1
      replace H := Option.bind_eq_some_iff.mp H
      obtain ⟨⟨t178, t179⟩, A80, H⟩ := H
      replace H : ((batch_Entries.f k a0 l1).bind fun t180 => (if (t180.length : Int) = (l1.length : Int) then (screelaw05_BatchNumbers.l0 k a0 l1 t179 t180 (t180.length : Int) 0) else (none))) = some r := H
      have A8 := Aside0.mk A80
      clear A80
      replace H := Option.bind_eq_some_iff.mp H
      obtain ⟨t180, A90, H⟩ := H
      replace H : (if (t180.length : Int) = (l1.length : Int) then (screelaw05_BatchNumbers.l0 k a0 l1 t179 t180 (t180.length : Int) 0) else (none)) = some r := H
      have A9 := Aside0.mk A90
      clear A90
      by_cases c10 : (t180.length : Int) = (l1.length : Int)
      · rw [if_pos c10] at H
        have c10b0 : ((t180.length : Int) == (l1.length : Int)) = true := beq_iff_eq.mpr c10
        have c10b1 : ((t180.length : Int) != (l1.length : Int)) = false := bne_eq_false_iff_eq.mpr c10
        have c10b2 : (t180.length == l1.length) = true := by first | simpa using c10 | (simp at c10 ⊢; omega)
        clear c10
        have H' := Aside0.mk H
        clear H
        go_enter Try.func7, Try.ntmps7
        go_wp2_with (first | (go_at_call 10; (with_reducible refine (screelaw05_awake.calls k  true _ A3.out).mono ?_); rintro e w11 ⟨rfl, hb⟩; have n0_ := Aside0.mk (below_step (by repeat (first | (with_reducible first | exact HB.out | apply below_alloc | apply pw_below_drewN | apply below_drew1) | exact HB.out)) hb); clear HB; have HB := n0_; clear n0_; (try clear hb); (try clear hb2); (try clear hk); (try clear hi); (try clear A3)) | (go_at_call 11; (with_reducible refine (screelaw05_large.calls k _ _ l1 false _ ?side1 ?side2 A5.out).mono ?_); (case side1 => repeat (first | exact (Kd.C_below HR1.out HB.out) | (with_reducible refine Kd.C_alloc ?_ _) | (with_reducible refine Kd.C_drewN ?_ _) | (with_reducible refine Kd.C_drew ?_))); (case side2 => exact HC1.out); rintro e w' ⟨rfl, ⟨nd, rfl⟩⟩; (try first | exact ⟨rfl, _, World.drewN_drewN _ _ _⟩ | exact ⟨rfl, _, Eq.trans (World.drewN_drewN _ _ _) (congrArg (World.drewN _) (Nat.add_assoc _ _ _))⟩)) | (go_at_call 12; (with_reducible refine (batch_Encode.calls k a0 _ _ l1 t178 t179 _ ?side1 ?side2 A8.out).mono ?_); (case side1 => repeat (first | exact (Kd.C_below HR1.out (by repeat (first | (with_reducible first | exact HB.out | apply below_alloc | apply pw_below_drewN | apply below_drew1) | exact HB.out))) | (with_reducible refine Kd.C_alloc ?_ _) | (with_reducible refine Kd.C_drewN ?_ _) | (with_reducible refine Kd.C_drew ?_))); (case side2 => exact HC1.out); rintro e w12 ⟨rfl, hb⟩; have n0_ := Aside0.mk (below_step (by repeat (first | (with_reducible first | exact HB.out | apply below_alloc | apply pw_below_drewN | apply below_drew1) | exact HB.out)) hb); clear HB; have HB := n0_; clear n0_; (try clear hb); (try clear hb2); (try clear hk); (try clear hi); (try clear A8)) | (go_at_call 14; (with_reducible refine (batch_Entries.calls k a0 _ _ l1 t180 _ ?side1 ?side2 A9.out).mono ?_); (case side1 => repeat (first | exact (Kd.C_below HR1.out HB.out) | (with_reducible refine Kd.C_alloc ?_ _) | (with_reducible refine Kd.C_drewN ?_ _) | (with_reducible refine Kd.C_drew ?_))); (case side2 => exact HC1.out); rintro e w13 ⟨v181, rfl, ho0, hb⟩; have n0_ := Aside0.mk (Kd.R_lower ho0 (below_size (by repeat (first | (with_reducible first | exact HB.out | apply below_alloc | apply pw_below_drewN | apply below_drew1) | exact HB.out)))); have n1_ := Aside0.mk (below_step (by repeat (first | (with_reducible first | exact HB.out | apply below_alloc | apply pw_below_drewN | apply below_drew1) | exact HB.out)) hb); clear HB; have HO182 := n0_; have HB := n1_; clear n0_ n1_; (try clear hb); (try clear hb2); (try clear hk); (try clear hi); (try clear ho0); (try clear A9); obtain ⟨Ao14, co14, eo14⟩ := Kd.R_slice HO182.out; subst eo14))
        repeat (go_quiet (first | (go_at_call 10; (with_reducible refine (screelaw05_awake.calls k  true _ A3.out).mono ?_); rintro e w11 ⟨rfl, hb⟩; have n0_ := Aside0.mk (below_step (by repeat (first | (with_reducible first | exact HB.out | apply below_alloc | apply pw_below_drewN | apply below_drew1) | exact HB.out)) hb); clear HB; have HB := n0_; clear n0_; (try clear hb); (try clear hb2); (try clear hk); (try clear hi); (try clear A3)) | (go_at_call 11; (with_reducible refine (screelaw05_large.calls k _ _ l1 false _ ?side1 ?side2 A5.out).mono ?_); (case side1 => repeat (first | exact (Kd.C_below HR1.out HB.out) | (with_reducible refine Kd.C_alloc ?_ _) | (with_reducible refine Kd.C_drewN ?_ _) | (with_reducible refine Kd.C_drew ?_))); (case side2 => exact HC1.out); rintro e w' ⟨rfl, ⟨nd, rfl⟩⟩; (try first | exact ⟨rfl, _, World.drewN_drewN _ _ _⟩ | exact ⟨rfl, _, Eq.trans (World.drewN_drewN _ _ _) (congrArg (World.drewN _) (Nat.add_assoc _ _ _))⟩)) | (go_at_call 12; (with_reducible refine (batch_Encode.calls k a0 _ _ l1 t178 t179 _ ?side1 ?side2 A8.out).mono ?_); (case side1 => repeat (first | exact (Kd.C_below HR1.out (by repeat (first | (with_reducible first | exact HB.out | apply below_alloc | apply pw_below_drewN | apply below_drew1) | exact HB.out))) | (with_reducible refine Kd.C_alloc ?_ _) | (with_reducible refine Kd.C_drewN ?_ _) | (with_reducible refine Kd.C_drew ?_))); (case side2 => exact HC1.out); rintro e w12 ⟨rfl, hb⟩; have n0_ := Aside0.mk (below_step (by repeat (first | (with_reducible first | exact HB.out | apply below_alloc | apply pw_below_drewN | apply below_drew1) | exact HB.out)) hb); clear HB; have HB := n0_; clear n0_; (try clear hb); (try clear hb2); (try clear hk); (try clear hi); (try clear A8)) | (go_at_call 14; (with_reducible refine (batch_Entries.calls k a0 _ _ l1 t180 _ ?side1 ?side2 A9.out).mono ?_); (case side1 => repeat (first | exact (Kd.C_below HR1.out HB.out) | (with_reducible refine Kd.C_alloc ?_ _) | (with_reducible refine Kd.C_drewN ?_ _) | (with_reducible refine Kd.C_drew ?_))); (case side2 => exact HC1.out); rintro e w13 ⟨v181, rfl, ho0, hb⟩; have n0_ := Aside0.mk (Kd.R_lower ho0 (below_size (by repeat (first | (with_reducible first | exact HB.out | apply below_alloc | apply pw_below_drewN | apply below_drew1) | exact HB.out)))); have n1_ := Aside0.mk (below_step (by repeat (first | (with_reducible first | exact HB.out | apply below_alloc | apply pw_below_drewN | apply below_drew1) | exact HB.out)) hb); clear HB; have HO182 := n0_; have HB := n1_; clear n0_ n1_; (try clear hb); (try clear hb2); (try clear hk); (try clear hi); (try clear ho0); (try clear A9); obtain ⟨Ao14, co14, eo14⟩ := Kd.R_slice HO182.out; subst eo14)); try go_wp2_with (first | (go_at_call 10; (with_reducible refine (screelaw05_awake.calls k  true _ A3.out).mono ?_); rintro e w11 ⟨rfl, hb⟩; have n0_ := Aside0.mk (below_step (by repeat (first | (with_reducible first | exact HB.out | apply below_alloc | apply pw_below_drewN | apply below_drew1) | exact HB.out)) hb); clear HB; have HB := n0_; clear n0_; (try clear hb); (try clear hb2); (try clear hk); (try clear hi); (try clear A3)) | (go_at_call 11; (with_reducible refine (screelaw05_large.calls k _ _ l1 false _ ?side1 ?side2 A5.out).mono ?_); (case side1 => repeat (first | exact (Kd.C_below HR1.out HB.out) | (with_reducible refine Kd.C_alloc ?_ _) | (with_reducible refine Kd.C_drewN ?_ _) | (with_reducible refine Kd.C_drew ?_))); (case side2 => exact HC1.out); rintro e w' ⟨rfl, ⟨nd, rfl⟩⟩; (try first | exact ⟨rfl, _, World.drewN_drewN _ _ _⟩ | exact ⟨rfl, _, Eq.trans (World.drewN_drewN _ _ _) (congrArg (World.drewN _) (Nat.add_assoc _ _ _))⟩)) | (go_at_call 12; (with_reducible refine (batch_Encode.calls k a0 _ _ l1 t178 t179 _ ?side1 ?side2 A8.out).mono ?_); (case side1 => repeat (first | exact (Kd.C_below HR1.out (by repeat (first | (with_reducible first | exact HB.out | apply below_alloc | apply pw_below_drewN | apply below_drew1) | exact HB.out))) | (with_reducible refine Kd.C_alloc ?_ _) | (with_reducible refine Kd.C_drewN ?_ _) | (with_reducible refine Kd.C_drew ?_))); (case side2 => exact HC1.out); rintro e w12 ⟨rfl, hb⟩; have n0_ := Aside0.mk (below_step (by repeat (first | (with_reducible first | exact HB.out | apply below_alloc | apply pw_below_drewN | apply below_drew1) | exact HB.out)) hb); clear HB; have HB := n0_; clear n0_; (try clear hb); (try clear hb2); (try clear hk); (try clear hi); (try clear A8)) | (go_at_call 14; (with_reducible refine (batch_Entries.calls k a0 _ _ l1 t180 _ ?side1 ?side2 A9.out).mono ?_); (case side1 => repeat (first | exact (Kd.C_below HR1.out HB.out) | (with_reducible refine Kd.C_alloc ?_ _) | (with_reducible refine Kd.C_drewN ?_ _) | (with_reducible refine Kd.C_drew ?_))); (case side2 => exact HC1.out); rintro e w13 ⟨v181, rfl, ho0, hb⟩; have n0_ := Aside0.mk (Kd.R_lower ho0 (below_size (by repeat (first | (with_reducible first | exact HB.out | apply below_alloc | apply pw_below_drewN | apply below_drew1) | exact HB.out)))); have n1_ := Aside0.mk (below_step (by repeat (first | (with_reducible first | exact HB.out | apply below_alloc | apply pw_below_drewN | apply below_drew1) | exact HB.out)) hb); clear HB; have HO182 := n0_; have HB := n1_; clear n0_ n1_; (try clear hb); (try clear hb2); (try clear hk); (try clear hi); (try clear ho0); (try clear A9); obtain ⟨Ao14, co14, eo14⟩ := Kd.R_slice HO182.out; subst eo14)))
        go_loopg [29] k (fun kq v29 w' => ∃ (x29_1 : Int), v29 = .int .i64 x29_1 ∧ Aside0 (screelaw05_BatchNumbers.l0 kq a0 l1 t179 t180 (t180.length : Int) x29_1 = some r) ∧ Aside0 (kq ≤ k) ∧ Aside0 (Kd.R k32 32 w' w.heap.size (fun _ => True) (.slice Ao14 t180.length co14) t180) ∧ Aside0 (Below w.heap.size w w'))
        case atStart => exact ⟨(0), (by first | rfl | (simp; done) | (simp [*]; done)), H', ⟨Nat.le_refl _⟩, ⟨by (with_reducible repeat (first | apply Kd.R_alloc | apply Kd.R_drewN | apply Kd.R_drew)); exact HO182.out⟩, ⟨by repeat (first | (with_reducible first | exact HB.out | apply below_alloc | apply pw_below_drewN | apply below_drew1) | exact HB.out)⟩⟩
        case round =>
          clear H'
          try clear c1
          try clear p2
          try clear c4
          try clear c6
          try clear c7
          try clear c10
          try clear c10b0
          try clear c10b1
          try clear c10b2
          obtain ⟨x29_1, rfl, HA, HK1, HO_7, HB⟩ := hrel
          cases gk with
          | zero => exact absurd HA.out (by simp [screelaw05_BatchNumbers.l0])
          | succ k1 =>
            have H := HA.out
            clear HA
            simp only [screelaw05_BatchNumbers.l0] at H
            by_cases c15 : x29_1 < (t180.length : Int)
            · rw [if_pos c15] at H
              have c15b0 : decide (x29_1 < (t180.length : Int)) = true := decide_eq_true c15
              clear c15
              by_cases c16 : 0 ≤ x29_1
              · rw [if_pos c16] at H
                have c16b0 : decide (0 ≤ x29_1) = true := decide_eq_true c16
                clear c16
                by_cases c17 : x29_1 < (t180.length : Int)
                · rw [if_pos c17] at H
                  have c17b0 : decide (x29_1 < (t180.length : Int)) = true := decide_eq_true c17
                  clear c17
                  by_cases c18 : ((rd_T32 t180 x29_1).f1) = (IntKind.u64.wrap (a0 + (IntKind.u64.wrap (x29_1))))
                  · rw [if_pos c18] at H
                    have c18b0 : (((rd_T32 t180 x29_1).f1) == (IntKind.u64.wrap (a0 + (IntKind.u64.wrap (x29_1))))) = true := beq_iff_eq.mpr c18
                    have c18b1 : (((rd_T32 t180 x29_1).f1) != (IntKind.u64.wrap (a0 + (IntKind.u64.wrap (x29_1))))) = false := bne_eq_false_iff_eq.mpr c18
                    clear c18
                    by_cases c19 : x29_1 < (l1.length : Int)
                    · rw [if_pos c19] at H
                      have c19b0 : decide (x29_1 < (l1.length : Int)) = true := decide_eq_true c19
                      clear c19
                      by_cases c20 : ((rd_T32 t180 x29_1).f0).toList = ((rd_T34 l1 x29_1).f1).toList
                      · rw [if_pos c20] at H
                        have c20b0 : (((rd_T32 t180 x29_1).f0).toList == ((rd_T34 l1 x29_1).f1).toList) = true := beq_iff_eq.mpr c20
                        have c20b1 : (((rd_T32 t180 x29_1).f0).toList != ((rd_T34 l1 x29_1).f1).toList) = false := bne_eq_false_iff_eq.mpr c20
                        clear c20
                        by_cases c21 : (((rd_T32 t180 x29_1).f2) != ((rd_T34 l1 x29_1).f0)) = true
                        · rw [if_pos c21] at H
                          exact absurd H (by simp)
                        · rw [if_neg c21] at H
                          have c21b0 : (((rd_T32 t180 x29_1).f2) != ((rd_T34 l1 x29_1).f0)) = false := by simpa using c21
                          (try (have c21b1 : decide (((rd_T32 t180 x29_1).f2) = ((rd_T34 l1 x29_1).f0)) = true := by simpa using c21))
                          (try (have c21b2 : (((rd_T32 t180 x29_1).f2) == ((rd_T34 l1 x29_1).f0)) = true := by simpa using c21))
                          clear c21
                          by_cases c22 : ((rd_T32 t180 x29_1).f3).toList = ((rd_T34 l1 x29_1).f2).toList
                          · rw [if_pos c22] at H
                            have c22b0 : (((rd_T32 t180 x29_1).f3).toList == ((rd_T34 l1 x29_1).f2).toList) = true := beq_iff_eq.mpr c22
                            have c22b1 : (((rd_T32 t180 x29_1).f3).toList != ((rd_T34 l1 x29_1).f2).toList) = false := bne_eq_false_iff_eq.mpr c22
                            clear c22
                            by_cases c23 : t179 = 0
                            · rw [if_pos c23] at H
                              have c23b0 : (t179 == 0) = true := beq_iff_eq.mpr c23
                              have c23b1 : (t179 != 0) = false := bne_eq_false_iff_eq.mpr c23
                              clear c23
                              by_cases c24 : ((rd_T32 t180 x29_1).f1) < 1
                              · rw [if_pos c24] at H
                                exact absurd H (by simp)
                              · rw [if_neg c24] at H
                                have c24b0 : decide (((rd_T32 t180 x29_1).f1) < 1) = false := decide_eq_false c24
                                clear c24
                                by_cases c25 : ((rd_T32 t180 x29_1).f1) > 1099511627776
                                · rw [if_pos c25] at H
                                  exact absurd H (by simp)
                                · rw [if_neg c25] at H
                                  have c25b0 : decide (1099511627776 < ((rd_T32 t180 x29_1).f1)) = false := decide_eq_false c25
                                  clear c25
                                  have H' := Aside0.mk H
                                  clear H
                                  have p183 : 0 ≤ (x29_1 : Int) := of_decide_eq_true (by first | (with_reducible assumption) | assumption)
                                  have q183 : x29_1 < (t180.length : Int) := of_decide_eq_true (by first | (with_reducible assumption) | assumption)
                                  obtain ⟨ad183, e183, hx183_0, hx183_1, hx183_2, hx183_3⟩ := at_T32 (Kd.R_reads' HO_7.out).2.2 x29_1 p183 q183
                                  cases e183
                                  replace p183 := eq_true p183
                                  replace q183 := eq_true q183
                                  have p184 : 0 ≤ (x29_1 : Int) := of_decide_eq_true (by first | (with_reducible assumption) | assumption)
                                  have q184 : x29_1 < (t180.length : Int) := of_decide_eq_true (by first | (with_reducible assumption) | assumption)
                                  obtain ⟨ad184, e184, hx184_0, hx184_1, hx184_2, hx184_3⟩ := at_T32 (Kd.R_reads' HO_7.out).2.2 x29_1 p184 q184
                                  obtain rfl : ad183 = ad184 := (by injection e184)
                                  replace p184 := eq_true p184
                                  replace q184 := eq_true q184
                                  have p185 : 0 ≤ (x29_1 : Int) := of_decide_eq_true (by first | (with_reducible assumption) | assumption)
                                  have q185 : x29_1 < (l1.length : Int) := of_decide_eq_true (by first | (with_reducible assumption) | assumption)
                                  obtain ⟨ad185, e185, hx185_0, hx185_1, hx185_2⟩ := at_T34 HR1.out x29_1 p185 q185
                                  cases e185
                                  replace hx185_0 := (HB.out.cell (World.block_lt_of_cell? w _ hx185_0)).trans hx185_0
                                  replace hx185_1 := (HB.out.cell (World.block_lt_of_cell? w _ hx185_1)).trans hx185_1
                                  replace hx185_2 := (HB.out.cell (World.block_lt_of_cell? w _ hx185_2)).trans hx185_2
                                  replace p185 := eq_true p185
                                  replace q185 := eq_true q185
                                  have p186 : 0 ≤ (x29_1 : Int) := of_decide_eq_true (by first | (with_reducible assumption) | assumption)
                                  have q186 : x29_1 < (t180.length : Int) := of_decide_eq_true (by first | (with_reducible assumption) | assumption)
                                  obtain ⟨ad186, e186, hx186_0, hx186_1, hx186_2, hx186_3⟩ := at_T32 (Kd.R_reads' HO_7.out).2.2 x29_1 p186 q186
                                  obtain rfl : ad183 = ad186 := (by injection e186)
                                  replace p186 := eq_true p186
                                  replace q186 := eq_true q186
                                  have p187 : 0 ≤ (x29_1 : Int) := of_decide_eq_true (by first | (with_reducible assumption) | assumption)
                                  have q187 : x29_1 < (l1.length : Int) := of_decide_eq_true (by first | (with_reducible assumption) | assumption)
                                  obtain ⟨ad187, e187, hx187_0, hx187_1, hx187_2⟩ := at_T34 HR1.out x29_1 p187 q187
                                  obtain rfl : ad185 = ad187 := (by injection e187)
                                  replace hx187_0 := (HB.out.cell (World.block_lt_of_cell? w _ hx187_0)).trans hx187_0
                                  replace hx187_1 := (HB.out.cell (World.block_lt_of_cell? w _ hx187_1)).trans hx187_1
                                  replace hx187_2 := (HB.out.cell (World.block_lt_of_cell? w _ hx187_2)).trans hx187_2
                                  replace p187 := eq_true p187
                                  replace q187 := eq_true q187
                                  have p188 : 0 ≤ (x29_1 : Int) := of_decide_eq_true (by first | (with_reducible assumption) | assumption)
                                  have q188 : x29_1 < (t180.length : Int) := of_decide_eq_true (by first | (with_reducible assumption) | assumption)
                                  obtain ⟨ad188, e188, hx188_0, hx188_1, hx188_2, hx188_3⟩ := at_T32 (Kd.R_reads' HO_7.out).2.2 x29_1 p188 q188
                                  obtain rfl : ad183 = ad188 := (by injection e188)
                                  replace p188 := eq_true p188
                                  replace q188 := eq_true q188
                                  have p189 : 0 ≤ (x29_1 : Int) := of_decide_eq_true (by first | (with_reducible assumption) | assumption)
                                  have q189 : x29_1 < (l1.length : Int) := of_decide_eq_true (by first | (with_reducible assumption) | assumption)
                                  obtain ⟨ad189, e189, hx189_0, hx189_1, hx189_2⟩ := at_T34 HR1.out x29_1 p189 q189
                                  obtain rfl : ad185 = ad189 := (by injection e189)
                                  replace hx189_0 := (HB.out.cell (World.block_lt_of_cell? w _ hx189_0)).trans hx189_0
                                  replace hx189_1 := (HB.out.cell (World.block_lt_of_cell? w _ hx189_1)).trans hx189_1
                                  replace hx189_2 := (HB.out.cell (World.block_lt_of_cell? w _ hx189_2)).trans hx189_2
                                  replace p189 := eq_true p189
                                  replace q189 := eq_true q189
                                  have p190 : 0 ≤ (x29_1 : Int) := of_decide_eq_true (by first | (with_reducible assumption) | assumption)
                                  have q190 : x29_1 < (t180.length : Int) := of_decide_eq_true (by first | (with_reducible assumption) | assumption)
                                  obtain ⟨ad190, e190, hx190_0, hx190_1, hx190_2, hx190_3⟩ := at_T32 (Kd.R_reads' HO_7.out).2.2 x29_1 p190 q190
                                  obtain rfl : ad183 = ad190 := (by injection e190)
                                  replace p190 := eq_true p190
                                  replace q190 := eq_true q190
                                  have p191 : 0 ≤ (x29_1 : Int) := of_decide_eq_true (by first | (with_reducible assumption) | assumption)
                                  have q191 : x29_1 < (t180.length : Int) := of_decide_eq_true (by first | (with_reducible assumption) | assumption)
                                  obtain ⟨ad191, e191, hx191_0, hx191_1, hx191_2, hx191_3⟩ := at_T32 (Kd.R_reads' HO_7.out).2.2 x29_1 p191 q191
                                  obtain rfl : ad183 = ad191 := (by injection e191)
                                  replace p191 := eq_true p191
                                  replace q191 := eq_true q191
                                  go_wp2
                                  repeat (go_quiet (fail); try go_wp2)
                                  go_roundg k1
                                  case measure => have := HK1.out; omega
                                  case rel => exact ⟨(wrap64 (x29_1 + 1)), (by first | rfl | (simp; done) | (simp [*]; done)), (by first | (with_reducible exact H') | exact H' | (subst_vars; exact H')), ⟨by have := HK1.out; omega⟩, ⟨by (with_reducible repeat (first | apply Kd.R_alloc | apply Kd.R_drewN | apply Kd.R_drew)); exact HO_7.out⟩, ⟨by repeat (first | (with_reducible first | exact HB.out | apply below_alloc | apply pw_below_drewN | apply below_drew1) | exact HB.out)⟩⟩
                            · rw [if_neg c23] at H
                              have c23b0 : (t179 == 0) = false := beq_eq_false_iff_ne.mpr c23
                              have c23b1 : (t179 != 0) = true := bne_iff_ne.mpr c23
                              have H' := Aside0.mk H
                              clear H
                              have p183 : 0 ≤ (x29_1 : Int) := of_decide_eq_true (by first | (with_reducible assumption) | assumption)
                              have q183 : x29_1 < (t180.length : Int) := of_decide_eq_true (by first | (with_reducible assumption) | assumption)
                              obtain ⟨ad183, e183, hx183_0, hx183_1, hx183_2, hx183_3⟩ := at_T32 (Kd.R_reads' HO_7.out).2.2 x29_1 p183 q183
                              cases e183
                              replace p183 := eq_true p183
                              replace q183 := eq_true q183
                              have p184 : 0 ≤ (x29_1 : Int) := of_decide_eq_true (by first | (with_reducible assumption) | assumption)
                              have q184 : x29_1 < (t180.length : Int) := of_decide_eq_true (by first | (with_reducible assumption) | assumption)
                              obtain ⟨ad184, e184, hx184_0, hx184_1, hx184_2, hx184_3⟩ := at_T32 (Kd.R_reads' HO_7.out).2.2 x29_1 p184 q184
                              obtain rfl : ad183 = ad184 := (by injection e184)
                              replace p184 := eq_true p184
                              replace q184 := eq_true q184
                              have p185 : 0 ≤ (x29_1 : Int) := of_decide_eq_true (by first | (with_reducible assumption) | assumption)
                              have q185 : x29_1 < (l1.length : Int) := of_decide_eq_true (by first | (with_reducible assumption) | assumption)
                              obtain ⟨ad185, e185, hx185_0, hx185_1, hx185_2⟩ := at_T34 HR1.out x29_1 p185 q185
                              cases e185
                              replace hx185_0 := (HB.out.cell (World.block_lt_of_cell? w _ hx185_0)).trans hx185_0
                              replace hx185_1 := (HB.out.cell (World.block_lt_of_cell? w _ hx185_1)).trans hx185_1
                              replace hx185_2 := (HB.out.cell (World.block_lt_of_cell? w _ hx185_2)).trans hx185_2
                              replace p185 := eq_true p185
                              replace q185 := eq_true q185
                              have p186 : 0 ≤ (x29_1 : Int) := of_decide_eq_true (by first | (with_reducible assumption) | assumption)
                              have q186 : x29_1 < (t180.length : Int) := of_decide_eq_true (by first | (with_reducible assumption) | assumption)
                              obtain ⟨ad186, e186, hx186_0, hx186_1, hx186_2, hx186_3⟩ := at_T32 (Kd.R_reads' HO_7.out).2.2 x29_1 p186 q186
                              obtain rfl : ad183 = ad186 := (by injection e186)
                              replace p186 := eq_true p186
                              replace q186 := eq_true q186
                              have p187 : 0 ≤ (x29_1 : Int) := of_decide_eq_true (by first | (with_reducible assumption) | assumption)
                              have q187 : x29_1 < (l1.length : Int) := of_decide_eq_true (by first | (with_reducible assumption) | assumption)
                              obtain ⟨ad187, e187, hx187_0, hx187_1, hx187_2⟩ := at_T34 HR1.out x29_1 p187 q187
                              obtain rfl : ad185 = ad187 := (by injection e187)
                              replace hx187_0 := (HB.out.cell (World.block_lt_of_cell? w _ hx187_0)).trans hx187_0
                              replace hx187_1 := (HB.out.cell (World.block_lt_of_cell? w _ hx187_1)).trans hx187_1
                              replace hx187_2 := (HB.out.cell (World.block_lt_of_cell? w _ hx187_2)).trans hx187_2
                              replace p187 := eq_true p187
                              replace q187 := eq_true q187
                              have p188 : 0 ≤ (x29_1 : Int) := of_decide_eq_true (by first | (with_reducible assumption) | assumption)
                              have q188 : x29_1 < (t180.length : Int) := of_decide_eq_true (by first | (with_reducible assumption) | assumption)
                              obtain ⟨ad188, e188, hx188_0, hx188_1, hx188_2, hx188_3⟩ := at_T32 (Kd.R_reads' HO_7.out).2.2 x29_1 p188 q188
                              obtain rfl : ad183 = ad188 := (by injection e188)
                              replace p188 := eq_true p188
                              replace q188 := eq_true q188
                              have p189 : 0 ≤ (x29_1 : Int) := of_decide_eq_true (by first | (with_reducible assumption) | assumption)
                              have q189 : x29_1 < (l1.length : Int) := of_decide_eq_true (by first | (with_reducible assumption) | assumption)
                              obtain ⟨ad189, e189, hx189_0, hx189_1, hx189_2⟩ := at_T34 HR1.out x29_1 p189 q189
                              obtain rfl : ad185 = ad189 := (by injection e189)
                              replace hx189_0 := (HB.out.cell (World.block_lt_of_cell? w _ hx189_0)).trans hx189_0
                              replace hx189_1 := (HB.out.cell (World.block_lt_of_cell? w _ hx189_1)).trans hx189_1
                              replace hx189_2 := (HB.out.cell (World.block_lt_of_cell? w _ hx189_2)).trans hx189_2
                              replace p189 := eq_true p189
                              replace q189 := eq_true q189
                              go_wp2
                              repeat (go_quiet (fail); try go_wp2)
                              go_roundg k1
                              case measure => have := HK1.out; omega
                              case rel => exact ⟨(wrap64 (x29_1 + 1)), (by first | rfl | (simp; done) | (simp [*]; done)), (by first | (with_reducible exact H') | exact H' | (subst_vars; exact H')), ⟨by have := HK1.out; omega⟩, ⟨by (with_reducible repeat (first | apply Kd.R_alloc | apply Kd.R_drewN | apply Kd.R_drew)); exact HO_7.out⟩, ⟨by repeat (first | (with_reducible first | exact HB.out | apply below_alloc | apply pw_below_drewN | apply below_drew1) | exact HB.out)⟩⟩
                          · rw [if_neg c22] at H
                            exact absurd H (by simp)
                      · rw [if_neg c20] at H
                        exact absurd H (by simp)
                    · rw [if_neg c19] at H
                      exact absurd H (by simp)
                  · rw [if_neg c18] at H
                    exact absurd H (by simp)
                · rw [if_neg c17] at H
                  exact absurd H (by simp)
              · rw [if_neg c16] at H
                exact absurd H (by simp)
            · rw [if_neg c15] at H
              have c15b0 : decide (x29_1 < (t180.length : Int)) = false := decide_eq_false c15
              clear c15
              obtain rfl := Option.some.inj H
              go_wp2
              repeat (go_quiet (fail); try go_wp2)
              go_ret
              exact ⟨by first | rfl | (simp [errW_none, errW_some] <;> rfl) | (simp (disch := omega) only [← i64_w, IntWalk.i64_in]; rfl) | (simp [*, errW_none, errW_some] <;> rfl), by repeat (first | (with_reducible first | exact HB.out | apply below_alloc | apply pw_below_drewN | apply below_drew1) | exact HB.out)⟩
      · rw [if_neg c10] at H
        exact absurd H (by simp)
  · replace c4 := Bool.eq_false_iff.mpr c4
    subst c4
    have H1 : (none) = some r := by rw [if_neg (show ¬ (false = true) by decide)] at H; exact H
    clear H
    have H := H1
    clear H1
    exact absurd H (by simp)

/-! ### screelaw05_BatchCuts: function 8 -/
def screelaw05_BatchCuts.j0 : Nat → Int → List (S34) → Int → ByteArray → Bool → Option (Bool)
  | 0, _, _, _, _, _ => none
  | k + 1, x0, x1, x2, x3, x25 => if x25 = true then (some true) else ((batch_Encode.f k x0 x1).bind fun bt194 => (if bt194.2 = 0 then (if (bt194.1.size : Int) = 0 then (none) else (if 0 ≤ (Int.tmod (wrap64 (x2)) (bt194.1.size : Int)) then (if (Int.tmod (wrap64 (x2)) (bt194.1.size : Int)) ≤ (bt194.1.size : Int) then ((batch_Decode.f k (bt194.1.extract 0 ((Int.tmod (wrap64 (x2)) (bt194.1.size : Int)) : Int).toNat)).bind fun bt196 => (if bt194.1.size + x3.size ≤ 9223372036854775807 then ((batch_Decode.f k (bt194.1 ++ x3)).bind fun bt201 => (if bt196.2.2 = 2 then (some ((bt201.2.2 == 2) == (x3.toList != ([] : List UInt8)))) else (none))) else (none))) else (none)) else (none))) else (some true)))
def screelaw05_BatchCuts.f (k : Nat) (a0 : Int) (l1 : List (S34)) (a2 : Int) (a3 : ByteArray) : Option (Bool) := (screelaw05_awake.f k).bind fun t192 => (if t192 = true then ((screelaw05_large.f k l1).bind fun t193 => (if t193 = true then (screelaw05_BatchCuts.j0 k a0 l1 a2 a3 true) else (screelaw05_BatchCuts.j0 k a0 l1 a2 a3 (decide ((a3.size : Int) > 300))))) else (none))
theorem screelaw05_BatchCuts.mono_l : ∀ k, (∀ y0 y1 y2 y3 y4, LeO (screelaw05_BatchCuts.j0 k y0 y1 y2 y3 y4) (screelaw05_BatchCuts.j0 (k + 1) y0 y1 y2 y3 y4))
  | 0 => fun _ _ _ _ _ r h => by simp [screelaw05_BatchCuts.j0] at h
  | k + 1 => by
    have ih0 := screelaw05_BatchCuts.mono_l k
    · intro y0 y1 y2 y3 y4
      unfold screelaw05_BatchCuts.j0
      repeat' first
      | (with_reducible exact ih0 _ _ _ _ _)
      | (with_reducible exact batch_Decode.mono _ _)
      | (with_reducible exact batch_Encode.mono _ _ _)
      | (with_reducible exact screelaw05_awake.mono _)
      | (with_reducible exact screelaw05_large.mono _ _)
      | (with_reducible exact LeO.refl _)
      | (with_reducible exact LeO.none _)
      | (with_reducible refine LeO.ite ?_ ?_)
      | (with_reducible refine LeO.bind ?_ (fun _ => ?_))
      | exact ih0 _ _ _ _ _
      | exact batch_Decode.mono _ _
      | exact batch_Encode.mono _ _ _
      | exact screelaw05_awake.mono _
      | exact screelaw05_large.mono _ _
      | exact LeO.none _
      | refine LeO.ite ?_ ?_
      | refine LeO.bind ?_ (fun _ => ?_)
theorem screelaw05_BatchCuts.mono : ∀ a0 a1 a2 a3 k, LeO (screelaw05_BatchCuts.f k a0 a1 a2 a3) (screelaw05_BatchCuts.f (k + 1) a0 a1 a2 a3) := by
  intro a0 a1 a2 a3 k
  have ih0 := screelaw05_BatchCuts.mono_l k
  unfold screelaw05_BatchCuts.f
  repeat' first
      | (with_reducible exact ih0 _ _ _ _ _)
      | (with_reducible exact batch_Decode.mono _ _)
      | (with_reducible exact batch_Encode.mono _ _ _)
      | (with_reducible exact screelaw05_awake.mono _)
      | (with_reducible exact screelaw05_large.mono _ _)
      | (with_reducible exact LeO.refl _)
      | (with_reducible exact LeO.none _)
      | (with_reducible refine LeO.ite ?_ ?_)
      | (with_reducible refine LeO.bind ?_ (fun _ => ?_))
      | exact ih0 _ _ _ _ _
      | exact batch_Decode.mono _ _
      | exact batch_Encode.mono _ _ _
      | exact screelaw05_awake.mono _
      | exact screelaw05_large.mono _ _
      | exact LeO.none _
      | refine LeO.ite ?_ ?_
      | refine LeO.bind ?_ (fun _ => ?_)
set_option maxHeartbeats 8000000 in
set_option maxRecDepth 100000 in
theorem screelaw05_BatchCuts.calls (k : Nat) (a0 : Int) (A1 : Option Addr) (c1 : Nat) (l1 : List (S34)) (a2 : Int) (a3 : ByteArray) (r : Bool) (w : World) (hr1 : Kd.C k34 w A1 l1.length l1) (hc1 : l1.length ≤ c1) (h : screelaw05_BatchCuts.f k a0 l1 a2 a3 = some r) :
    Calls Try.prog 8 #[.int .u64 a0, .slice A1 l1.length c1, .int .u16 a2, .string a3] w fun e w' => e = .returned (.bool r) ∧ Below w.heap.size w w' := by
  have HR1 := Aside0.mk hr1
  have HC1 := Aside0.mk hc1
  clear hr1 hc1
  have HB := Aside0.mk (Below.refl w.heap.size w)
  have H : ((screelaw05_awake.f k).bind fun t192 => (if t192 = true then ((screelaw05_large.f k l1).bind fun t193 => (if t193 = true then (screelaw05_BatchCuts.j0 k a0 l1 a2 a3 true) else (screelaw05_BatchCuts.j0 k a0 l1 a2 a3 (decide ((a3.size : Int) > 300))))) else (none))) = some r := h
  clear h
  replace H := Option.bind_eq_some_iff.mp H
  obtain ⟨t192, A50, H⟩ := H
  replace H : (if t192 = true then ((screelaw05_large.f k l1).bind fun t193 => (if t193 = true then (screelaw05_BatchCuts.j0 k a0 l1 a2 a3 true) else (screelaw05_BatchCuts.j0 k a0 l1 a2 a3 (decide ((a3.size : Int) > 300))))) else (none)) = some r := H
  have A5 := Aside0.mk A50
  clear A50
  by_cases c6 : t192 = true
  · subst c6
    have H1 : ((screelaw05_large.f k l1).bind fun t193 => (if t193 = true then (screelaw05_BatchCuts.j0 k a0 l1 a2 a3 true) else (screelaw05_BatchCuts.j0 k a0 l1 a2 a3 (decide ((a3.size : Int) > 300))))) = some r := by rw [if_pos rfl] at H; exact H
    clear H
    have H := H1
    clear H1
    have HC7 := Aside0.mk H
    clear H
    go_enter Try.func8, Try.ntmps8
    go_upto_region 3 with (first | ((with_reducible refine gate_callee (f := 10) rfl ?_); refine goesL_ (some 17) rfl rfl Try.func10 (by kernel_rfl) rfl #[] rfl (by (try simp only [List.map_toArray, List.map_cons, List.map_nil]); first | done | rfl | (simp only [List.length_drop, List.length_take]; rfl) | (simp (disch := omega) only [IntWalk.u64_in, IntWalk.i64_in, IntWalk.u8_in]; rfl)) ?_; (with_reducible refine (screelaw05_awake.calls k  true _ A5.out).mono ?_); rintro e w8 ⟨rfl, hb⟩; refine ⟨_, rfl, ?_⟩; have n0_ := Aside0.mk (below_step (by repeat (first | (with_reducible first | exact HB.out | apply below_alloc | apply pw_below_drewN | apply below_drew1) | exact HB.out)) hb); clear HB; have HB := n0_; clear n0_; (try clear hb); (try clear hb2); (try clear hk); (try clear hi); (try clear A5)))
    (try simp only [Act.put, List.setIfInBounds_toArray, List.set_cons_zero, List.set_cons_succ])
    go_cut [25] (fun v25 wc => ∃ (kq : Nat) (x25_6 : Bool), v25 = .bool x25_6 ∧ Aside0 (screelaw05_BatchCuts.j0 kq a0 l1 a2 a3 x25_6 = some r) ∧ Aside0 (kq ≤ k) ∧ Aside0 (Below w.heap.size w wc))
    case first =>
      have H := HC7.out
      clear HC7
      replace H := Option.bind_eq_some_iff.mp H
      obtain ⟨t193, A90, H⟩ := H
      replace H : (if t193 = true then (screelaw05_BatchCuts.j0 k a0 l1 a2 a3 true) else (screelaw05_BatchCuts.j0 k a0 l1 a2 a3 (decide ((a3.size : Int) > 300)))) = some r := H
      have A9 := Aside0.mk A90
      clear A90
      by_cases c10 : t193 = true
      · subst c10
        have H1 : (screelaw05_BatchCuts.j0 k a0 l1 a2 a3 true) = some r := by rw [if_pos rfl] at H; exact H
        clear H
        have H := H1
        clear H1
        have H' := Aside0.mk H
        clear H
        go_wp2_with (first | ((with_reducible refine gate_callee (f := 11) rfl ?_); refine goesL_ (some 20) rfl rfl Try.func11 (by kernel_rfl) rfl #[.slice A1 l1.length c1] rfl (by (try simp only [List.map_toArray, List.map_cons, List.map_nil]); first | done | rfl | (simp only [List.length_drop, List.length_take]; rfl) | (simp (disch := omega) only [IntWalk.u64_in, IntWalk.i64_in, IntWalk.u8_in]; rfl)) ?_; (with_reducible refine (screelaw05_large.calls k _ _ l1 true _ ?side1 ?side2 A9.out).mono ?_); (case side1 => repeat (first | exact (Kd.C_below HR1.out HB.out) | (with_reducible refine Kd.C_alloc ?_ _) | (with_reducible refine Kd.C_drewN ?_ _) | (with_reducible refine Kd.C_drew ?_))); (case side2 => exact HC1.out); rintro e w' ⟨rfl, ⟨nd, rfl⟩⟩; refine ⟨_, rfl, ?_⟩))
        go_meet
        case rel => exact ⟨_, (true), (by first | rfl | (simp; done) | (simp [*]; done)), (by first | (with_reducible exact H') | exact H' | (subst_vars; exact H')), ⟨by first | omega | exact Nat.le_refl _⟩, ⟨by repeat (first | (with_reducible first | exact HB.out | apply below_alloc | apply pw_below_drewN | apply below_drew1) | exact HB.out)⟩⟩
      · replace c10 := Bool.eq_false_iff.mpr c10
        subst c10
        have H1 : (screelaw05_BatchCuts.j0 k a0 l1 a2 a3 (decide ((a3.size : Int) > 300))) = some r := by rw [if_neg (show ¬ (false = true) by decide)] at H; exact H
        clear H
        have H := H1
        clear H1
        have H' := Aside0.mk H
        clear H
        go_wp2_with (first | ((with_reducible refine gate_callee (f := 11) rfl ?_); refine goesL_ (some 20) rfl rfl Try.func11 (by kernel_rfl) rfl #[.slice A1 l1.length c1] rfl (by (try simp only [List.map_toArray, List.map_cons, List.map_nil]); first | done | rfl | (simp only [List.length_drop, List.length_take]; rfl) | (simp (disch := omega) only [IntWalk.u64_in, IntWalk.i64_in, IntWalk.u8_in]; rfl)) ?_; (with_reducible refine (screelaw05_large.calls k _ _ l1 false _ ?side1 ?side2 A9.out).mono ?_); (case side1 => repeat (first | exact (Kd.C_below HR1.out HB.out) | (with_reducible refine Kd.C_alloc ?_ _) | (with_reducible refine Kd.C_drewN ?_ _) | (with_reducible refine Kd.C_drew ?_))); (case side2 => exact HC1.out); rintro e w' ⟨rfl, ⟨nd, rfl⟩⟩; refine ⟨_, rfl, ?_⟩))
        go_meet
        case rel => exact ⟨_, (decide ((a3.size : Int) > 300)), (by first | rfl | (simp; done) | (simp [*]; done)), (by first | (with_reducible exact H') | exact H' | (subst_vars; exact H')), ⟨by first | omega | exact Nat.le_refl _⟩, ⟨by repeat (first | (with_reducible first | exact HB.out | apply below_alloc | apply pw_below_drewN | apply below_drew1) | exact HB.out)⟩⟩
    case rest =>
      clear HC7
      try clear c1
      try clear p2
      try clear c6
      try clear c8
      try clear c10
      obtain ⟨kq, x25_6, rfl, HA, HJ6, HB⟩ := hcut
      cases kq with
      | zero => exact absurd HA.out (by simp [screelaw05_BatchCuts.j0])
      | succ kj6 =>
        have H := HA.out
        clear HA
        simp only [screelaw05_BatchCuts.j0] at H
        by_cases c11 : x25_6 = true
        · subst c11
          have H1 : (some true) = some r := by rw [if_pos rfl] at H; exact H
          clear H
          have H := H1
          clear H1
          obtain rfl := Option.some.inj H
          go_wp2
          go_ret
          exact ⟨by first | rfl | (simp [errW_none, errW_some] <;> rfl) | (simp (disch := omega) only [← i64_w, IntWalk.i64_in]; rfl) | (simp [*, errW_none, errW_some] <;> rfl), by repeat (first | (with_reducible first | exact HB.out | apply below_alloc | apply pw_below_drewN | apply below_drew1) | exact HB.out)⟩
        · replace c11 := Bool.eq_false_iff.mpr c11
          subst c11
          have H1 : ((batch_Encode.f kj6 a0 l1).bind fun bt194 => (if bt194.2 = 0 then (if (bt194.1.size : Int) = 0 then (none) else (if 0 ≤ (Int.tmod (wrap64 (a2)) (bt194.1.size : Int)) then (if (Int.tmod (wrap64 (a2)) (bt194.1.size : Int)) ≤ (bt194.1.size : Int) then ((batch_Decode.f kj6 (bt194.1.extract 0 ((Int.tmod (wrap64 (a2)) (bt194.1.size : Int)) : Int).toNat)).bind fun bt196 => (if bt194.1.size + a3.size ≤ 9223372036854775807 then ((batch_Decode.f kj6 (bt194.1 ++ a3)).bind fun bt201 => (if bt196.2.2 = 2 then (some ((bt201.2.2 == 2) == (a3.toList != ([] : List UInt8)))) else (none))) else (none))) else (none)) else (none))) else (some true))) = some r := by rw [if_neg (show ¬ (false = true) by decide)] at H; exact H
          clear H
          have H := H1
          clear H1
          replace H := Option.bind_eq_some_iff.mp H
          obtain ⟨⟨t194, t195⟩, A120, H⟩ := H
          replace H : (if t195 = 0 then (if (t194.size : Int) = 0 then (none) else (if 0 ≤ (Int.tmod (wrap64 (a2)) (t194.size : Int)) then (if (Int.tmod (wrap64 (a2)) (t194.size : Int)) ≤ (t194.size : Int) then ((batch_Decode.f kj6 (t194.extract 0 ((Int.tmod (wrap64 (a2)) (t194.size : Int)) : Int).toNat)).bind fun bt196 => (if t194.size + a3.size ≤ 9223372036854775807 then ((batch_Decode.f kj6 (t194 ++ a3)).bind fun bt201 => (if bt196.2.2 = 2 then (some ((bt201.2.2 == 2) == (a3.toList != ([] : List UInt8)))) else (none))) else (none))) else (none)) else (none))) else (some true)) = some r := H
          have A12 := Aside0.mk A120
          clear A120
          by_cases c13 : t195 = 0
          · rw [if_pos c13] at H
            have c13b0 : (t195 == 0) = true := beq_iff_eq.mpr c13
            have c13b1 : (t195 != 0) = false := bne_eq_false_iff_eq.mpr c13
            clear c13
            by_cases c14 : (t194.size : Int) = 0
            · rw [if_pos c14] at H
              exact absurd H (by simp)
            · rw [if_neg c14] at H
              have c14b0 : ((t194.size : Int) == 0) = false := beq_eq_false_iff_ne.mpr c14
              have c14b1 : ((t194.size : Int) != 0) = true := bne_iff_ne.mpr c14
              obtain ⟨ji15, hji15⟩ : ∃ j_ : Int, (Int.tmod (wrap64 (a2)) (t194.size : Int)) = j_ := ⟨_, rfl⟩
              replace H : (if 0 ≤ (ji15) then (if (ji15) ≤ (t194.size : Int) then ((batch_Decode.f kj6 (t194.extract 0 ((ji15) : Int).toNat)).bind fun bt196 => (if t194.size + a3.size ≤ 9223372036854775807 then ((batch_Decode.f kj6 (t194 ++ a3)).bind fun bt201 => (if bt196.2.2 = 2 then (some ((bt201.2.2 == 2) == (a3.toList != ([] : List UInt8)))) else (none))) else (none))) else (none)) else (none)) = some r := by first | (rw [hji15] at H; exact H) | (simp only [hji15] at H ⊢; exact H)
              (try rw [hji15])
              (try rw [hji15] at A12)
              by_cases c16 : 0 ≤ (ji15)
              · rw [if_pos c16] at H
                have c16b0 := eq_true c16
                have c16b1 : decide (0 ≤ (ji15)) = true := decide_eq_true c16
                clear c16
                by_cases c17 : (ji15) ≤ (t194.size : Int)
                · rw [if_pos c17] at H
                  have c17b0 := eq_true c17
                  have c17b1 : decide ((ji15) ≤ (t194.size : Int)) = true := decide_eq_true c17
                  clear c17
                  replace H := Option.bind_eq_some_iff.mp H
                  obtain ⟨⟨t196, t197, t198⟩, A180, H⟩ := H
                  replace H : (if t194.size + a3.size ≤ 9223372036854775807 then ((batch_Decode.f kj6 (t194 ++ a3)).bind fun bt201 => (if t198 = 2 then (some ((bt201.2.2 == 2) == (a3.toList != ([] : List UInt8)))) else (none))) else (none)) = some r := H
                  have A18 := Aside0.mk A180
                  clear A180
                  by_cases c19 : t194.size + a3.size ≤ 9223372036854775807
                  · rw [if_pos c19] at H
                    have c19b0 := eq_true c19
                    have c19b1 : decide (t194.size + a3.size ≤ 9223372036854775807) = true := decide_eq_true c19
                    try have c19b2 : (9223372036854775807 < t194.size + a3.size) = False := eq_false (Nat.not_lt.2 c19)
                    try (have c19b3 := c19b2; simp only [ByteArray.size_append] at c19b3)
                    try (have c19b4 := c19b2; simp only [ByteArray.size_extract, ByteArray.size_append, Nat.sub_zero] at c19b4)
                    replace H := Option.bind_eq_some_iff.mp H
                    obtain ⟨⟨t201, t202, t203⟩, A200, H⟩ := H
                    replace H : (if t198 = 2 then (some ((t203 == 2) == (a3.toList != ([] : List UInt8)))) else (none)) = some r := H
                    have A20 := Aside0.mk A200
                    clear A200
                    by_cases c21 : t198 = 2
                    · rw [if_pos c21] at H
                      have c21b0 : (t198 == 2) = true := beq_iff_eq.mpr c21
                      have c21b1 : (t198 != 2) = false := bne_eq_false_iff_eq.mpr c21
                      clear c21
                      obtain rfl := Option.some.inj H
                      go_wp2_with (first | ((with_reducible refine gate_callee (f := 12) rfl ?_); refine goesL_ (some 29) rfl rfl Try.func12 (by kernel_rfl) rfl #[.int .u64 a0, .slice A1 l1.length c1] rfl (by (try simp only [List.map_toArray, List.map_cons, List.map_nil]); first | done | rfl | (simp only [List.length_drop, List.length_take]; rfl) | (simp (disch := omega) only [IntWalk.u64_in, IntWalk.i64_in, IntWalk.u8_in]; rfl)) ?_; (with_reducible refine (batch_Encode.calls kj6 a0 _ _ l1 t194 t195 _ ?side1 ?side2 A12.out).mono ?_); (case side1 => repeat (first | exact (Kd.C_below HR1.out HB.out) | (with_reducible refine Kd.C_alloc ?_ _) | (with_reducible refine Kd.C_drewN ?_ _) | (with_reducible refine Kd.C_drew ?_))); (case side2 => exact HC1.out); rintro e w22 ⟨rfl, hb⟩; refine ⟨_, rfl, ?_⟩; have n0_ := Aside0.mk (below_step (by repeat (first | (with_reducible first | exact HB.out | apply below_alloc | apply pw_below_drewN | apply below_drew1) | exact HB.out)) hb); clear HB; have HB := n0_; clear n0_; (try clear hb); (try clear hb2); (try clear hk); (try clear hi); (try clear A12)) | ((with_reducible refine gate_callee (f := 20) rfl ?_); refine goesL_ (some 42) rfl rfl Try.func20 (by kernel_rfl) rfl #[.string (t194.extract 0 ((ji15) : Int).toNat)] rfl (by (try simp only [List.map_toArray, List.map_cons, List.map_nil]); first | done | (simp only [hji15]; rfl) | rfl | (simp only [List.length_drop, List.length_take]; rfl) | (simp (disch := omega) only [IntWalk.u64_in, IntWalk.i64_in, IntWalk.u8_in]; rfl)) ?_; (with_reducible refine (batch_Decode.calls kj6 (t194.extract 0 ((ji15) : Int).toNat) t196 t197 t198 _ A18.out).mono ?_); rintro e w23 ⟨v199, rfl, ho0, hb⟩; refine ⟨_, rfl, ?_⟩; have n0_ := Aside0.mk (Kd.R_lower ho0 (below_size (by repeat (first | (with_reducible first | exact HB.out | apply below_alloc | apply pw_below_drewN | apply below_drew1) | exact HB.out)))); have n1_ := Aside0.mk (below_step (by repeat (first | (with_reducible first | exact HB.out | apply below_alloc | apply pw_below_drewN | apply below_drew1) | exact HB.out)) hb); clear HB; have HO200 := n0_; have HB := n1_; clear n0_ n1_; (try clear hb); (try clear hb2); (try clear hk); (try clear hi); (try clear ho0); (try clear A18)) | ((with_reducible refine gate_callee (f := 20) rfl ?_); refine goesL_ (some 50) rfl rfl Try.func20 (by kernel_rfl) rfl #[.string (t194 ++ a3)] rfl (by (try simp only [List.map_toArray, List.map_cons, List.map_nil]); first | done | rfl | (simp only [List.length_drop, List.length_take]; rfl) | (simp (disch := omega) only [IntWalk.u64_in, IntWalk.i64_in, IntWalk.u8_in]; rfl)) ?_; (with_reducible refine (batch_Decode.calls kj6 (t194 ++ a3) t201 t202 t203 _ A20.out).mono ?_); rintro e w24 ⟨v204, rfl, ho0, hb⟩; refine ⟨_, rfl, ?_⟩; have n0_ := Aside0.mk (Kd.R_elder' (by (with_reducible repeat (first | apply Kd.R_alloc | apply Kd.R_drewN | apply Kd.R_drew)); exact HO200.out) (Kd.R_base ho0) hb); have n1_ := Aside0.mk (Kd.R_lower (Kd.R_new' ho0 (Kd.R_lt (by (with_reducible repeat (first | apply Kd.R_alloc | apply Kd.R_drewN | apply Kd.R_drew)); exact HO200.out))) (below_size (by repeat (first | (with_reducible first | exact HB.out | apply below_alloc | apply pw_below_drewN | apply below_drew1) | exact HB.out)))); have n2_ := Aside0.mk (below_step (by repeat (first | (with_reducible first | exact HB.out | apply below_alloc | apply pw_below_drewN | apply below_drew1) | exact HB.out)) hb); clear HO200; clear HB; have HO200 := n0_; have HO205 := n1_; have HB := n2_; clear n0_ n1_ n2_; (try clear hb); (try clear hb2); (try clear hk); (try clear hi); (try clear ho0); (try clear A20)))
                      go_ret
                      exact ⟨by first | rfl | (rw [Mk.bne_nil]; first | done | rfl) | (simp [errW_none, errW_some] <;> rfl) | (simp (disch := omega) only [← i64_w, IntWalk.i64_in]; rfl) | (simp only [← hji15]; first | rfl | (simp [errW_none, errW_some] <;> rfl)) | (simp [*, errW_none, errW_some] <;> rfl), by repeat (first | (with_reducible first | exact HB.out | apply below_alloc | apply pw_below_drewN | apply below_drew1) | exact HB.out)⟩
                    · rw [if_neg c21] at H
                      exact absurd H (by simp)
                  · rw [if_neg c19] at H
                    exact absurd H (by simp)
                · rw [if_neg c17] at H
                  exact absurd H (by simp)
              · rw [if_neg c16] at H
                exact absurd H (by simp)
          · rw [if_neg c13] at H
            have c13b0 : (t195 == 0) = false := beq_eq_false_iff_ne.mpr c13
            have c13b1 : (t195 != 0) = true := bne_iff_ne.mpr c13
            obtain rfl := Option.some.inj H
            go_wp2_with (first | ((with_reducible refine gate_callee (f := 12) rfl ?_); refine goesL_ (some 29) rfl rfl Try.func12 (by kernel_rfl) rfl #[.int .u64 a0, .slice A1 l1.length c1] rfl (by (try simp only [List.map_toArray, List.map_cons, List.map_nil]); first | done | rfl | (simp only [List.length_drop, List.length_take]; rfl) | (simp (disch := omega) only [IntWalk.u64_in, IntWalk.i64_in, IntWalk.u8_in]; rfl)) ?_; (with_reducible refine (batch_Encode.calls kj6 a0 _ _ l1 t194 t195 _ ?side1 ?side2 A12.out).mono ?_); (case side1 => repeat (first | exact (Kd.C_below HR1.out HB.out) | (with_reducible refine Kd.C_alloc ?_ _) | (with_reducible refine Kd.C_drewN ?_ _) | (with_reducible refine Kd.C_drew ?_))); (case side2 => exact HC1.out); rintro e w25 ⟨rfl, hb⟩; refine ⟨_, rfl, ?_⟩; have n0_ := Aside0.mk (below_step (by repeat (first | (with_reducible first | exact HB.out | apply below_alloc | apply pw_below_drewN | apply below_drew1) | exact HB.out)) hb); clear HB; have HB := n0_; clear n0_; (try clear hb); (try clear hb2); (try clear hk); (try clear hi); (try clear A12)))
            go_ret
            exact ⟨by first | rfl | (rw [Mk.bne_nil]; first | done | rfl) | (simp [errW_none, errW_some] <;> rfl) | (simp (disch := omega) only [← i64_w, IntWalk.i64_in]; rfl) | (simp [*, errW_none, errW_some] <;> rfl), by repeat (first | (with_reducible first | exact HB.out | apply below_alloc | apply pw_below_drewN | apply below_drew1) | exact HB.out)⟩
  · replace c6 := Bool.eq_false_iff.mpr c6
    subst c6
    have H1 : (none) = some r := by rw [if_neg (show ¬ (false = true) by decide)] at H; exact H
    clear H
    have H := H1
    clear H1
    exact absurd H (by simp)

/-! ### screelaw05_BatchMay: function 9 -/
mutual
def screelaw05_BatchMay.j0 : Nat → List (S34) → Bool → Option (Bool)
  | 0, _, _ => none
  | k + 1, x0, x3 => screelaw05_BatchMay.l0 k x0 x3 (x0.length : Int) 0
def screelaw05_BatchMay.l0 : Nat → List (S34) → Bool → Int → Int → Option (Bool)
  | 0, _, _, _, _ => none
  | k + 1, x0, x3, x20, x21 => if x21 < x20 then (if x3 = true then (if 0 ≤ x21 then (if x21 ≤ (wrap64 (x21 + 1)) then (if (wrap64 (x21 + 1)) ≤ (x0.length : Int) then ((batch_May.f ((x0.take ((wrap64 (x21 + 1)) : Int).toNat).drop (x21 : Int).toNat)).bind fun t212 => (screelaw05_BatchMay.l0 k x0 t212 x20 (wrap64 (x21 + 1)))) else (none)) else (none)) else (none)) else (screelaw05_BatchMay.l0 k x0 false x20 (wrap64 (x21 + 1)))) else ((batch_Encode.f k 1 x0).bind fun bt213 => ((batch_May.f x0).bind fun t215 => (if (t215 == x3) = true then (some ((bt213.2 == 0) == x3)) else (none))))
end
def screelaw05_BatchMay.f (k : Nat) (l0 : List (S34)) : Option (Bool) := (screelaw05_awake.f k).bind fun t206 => (if t206 = true then ((screelaw05_large.f k l0).bind fun t207 => (if t207 = true then (some true) else (if (l0.length : Int) > 0 then (screelaw05_BatchMay.j0 k l0 (decide ((l0.length : Int) ≤ 16))) else (screelaw05_BatchMay.j0 k l0 false)))) else (none))
theorem screelaw05_BatchMay.mono_l : ∀ k, (∀ y0 y1, LeO (screelaw05_BatchMay.j0 k y0 y1) (screelaw05_BatchMay.j0 (k + 1) y0 y1)) ∧ (∀ y0 y1 y2 y3, LeO (screelaw05_BatchMay.l0 k y0 y1 y2 y3) (screelaw05_BatchMay.l0 (k + 1) y0 y1 y2 y3))
  | 0 => ⟨fun _ _ r h => by simp [screelaw05_BatchMay.j0] at h, fun _ _ _ _ r h => by simp [screelaw05_BatchMay.l0] at h⟩
  | k + 1 => by
    obtain ⟨ih0, ih1⟩ := screelaw05_BatchMay.mono_l k
    refine ⟨?_, ?_⟩
    · intro y0 y1
      unfold screelaw05_BatchMay.j0
      repeat' first
      | (with_reducible exact ih0 _ _)
      | (with_reducible exact ih1 _ _ _ _)
      | (with_reducible exact batch_Encode.mono _ _ _)
      | (with_reducible exact screelaw05_awake.mono _)
      | (with_reducible exact screelaw05_large.mono _ _)
      | (with_reducible exact LeO.refl _)
      | (with_reducible exact LeO.none _)
      | (with_reducible refine LeO.ite ?_ ?_)
      | (with_reducible refine LeO.bind ?_ (fun _ => ?_))
      | exact ih0 _ _
      | exact ih1 _ _ _ _
      | exact batch_Encode.mono _ _ _
      | exact screelaw05_awake.mono _
      | exact screelaw05_large.mono _ _
      | exact LeO.none _
      | refine LeO.ite ?_ ?_
      | refine LeO.bind ?_ (fun _ => ?_)
    · intro y0 y1 y2 y3
      unfold screelaw05_BatchMay.l0
      repeat' first
      | (with_reducible exact ih0 _ _)
      | (with_reducible exact ih1 _ _ _ _)
      | (with_reducible exact batch_Encode.mono _ _ _)
      | (with_reducible exact screelaw05_awake.mono _)
      | (with_reducible exact screelaw05_large.mono _ _)
      | (with_reducible exact LeO.refl _)
      | (with_reducible exact LeO.none _)
      | (with_reducible refine LeO.ite ?_ ?_)
      | (with_reducible refine LeO.bind ?_ (fun _ => ?_))
      | exact ih0 _ _
      | exact ih1 _ _ _ _
      | exact batch_Encode.mono _ _ _
      | exact screelaw05_awake.mono _
      | exact screelaw05_large.mono _ _
      | exact LeO.none _
      | refine LeO.ite ?_ ?_
      | refine LeO.bind ?_ (fun _ => ?_)
theorem screelaw05_BatchMay.mono : ∀ a0 k, LeO (screelaw05_BatchMay.f k a0) (screelaw05_BatchMay.f (k + 1) a0) := by
  intro a0 k
  obtain ⟨ih0, ih1⟩ := screelaw05_BatchMay.mono_l k
  unfold screelaw05_BatchMay.f
  repeat' first
      | (with_reducible exact ih0 _ _)
      | (with_reducible exact ih1 _ _ _ _)
      | (with_reducible exact batch_Encode.mono _ _ _)
      | (with_reducible exact screelaw05_awake.mono _)
      | (with_reducible exact screelaw05_large.mono _ _)
      | (with_reducible exact LeO.refl _)
      | (with_reducible exact LeO.none _)
      | (with_reducible refine LeO.ite ?_ ?_)
      | (with_reducible refine LeO.bind ?_ (fun _ => ?_))
      | exact ih0 _ _
      | exact ih1 _ _ _ _
      | exact batch_Encode.mono _ _ _
      | exact screelaw05_awake.mono _
      | exact screelaw05_large.mono _ _
      | exact LeO.none _
      | refine LeO.ite ?_ ?_
      | refine LeO.bind ?_ (fun _ => ?_)
set_option maxHeartbeats 8000000 in
set_option maxRecDepth 100000 in
theorem screelaw05_BatchMay.calls (k : Nat) (A0 : Option Addr) (c0 : Nat) (l0 : List (S34)) (r : Bool) (w : World) (hr0 : Kd.C k34 w A0 l0.length l0) (hc0 : l0.length ≤ c0) (h : screelaw05_BatchMay.f k l0 = some r) :
    Calls Try.prog 9 #[.slice A0 l0.length c0] w fun e w' => e = .returned (.bool r) ∧ Below w.heap.size w w' := by
  have HR0 := Aside0.mk hr0
  have HC0 := Aside0.mk hc0
  clear hr0 hc0
  have HB := Aside0.mk (Below.refl w.heap.size w)
  have H : ((screelaw05_awake.f k).bind fun t206 => (if t206 = true then ((screelaw05_large.f k l0).bind fun t207 => (if t207 = true then (some true) else (if (l0.length : Int) > 0 then (screelaw05_BatchMay.j0 k l0 (decide ((l0.length : Int) ≤ 16))) else (screelaw05_BatchMay.j0 k l0 false)))) else (none))) = some r := h
  clear h
  replace H := Option.bind_eq_some_iff.mp H
  obtain ⟨t206, A20, H⟩ := H
  replace H : (if t206 = true then ((screelaw05_large.f k l0).bind fun t207 => (if t207 = true then (some true) else (if (l0.length : Int) > 0 then (screelaw05_BatchMay.j0 k l0 (decide ((l0.length : Int) ≤ 16))) else (screelaw05_BatchMay.j0 k l0 false)))) else (none)) = some r := H
  have A2 := Aside0.mk A20
  clear A20
  by_cases c3 : t206 = true
  · subst c3
    have H1 : ((screelaw05_large.f k l0).bind fun t207 => (if t207 = true then (some true) else (if (l0.length : Int) > 0 then (screelaw05_BatchMay.j0 k l0 (decide ((l0.length : Int) ≤ 16))) else (screelaw05_BatchMay.j0 k l0 false)))) = some r := by rw [if_pos rfl] at H; exact H
    clear H
    have H := H1
    clear H1
    replace H := Option.bind_eq_some_iff.mp H
    obtain ⟨t207, A40, H⟩ := H
    replace H : (if t207 = true then (some true) else (if (l0.length : Int) > 0 then (screelaw05_BatchMay.j0 k l0 (decide ((l0.length : Int) ≤ 16))) else (screelaw05_BatchMay.j0 k l0 false))) = some r := H
    have A4 := Aside0.mk A40
    clear A40
    by_cases c5 : t207 = true
    · subst c5
      have H1 : (some true) = some r := by rw [if_pos rfl] at H; exact H
      clear H
      have H := H1
      clear H1
      obtain rfl := Option.some.inj H
      go_enter Try.func9, Try.ntmps9
      go_wp2_with (first | ((with_reducible refine gate_callee (f := 10) rfl ?_); refine goesL_ (some 7) rfl rfl Try.func10 (by kernel_rfl) rfl #[] rfl (by (try simp only [List.map_toArray, List.map_cons, List.map_nil]); first | done | rfl | (simp only [List.length_drop, List.length_take]; rfl) | (simp (disch := omega) only [IntWalk.u64_in, IntWalk.i64_in, IntWalk.u8_in]; rfl)) ?_; (with_reducible refine (screelaw05_awake.calls k  true _ A2.out).mono ?_); rintro e w6 ⟨rfl, hb⟩; refine ⟨_, rfl, ?_⟩; have n0_ := Aside0.mk (below_step (by repeat (first | (with_reducible first | exact HB.out | apply below_alloc | apply pw_below_drewN | apply below_drew1) | exact HB.out)) hb); clear HB; have HB := n0_; clear n0_; (try clear hb); (try clear hb2); (try clear hk); (try clear hi); (try clear A2)) | ((with_reducible refine gate_callee (f := 11) rfl ?_); refine goesL_ (some 10) rfl rfl Try.func11 (by kernel_rfl) rfl #[.slice A0 l0.length c0] rfl (by (try simp only [List.map_toArray, List.map_cons, List.map_nil]); first | done | rfl | (simp only [List.length_drop, List.length_take]; rfl) | (simp (disch := omega) only [IntWalk.u64_in, IntWalk.i64_in, IntWalk.u8_in]; rfl)) ?_; (with_reducible refine (screelaw05_large.calls k _ _ l0 true _ ?side1 ?side2 A4.out).mono ?_); (case side1 => repeat (first | exact (Kd.C_below HR0.out HB.out) | (with_reducible refine Kd.C_alloc ?_ _) | (with_reducible refine Kd.C_drewN ?_ _) | (with_reducible refine Kd.C_drew ?_))); (case side2 => exact HC0.out); rintro e w' ⟨rfl, ⟨nd, rfl⟩⟩; refine ⟨_, rfl, ?_⟩))
      go_ret
      exact ⟨by first | rfl | (simp [errW_none, errW_some] <;> rfl) | (simp (disch := omega) only [← i64_w, IntWalk.i64_in]; rfl) | (simp [*, errW_none, errW_some] <;> rfl), by repeat (first | (with_reducible first | exact HB.out | apply below_alloc | apply pw_below_drewN | apply below_drew1) | exact HB.out)⟩
    · replace c5 := Bool.eq_false_iff.mpr c5
      subst c5
      have H1 : (if (l0.length : Int) > 0 then (screelaw05_BatchMay.j0 k l0 (decide ((l0.length : Int) ≤ 16))) else (screelaw05_BatchMay.j0 k l0 false)) = some r := by rw [if_neg (show ¬ (false = true) by decide)] at H; exact H
      clear H
      have H := H1
      clear H1
      have HC7 := Aside0.mk H
      clear H
      go_enter Try.func9, Try.ntmps9
      go_upto_region 5 with (first | ((with_reducible refine gate_callee (f := 10) rfl ?_); refine goesL_ (some 7) rfl rfl Try.func10 (by kernel_rfl) rfl #[] rfl (by (try simp only [List.map_toArray, List.map_cons, List.map_nil]); first | done | rfl | (simp only [List.length_drop, List.length_take]; rfl) | (simp (disch := omega) only [IntWalk.u64_in, IntWalk.i64_in, IntWalk.u8_in]; rfl)) ?_; (with_reducible refine (screelaw05_awake.calls k  true _ A2.out).mono ?_); rintro e w8 ⟨rfl, hb⟩; refine ⟨_, rfl, ?_⟩; have n0_ := Aside0.mk (below_step (by repeat (first | (with_reducible first | exact HB.out | apply below_alloc | apply pw_below_drewN | apply below_drew1) | exact HB.out)) hb); clear HB; have HB := n0_; clear n0_; (try clear hb); (try clear hb2); (try clear hk); (try clear hi); (try clear A2)) | ((with_reducible refine gate_callee (f := 11) rfl ?_); refine goesL_ (some 10) rfl rfl Try.func11 (by kernel_rfl) rfl #[.slice A0 l0.length c0] rfl (by (try simp only [List.map_toArray, List.map_cons, List.map_nil]); first | done | rfl | (simp only [List.length_drop, List.length_take]; rfl) | (simp (disch := omega) only [IntWalk.u64_in, IntWalk.i64_in, IntWalk.u8_in]; rfl)) ?_; (with_reducible refine (screelaw05_large.calls k _ _ l0 false _ ?side1 ?side2 A4.out).mono ?_); (case side1 => repeat (first | exact (Kd.C_below HR0.out HB.out) | (with_reducible refine Kd.C_alloc ?_ _) | (with_reducible refine Kd.C_drewN ?_ _) | (with_reducible refine Kd.C_drew ?_))); (case side2 => exact HC0.out); rintro e w' ⟨rfl, ⟨nd, rfl⟩⟩; refine ⟨_, rfl, ?_⟩))
      (try simp only [Act.put, List.setIfInBounds_toArray, List.set_cons_zero, List.set_cons_succ])
      go_cut [3] (fun v3 wc => ∃ (kq : Nat) (x3_6 : Bool), v3 = .bool x3_6 ∧ Aside0 (screelaw05_BatchMay.j0 kq l0 x3_6 = some r) ∧ Aside0 (kq ≤ k) ∧ Aside0 (Below w.heap.size w wc))
      case first =>
        have H := HC7.out
        clear HC7
        by_cases c9 : (l0.length : Int) > 0
        · rw [if_pos c9] at H
          have c9b0 : decide (0 < (l0.length : Int)) = true := decide_eq_true c9
          have c9b1 : decide (0 < l0.length) = true := decide_eq_true (by omega)
          clear c9
          (first | rw [c9b0] | (simp only [i64_w, i32_w]; rw [c9b0]) | skip)
          have H' := Aside0.mk H
          clear H
          go_wp2
          go_meet
          case rel => exact ⟨_, (decide ((l0.length : Int) ≤ 16)), (by first | rfl | (simp; done) | (simp [*]; done)), (by first | (with_reducible exact H') | exact H' | (subst_vars; exact H')), ⟨by first | omega | exact Nat.le_refl _⟩, ⟨by repeat (first | (with_reducible first | exact HB.out | apply below_alloc | apply pw_below_drewN | apply below_drew1) | exact HB.out)⟩⟩
        · rw [if_neg c9] at H
          have c9b0 : decide (0 < (l0.length : Int)) = false := decide_eq_false c9
          have c9b1 : decide (0 < l0.length) = false := decide_eq_false (by omega)
          clear c9
          (first | rw [c9b0] | (simp only [i64_w, i32_w]; rw [c9b0]) | skip)
          have H' := Aside0.mk H
          clear H
          go_wp2
          go_meet
          case rel => exact ⟨_, (false), (by first | rfl | (simp; done) | (simp [*]; done)), (by first | (with_reducible exact H') | exact H' | (subst_vars; exact H')), ⟨by first | omega | exact Nat.le_refl _⟩, ⟨by repeat (first | (with_reducible first | exact HB.out | apply below_alloc | apply pw_below_drewN | apply below_drew1) | exact HB.out)⟩⟩
      case rest =>
        clear HC7
        try clear c1
        try clear p2
        try clear c3
        try clear c5
        try clear c9
        try clear c9b0
        try clear c9b1
        obtain ⟨kq, x3_6, rfl, HA, HJ6, HB⟩ := hcut
        cases kq with
        | zero => exact absurd HA.out (by simp [screelaw05_BatchMay.j0])
        | succ kj6 =>
          have H := HA.out
          clear HA
          simp only [screelaw05_BatchMay.j0] at H
          have H' := Aside0.mk H
          clear H
          go_wp2
          go_loopg [3, 21] kj6 (fun kq v3 v21 w' => ∃ (x3_2 : Bool) (x21_2 : Int), v3 = .bool x3_2 ∧ v21 = .int .i64 x21_2 ∧ Aside0 (screelaw05_BatchMay.l0 kq l0 x3_2 (l0.length : Int) x21_2 = some r) ∧ Aside0 (kq ≤ kj6) ∧ Aside0 (Below w.heap.size w w'))
          case atStart => exact ⟨(x3_6), (0), (by first | rfl | (simp; done) | (simp [*]; done)), (by first | rfl | (simp; done) | (simp [*]; done)), H', ⟨Nat.le_refl _⟩, ⟨by repeat (first | (with_reducible first | exact HB.out | apply below_alloc | apply pw_below_drewN | apply below_drew1) | exact HB.out)⟩⟩
          case round =>
            clear H'
            try clear c1
            try clear p2
            try clear c3
            try clear c5
            try clear c9
            try clear c9b0
            try clear c9b1
            try clear p2
            obtain ⟨x3_2, x21_2, rfl, rfl, HA, HK2, HB⟩ := hrel
            cases gk with
            | zero => exact absurd HA.out (by simp [screelaw05_BatchMay.l0])
            | succ k2 =>
              have H := HA.out
              clear HA
              simp only [screelaw05_BatchMay.l0] at H
              by_cases c10 : x21_2 < (l0.length : Int)
              · rw [if_pos c10] at H
                have c10b0 : decide (x21_2 < (l0.length : Int)) = true := decide_eq_true c10
                clear c10
                by_cases c11 : x3_2 = true
                · subst c11
                  have H1 : (if 0 ≤ x21_2 then (if x21_2 ≤ (wrap64 (x21_2 + 1)) then (if (wrap64 (x21_2 + 1)) ≤ (l0.length : Int) then ((batch_May.f ((l0.take ((wrap64 (x21_2 + 1)) : Int).toNat).drop (x21_2 : Int).toNat)).bind fun t212 => (screelaw05_BatchMay.l0 k2 l0 t212 (l0.length : Int) (wrap64 (x21_2 + 1)))) else (none)) else (none)) else (none)) = some r := by rw [if_pos rfl] at H; exact H
                  clear H
                  have H := H1
                  clear H1
                  by_cases c12 : 0 ≤ x21_2
                  · rw [if_pos c12] at H
                    have c12b0 := eq_true c12
                    have c12b1 : decide (0 ≤ x21_2) = true := decide_eq_true c12
                    clear c12
                    by_cases c13 : x21_2 ≤ (wrap64 (x21_2 + 1))
                    · rw [if_pos c13] at H
                      have c13b0 := eq_true c13
                      have c13b1 : decide (x21_2 ≤ (wrap64 (x21_2 + 1))) = true := decide_eq_true c13
                      by_cases c14 : (wrap64 (x21_2 + 1)) ≤ (l0.length : Int)
                      · rw [if_pos c14] at H
                        have c14b0 := eq_true c14
                        have c14b1 : decide ((wrap64 (x21_2 + 1)) ≤ (l0.length : Int)) = true := decide_eq_true c14
                        obtain ⟨y208, hy208⟩ : ∃ y_ : List (S34), y_ = ((l0.take ((wrap64 (x21_2 + 1)) : Int).toNat).drop (x21_2 : Int).toNat) := ⟨_, rfl⟩
                        replace H : ((batch_May.f y208).bind fun t212 => (screelaw05_BatchMay.l0 k2 l0 t212 (l0.length : Int) (wrap64 (x21_2 + 1)))) = some r := by first | (rw [hy208]; with_reducible exact H) | (have H2_ := (Option.bind_some _ _).symm.trans H; rw [hy208]; with_reducible exact H2_) | (have H2_ := (Option.bind_some _ _).symm.trans H; with_reducible exact H2_) | with_reducible exact H | (rw [hy208]; exact H) | exact H
                        have Ny208 := Aside0.mk hy208
                        clear hy208
                        replace H := Option.bind_eq_some_iff.mp H
                        obtain ⟨t212, A150, H⟩ := H
                        replace H : (screelaw05_BatchMay.l0 k2 l0 t212 (l0.length : Int) (wrap64 (x21_2 + 1))) = some r := H
                        have A15 := Aside0.mk A150
                        clear A150
                        have H' := Aside0.mk H
                        clear H
                        have q16 : ((wrap64 (x21_2 + 1)) : Int) ≤ ((l0.length : Int) : Int) := of_decide_eq_true (by first | (with_reducible assumption) | assumption)
                        obtain ⟨i016, hi016, _, hsz16, _⟩ := info_parts info34
                        have hroom16 : l0.length ≤ c0 := HC0.out
                        have hC16 : Kd.C k34 _ A0 l0.length l0 := HR0.out
                        have ql16 : (x21_2 : Int) ≤ ((wrap64 (x21_2 + 1)) : Int) := of_decide_eq_true (by first | (with_reducible assumption) | assumption)
                        have q016 : (0 : Int) ≤ (x21_2 : Int) := of_decide_eq_true (by first | (with_reducible assumption) | assumption)
                        have hcut16 := cut_mid (P := Try.prog) 23 34 .i64 .i64 Try.underlying23 hi016 3 hsz16 A0 l0.length c0 x21_2 (wrap64 (x21_2 + 1)) q016 ql16 q16 hroom16
                        have hr16 := Kd.C_mid (lo := (x21_2 : Int).toNat) (hi := ((wrap64 (x21_2 + 1)) : Int).toNat) (c := c0) hC16 (by omega) (by omega) hroom16
                        obtain ⟨A16, hA16⟩ : ∃ A1, A1 = (if c0 = (x21_2 : Int).toNat then A0 else (A0 : Option Addr).map (·.add ((x21_2 : Int).toNat * 3))) := ⟨_, rfl⟩
                        obtain ⟨c16, hc16⟩ : ∃ c1, c1 = c0 - (x21_2 : Int).toNat := ⟨_, rfl⟩
                        have hy16 : y208.length = ((wrap64 (x21_2 + 1)) : Int).toNat - (x21_2 : Int).toNat := (by rw [Ny208.out, List.length_drop, List.length_take] <;> omega)
                        rw [show ((l0).take ((wrap64 (x21_2 + 1)) : Int).toNat).drop (x21_2 : Int).toNat = y208 from Ny208.out.symm] at hr16
                        replace hr16 : Kd.C k34 _ A16 y208.length y208 := (by rw [hA16]; exact hr16)
                        rw [← hy16, ← hA16, ← hc16] at hcut16
                        have HR211 := Aside0.mk hr16
                        have HC211 := Aside0.mk (show y208.length ≤ c16 from by rw [hy16, hc16]; exact Nat.sub_le_sub_right (Nat.le_trans (by omega) hroom16) _)
                        clear hr16 hC16 hroom16 hi016 hsz16 hc16
                        have KY16 := Aside0.mk hy16
                        have KA16 := Aside0.mk hA16
                        clear hy16 hA16
                        replace q16 := eq_true q16
                        go_wp2_with (first | (go_at_call 16; (with_reducible refine (batch_May.calls _ _ y208 t212 _ ?side1 ?side2 A15.out).mono ?_); (case side1 => repeat (first | exact (Kd.C_below HR211.out HB.out) | (with_reducible refine Kd.C_alloc ?_ _) | (with_reducible refine Kd.C_drewN ?_ _) | (with_reducible refine Kd.C_drew ?_))); (case side2 => exact HC211.out); rintro e w17 ⟨rfl, hb⟩; have n0_ := Aside0.mk (below_step (by repeat (first | (with_reducible first | exact HB.out | apply below_alloc | apply pw_below_drewN | apply below_drew1) | exact HB.out)) hb); clear HB; have HB := n0_; clear n0_; (try clear hb); (try clear hb2); (try clear hk); (try clear hi); (try clear A15)))
                        go_roundg k2
                        case measure => have := HJ6.out; have := HK2.out; omega
                        case rel => exact ⟨(t212), (wrap64 (x21_2 + 1)), (by first | rfl | (simp; done) | (simp [*]; done)), (by first | rfl | (simp; done) | (simp [*]; done)), (by first | (with_reducible exact H') | exact H' | (subst_vars; exact H')), ⟨by have := HJ6.out; have := HK2.out; omega⟩, ⟨by repeat (first | (with_reducible first | exact HB.out | apply below_alloc | apply pw_below_drewN | apply below_drew1) | exact HB.out)⟩⟩
                      · rw [if_neg c14] at H
                        exact absurd H (by simp)
                    · rw [if_neg c13] at H
                      exact absurd H (by simp)
                  · rw [if_neg c12] at H
                    exact absurd H (by simp)
                · replace c11 := Bool.eq_false_iff.mpr c11
                  subst c11
                  have H1 : (screelaw05_BatchMay.l0 k2 l0 false (l0.length : Int) (wrap64 (x21_2 + 1))) = some r := by rw [if_neg (show ¬ (false = true) by decide)] at H; exact H
                  clear H
                  have H := H1
                  clear H1
                  have H' := Aside0.mk H
                  clear H
                  go_wp2
                  go_roundg k2
                  case measure => have := HJ6.out; have := HK2.out; omega
                  case rel => exact ⟨(false), (wrap64 (x21_2 + 1)), (by first | rfl | (simp; done) | (simp [*]; done)), (by first | rfl | (simp; done) | (simp [*]; done)), (by first | (with_reducible exact H') | exact H' | (subst_vars; exact H')), ⟨by have := HJ6.out; have := HK2.out; omega⟩, ⟨by repeat (first | (with_reducible first | exact HB.out | apply below_alloc | apply pw_below_drewN | apply below_drew1) | exact HB.out)⟩⟩
              · rw [if_neg c10] at H
                have c10b0 : decide (x21_2 < (l0.length : Int)) = false := decide_eq_false c10
                clear c10
                replace H := Option.bind_eq_some_iff.mp H
                obtain ⟨⟨t213, t214⟩, A180, H⟩ := H
                replace H : ((batch_May.f l0).bind fun t215 => (if (t215 == x3_2) = true then (some ((t214 == 0) == x3_2)) else (none))) = some r := H
                have A18 := Aside0.mk A180
                clear A180
                replace H := Option.bind_eq_some_iff.mp H
                obtain ⟨t215, A190, H⟩ := H
                replace H : (if (t215 == x3_2) = true then (some ((t214 == 0) == x3_2)) else (none)) = some r := H
                have A19 := Aside0.mk A190
                clear A190
                by_cases c20 : (t215 == x3_2) = true
                · rw [if_pos c20] at H
                  have c20b0 : (t215 == x3_2) = true := c20
                  (try (have c20b1 : decide (t215 = x3_2) = true := by simpa using c20))
                  (try (have c20b2 : (t215 == x3_2) = true := by simpa using c20))
                  clear c20
                  obtain rfl := Option.some.inj H
                  go_wp2_with (first | ((with_reducible refine gate_callee (f := 12) rfl ?_); refine goesL_ (some 36) rfl rfl Try.func12 (by kernel_rfl) rfl #[.int .u64 1, .slice A0 l0.length c0] rfl (by (try simp only [List.map_toArray, List.map_cons, List.map_nil]); first | done | rfl | (simp only [List.length_drop, List.length_take]; rfl) | (simp (disch := omega) only [IntWalk.u64_in, IntWalk.i64_in, IntWalk.u8_in]; rfl)) ?_; (with_reducible refine (batch_Encode.calls k2 1 _ _ l0 t213 t214 _ ?side1 ?side2 A18.out).mono ?_); (case side1 => repeat (first | exact (Kd.C_below HR0.out HB.out) | (with_reducible refine Kd.C_alloc ?_ _) | (with_reducible refine Kd.C_drewN ?_ _) | (with_reducible refine Kd.C_drew ?_))); (case side2 => exact HC0.out); rintro e w21 ⟨rfl, hb⟩; refine ⟨_, rfl, ?_⟩; have n0_ := Aside0.mk (below_step (by repeat (first | (with_reducible first | exact HB.out | apply below_alloc | apply pw_below_drewN | apply below_drew1) | exact HB.out)) hb); clear HB; have HB := n0_; clear n0_; (try clear hb); (try clear hb2); (try clear hk); (try clear hi); (try clear A18)) | ((with_reducible refine gate_callee (f := 16) rfl ?_); refine goesL_ (some 40) rfl rfl Try.func16 (by kernel_rfl) rfl #[.slice A0 l0.length c0] rfl (by (try simp only [List.map_toArray, List.map_cons, List.map_nil]); first | done | rfl | (simp only [List.length_drop, List.length_take]; rfl) | (simp (disch := omega) only [IntWalk.u64_in, IntWalk.i64_in, IntWalk.u8_in]; rfl)) ?_; (with_reducible refine (batch_May.calls _ _ l0 t215 _ ?side1 ?side2 A19.out).mono ?_); (case side1 => repeat (first | exact (Kd.C_below HR0.out HB.out) | (with_reducible refine Kd.C_alloc ?_ _) | (with_reducible refine Kd.C_drewN ?_ _) | (with_reducible refine Kd.C_drew ?_))); (case side2 => exact HC0.out); rintro e w22 ⟨rfl, hb⟩; refine ⟨_, rfl, ?_⟩; have n0_ := Aside0.mk (below_step (by repeat (first | (with_reducible first | exact HB.out | apply below_alloc | apply pw_below_drewN | apply below_drew1) | exact HB.out)) hb); clear HB; have HB := n0_; clear n0_; (try clear hb); (try clear hb2); (try clear hk); (try clear hi); (try clear A19)))
                  go_ret
                  exact ⟨by first | rfl | (simp [errW_none, errW_some] <;> rfl) | (simp (disch := omega) only [← i64_w, IntWalk.i64_in]; rfl) | (simp [*, errW_none, errW_some] <;> rfl), by repeat (first | (with_reducible first | exact HB.out | apply below_alloc | apply pw_below_drewN | apply below_drew1) | exact HB.out)⟩
                · rw [if_neg c20] at H
                  exact absurd H (by simp)
  · replace c3 := Bool.eq_false_iff.mpr c3
    subst c3
    have H1 : (none) = some r := by rw [if_neg (show ¬ (false = true) by decide)] at H; exact H
    clear H
    have H := H1
    clear H1
    exact absurd H (by simp)

end Go.Proofs.Ytfgelbkhjiajfaa.P
