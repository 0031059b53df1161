-- Printed by a program of this session's own (wip/tools/pprint.sh, over the kit's print, with given contracts): not typed by hand.
import Derived.Test.YtcogolbgfkikfaaPx0
import Derived.Test.YtcogolbgfkikfaaPx1
import Derived.Test.YtcogolbgfkikfaaPx2
import Derived.Test.YtcogolbgfkikfaaPx4
import Derived.Test.YtcogolbgfkikfaaPx7
import Derived.Test.YtcogolbgfkikfaaPx8
import Derived.Test.YtcogolbgfkikfaaPx9
namespace Go.Proofs.Ytcogolbgfkikfaa.P
open Go.RowKit Go.Proofs.YtcogolbgfkikfaaW.PrintWords Go.Proofs.YtcogolbgfkikfaaW.PrintLast Go.Proofs.YtcogolbgfkikfaaW.PrintMore
attribute [local go_sem] max2_int min2_int max_two min_two max_three min_three max_four min_four   -- for this text's walks alone
set_option linter.unusedVariables false
set_option linter.unusedSimpArgs false

attribute [local go_sem high] eqA35
/-! ### screelaw09_BlockSeeks: function 6 -/
mutual
def screelaw09_BlockSeeks.j0 : Nat → List (S35) → ByteArray → Int → Bool → Option (Bool)
  | 0, _, _, _, _ => none
  | k + 1, x0, x1, x2, x21 => if x21 = true then (some true) else ((block_Encode.f k x0).bind fun bt284 => (if bt284.2 = 0 then ((block_Seek.f k bt284.1 x1 x2).bind fun bt286 => (if bt286.2.2.2.2.2 = 0 then (screelaw09_BlockSeeks.l0 k x0 x1 x2 bt286.2.2.2.2.1 (x0.length : Int) 0 bt286.1 bt286.2.1 bt286.2.2.1 bt286.2.2.2.1) else (none))) else (some true)))
def screelaw09_BlockSeeks.l0 : Nat → List (S35) → ByteArray → Int → Bool → Int → Int → ByteArray → Int → Bool → ByteArray → Option (Bool)
  | 0, _, _, _, _, _, _, _, _, _, _ => none
  | k + 1, x0, x1, x2, x10, x40, x41, x293000, x293001, x293002, x293003 => if x41 < x40 then (if 0 ≤ x41 then (if x41 < (x0.length : Int) then ((screeref07_Ahead.f ((rd_T35 x0 x41).f0) ((rd_T35 x0 x41).f1) x1 x2).bind fun t295 => (if t295 = true then (screelaw09_BlockSeeks.l0 k x0 x1 x2 x10 x40 (wrap64 (x41 + 1)) x293000 x293001 x293002 x293003) else (if x10 = true then (some (x293000.toList == (((rd_T35 x0 x41).f0).toList) && (x293001 == ((rd_T35 x0 x41).f1) && (x293002 == ((rd_T35 x0 x41).f2) && (x293003.toList == (((rd_T35 x0 x41).f3).toList)))))) else (none)))) else (none)) else (none)) else (if x10 = true then (none) else (some (x293000.toList == ([] : List UInt8) && (x293001 == 0 && (!x293002 && (x293003.toList == ([] : List UInt8)))))))
end
def screelaw09_BlockSeeks.f (k : Nat) (l0 : List (S35)) (a1 : ByteArray) (a2 : Int) : Option (Bool) := (screelaw09_awake.f k).bind fun t282 => (if t282 = true then ((screelaw09_large.f k l0).bind fun t283 => (if t283 = true then (screelaw09_BlockSeeks.j0 k l0 a1 a2 true) else (screelaw09_BlockSeeks.j0 k l0 a1 a2 (decide ((a1.size : Int) > 300))))) else (none))
theorem screelaw09_BlockSeeks.mono_l : ∀ k, (∀ y0 y1 y2 y3, LeO (screelaw09_BlockSeeks.j0 k y0 y1 y2 y3) (screelaw09_BlockSeeks.j0 (k + 1) y0 y1 y2 y3)) ∧ (∀ y0 y1 y2 y3 y4 y5 y6 y7 y8 y9, LeO (screelaw09_BlockSeeks.l0 k y0 y1 y2 y3 y4 y5 y6 y7 y8 y9) (screelaw09_BlockSeeks.l0 (k + 1) y0 y1 y2 y3 y4 y5 y6 y7 y8 y9))
  | 0 => ⟨fun _ _ _ _ r h => by simp [screelaw09_BlockSeeks.j0] at h, fun _ _ _ _ _ _ _ _ _ _ r h => by simp [screelaw09_BlockSeeks.l0] at h⟩
  | k + 1 => by
    obtain ⟨ih0, ih1⟩ := screelaw09_BlockSeeks.mono_l k
    refine ⟨?_, ?_⟩
    · intro y0 y1 y2 y3
      unfold screelaw09_BlockSeeks.j0
      repeat' first
      | (with_reducible exact ih0 _ _ _ _)
      | (with_reducible exact ih1 _ _ _ _ _ _ _ _ _ _)
      | (with_reducible exact block_Encode.mono _ _)
      | (with_reducible exact block_Seek.mono _ _ _ _)
      | (with_reducible exact screelaw09_awake.mono _)
      | (with_reducible exact screelaw09_large.mono _ _)
      | (with_reducible exact LeO.refl _)
      | (with_reducible exact LeO.none _)
      | (with_reducible refine LeO.ite ?_ ?_)
      | (with_reducible refine LeO.bind ?_ (fun _ => ?_))
      | exact ih0 _ _ _ _
      | exact ih1 _ _ _ _ _ _ _ _ _ _
      | exact block_Encode.mono _ _
      | exact block_Seek.mono _ _ _ _
      | exact screelaw09_awake.mono _
      | exact screelaw09_large.mono _ _
      | exact LeO.none _
      | refine LeO.ite ?_ ?_
      | refine LeO.bind ?_ (fun _ => ?_)
    · intro y0 y1 y2 y3 y4 y5 y6 y7 y8 y9
      unfold screelaw09_BlockSeeks.l0
      repeat' first
      | (with_reducible exact ih0 _ _ _ _)
      | (with_reducible exact ih1 _ _ _ _ _ _ _ _ _ _)
      | (with_reducible exact block_Encode.mono _ _)
      | (with_reducible exact block_Seek.mono _ _ _ _)
      | (with_reducible exact screelaw09_awake.mono _)
      | (with_reducible exact screelaw09_large.mono _ _)
      | (with_reducible exact LeO.refl _)
      | (with_reducible exact LeO.none _)
      | (with_reducible refine LeO.ite ?_ ?_)
      | (with_reducible refine LeO.bind ?_ (fun _ => ?_))
      | exact ih0 _ _ _ _
      | exact ih1 _ _ _ _ _ _ _ _ _ _
      | exact block_Encode.mono _ _
      | exact block_Seek.mono _ _ _ _
      | exact screelaw09_awake.mono _
      | exact screelaw09_large.mono _ _
      | exact LeO.none _
      | refine LeO.ite ?_ ?_
      | refine LeO.bind ?_ (fun _ => ?_)
theorem screelaw09_BlockSeeks.mono : ∀ a0 a1 a2 k, LeO (screelaw09_BlockSeeks.f k a0 a1 a2) (screelaw09_BlockSeeks.f (k + 1) a0 a1 a2) := by
  intro a0 a1 a2 k
  obtain ⟨ih0, ih1⟩ := screelaw09_BlockSeeks.mono_l k
  unfold screelaw09_BlockSeeks.f
  repeat' first
      | (with_reducible exact ih0 _ _ _ _)
      | (with_reducible exact ih1 _ _ _ _ _ _ _ _ _ _)
      | (with_reducible exact block_Encode.mono _ _)
      | (with_reducible exact block_Seek.mono _ _ _ _)
      | (with_reducible exact screelaw09_awake.mono _)
      | (with_reducible exact screelaw09_large.mono _ _)
      | (with_reducible exact LeO.refl _)
      | (with_reducible exact LeO.none _)
      | (with_reducible refine LeO.ite ?_ ?_)
      | (with_reducible refine LeO.bind ?_ (fun _ => ?_))
      | exact ih0 _ _ _ _
      | exact ih1 _ _ _ _ _ _ _ _ _ _
      | exact block_Encode.mono _ _
      | exact block_Seek.mono _ _ _ _
      | exact screelaw09_awake.mono _
      | exact screelaw09_large.mono _ _
      | exact LeO.none _
      | refine LeO.ite ?_ ?_
      | refine LeO.bind ?_ (fun _ => ?_)
set_option maxHeartbeats 8000000 in
set_option maxRecDepth 100000 in
theorem screelaw09_BlockSeeks.calls (k : Nat) (A0 : Option Addr) (c0 : Nat) (l0 : List (S35)) (a1 : ByteArray) (a2 : Int) (r : Bool) (w : World) (hr0 : Kd.C k35 w A0 l0.length l0) (hc0 : l0.length ≤ c0) (h : screelaw09_BlockSeeks.f k l0 a1 a2 = some r) :
    Calls Try.prog 6 #[.slice A0 l0.length c0, .string a1, .int .u64 a2] w fun e w' => e = .returned (.bool r) ∧ Below w.heap.size w w' := by
  have hu35 := Try.underlying35
  have HR0 := Aside0.mk hr0
  have HC0 := Aside0.mk hc0
  clear hr0 hc0
  have HB := Aside0.mk (Below.refl w.heap.size w)
  have H : ((screelaw09_awake.f k).bind fun t282 => (if t282 = true then ((screelaw09_large.f k l0).bind fun t283 => (if t283 = true then (screelaw09_BlockSeeks.j0 k l0 a1 a2 true) else (screelaw09_BlockSeeks.j0 k l0 a1 a2 (decide ((a1.size : Int) > 300))))) else (none))) = some r := h
  clear h
  replace H := Option.bind_eq_some_iff.mp H
  obtain ⟨t282, A40, H⟩ := H
  replace H : (if t282 = true then ((screelaw09_large.f k l0).bind fun t283 => (if t283 = true then (screelaw09_BlockSeeks.j0 k l0 a1 a2 true) else (screelaw09_BlockSeeks.j0 k l0 a1 a2 (decide ((a1.size : Int) > 300))))) else (none)) = some r := H
  have A4 := Aside0.mk A40
  clear A40
  by_cases c5 : t282 = true
  · subst c5
    have H1 : ((screelaw09_large.f k l0).bind fun t283 => (if t283 = true then (screelaw09_BlockSeeks.j0 k l0 a1 a2 true) else (screelaw09_BlockSeeks.j0 k l0 a1 a2 (decide ((a1.size : Int) > 300))))) = some r := by rw [if_pos rfl] at H; exact H
    clear H
    have H := H1
    clear H1
    have HC6 := Aside0.mk H
    clear H
    go_enter Try.func6, Try.ntmps6
    go_upto_region 3 with (first | (go_at_call 10; (with_reducible refine (screelaw09_awake.calls k  true _ A4.out).mono ?_); rintro e w7 ⟨rfl, hb⟩; have n0_ := Aside0.mk (below_step (by repeat (first | (with_reducible first | exact HB.out | apply below_alloc | apply pw_below_drewN | apply below_drew1) | exact HB.out)) hb); clear HB; have HB := n0_; clear n0_; (try clear hb); (try clear hb2); (try clear hk); (try clear hi); (try clear A4)))
    repeat (go_quiet (first | (go_at_call 10; (with_reducible refine (screelaw09_awake.calls k  true _ A4.out).mono ?_); rintro e w7 ⟨rfl, hb⟩; have n0_ := Aside0.mk (below_step (by repeat (first | (with_reducible first | exact HB.out | apply below_alloc | apply pw_below_drewN | apply below_drew1) | exact HB.out)) hb); clear HB; have HB := n0_; clear n0_; (try clear hb); (try clear hb2); (try clear hk); (try clear hi); (try clear A4))); go_upto_region 3 with (first | (go_at_call 10; (with_reducible refine (screelaw09_awake.calls k  true _ A4.out).mono ?_); rintro e w7 ⟨rfl, hb⟩; have n0_ := Aside0.mk (below_step (by repeat (first | (with_reducible first | exact HB.out | apply below_alloc | apply pw_below_drewN | apply below_drew1) | exact HB.out)) hb); clear HB; have HB := n0_; clear n0_; (try clear hb); (try clear hb2); (try clear hk); (try clear hi); (try clear A4))))
    (try simp only [Act.put, List.setIfInBounds_toArray, List.set_cons_zero, List.set_cons_succ])
    go_cut [21] (fun v21 wc => ∃ (kq : Nat) (x21_5 : Bool), v21 = .bool x21_5 ∧ Aside0 (screelaw09_BlockSeeks.j0 kq l0 a1 a2 x21_5 = some r) ∧ Aside0 (kq ≤ k) ∧ Aside0 (Below w.heap.size w wc))
    case first =>
      have H := HC6.out
      clear HC6
      replace H := Option.bind_eq_some_iff.mp H
      obtain ⟨t283, A80, H⟩ := H
      replace H : (if t283 = true then (screelaw09_BlockSeeks.j0 k l0 a1 a2 true) else (screelaw09_BlockSeeks.j0 k l0 a1 a2 (decide ((a1.size : Int) > 300)))) = some r := H
      have A8 := Aside0.mk A80
      clear A80
      by_cases c9 : t283 = true
      · subst c9
        have H1 : (screelaw09_BlockSeeks.j0 k l0 a1 a2 true) = some r := by rw [if_pos rfl] at H; exact H
        clear H
        have H := H1
        clear H1
        have H' := Aside0.mk H
        clear H
        go_wp2_with (first | (go_at_call 11; (with_reducible refine (screelaw09_large.calls k _ _ l0 true _ ?side1 ?side2 A8.out).mono ?_); (case side1 => repeat (first | exact (Kd.C_below HR0.out HB.out) | (with_reducible refine Kd.C_alloc ?_ _) | (with_reducible refine Kd.C_drewN ?_ _) | (with_reducible refine Kd.C_drew ?_))); (case side2 => exact HC0.out); rintro e w' ⟨rfl, ⟨nd, rfl⟩⟩; (try first | exact ⟨rfl, _, World.drewN_drewN _ _ _⟩ | exact ⟨rfl, _, Eq.trans (World.drewN_drewN _ _ _) (congrArg (World.drewN _) (Nat.add_assoc _ _ _))⟩)))
        repeat (go_quiet (first | (go_at_call 11; (with_reducible refine (screelaw09_large.calls k _ _ l0 true _ ?side1 ?side2 A8.out).mono ?_); (case side1 => repeat (first | exact (Kd.C_below HR0.out HB.out) | (with_reducible refine Kd.C_alloc ?_ _) | (with_reducible refine Kd.C_drewN ?_ _) | (with_reducible refine Kd.C_drew ?_))); (case side2 => exact HC0.out); rintro e w' ⟨rfl, ⟨nd, rfl⟩⟩; (try first | exact ⟨rfl, _, World.drewN_drewN _ _ _⟩ | exact ⟨rfl, _, Eq.trans (World.drewN_drewN _ _ _) (congrArg (World.drewN _) (Nat.add_assoc _ _ _))⟩))); try go_wp2_with (first | (go_at_call 11; (with_reducible refine (screelaw09_large.calls k _ _ l0 true _ ?side1 ?side2 A8.out).mono ?_); (case side1 => repeat (first | exact (Kd.C_below HR0.out HB.out) | (with_reducible refine Kd.C_alloc ?_ _) | (with_reducible refine Kd.C_drewN ?_ _) | (with_reducible refine Kd.C_drew ?_))); (case side2 => exact HC0.out); rintro e w' ⟨rfl, ⟨nd, rfl⟩⟩; (try first | exact ⟨rfl, _, World.drewN_drewN _ _ _⟩ | exact ⟨rfl, _, Eq.trans (World.drewN_drewN _ _ _) (congrArg (World.drewN _) (Nat.add_assoc _ _ _))⟩))))
        go_meet
        case rel => exact ⟨_, (true), (by first | rfl | (simp; done) | (simp [*]; done)), (by first | (with_reducible exact H') | exact H' | (subst_vars; exact H')), ⟨by first | omega | exact Nat.le_refl _⟩, ⟨by repeat (first | (with_reducible first | exact HB.out | apply below_alloc | apply pw_below_drewN | apply below_drew1) | exact HB.out)⟩⟩
      · replace c9 := Bool.eq_false_iff.mpr c9
        subst c9
        have H1 : (screelaw09_BlockSeeks.j0 k l0 a1 a2 (decide ((a1.size : Int) > 300))) = some r := by rw [if_neg (show ¬ (false = true) by decide)] at H; exact H
        clear H
        have H := H1
        clear H1
        have H' := Aside0.mk H
        clear H
        go_wp2_with (first | (go_at_call 11; (with_reducible refine (screelaw09_large.calls k _ _ l0 false _ ?side1 ?side2 A8.out).mono ?_); (case side1 => repeat (first | exact (Kd.C_below HR0.out HB.out) | (with_reducible refine Kd.C_alloc ?_ _) | (with_reducible refine Kd.C_drewN ?_ _) | (with_reducible refine Kd.C_drew ?_))); (case side2 => exact HC0.out); rintro e w' ⟨rfl, ⟨nd, rfl⟩⟩; (try first | exact ⟨rfl, _, World.drewN_drewN _ _ _⟩ | exact ⟨rfl, _, Eq.trans (World.drewN_drewN _ _ _) (congrArg (World.drewN _) (Nat.add_assoc _ _ _))⟩)))
        repeat (go_quiet (first | (go_at_call 11; (with_reducible refine (screelaw09_large.calls k _ _ l0 false _ ?side1 ?side2 A8.out).mono ?_); (case side1 => repeat (first | exact (Kd.C_below HR0.out HB.out) | (with_reducible refine Kd.C_alloc ?_ _) | (with_reducible refine Kd.C_drewN ?_ _) | (with_reducible refine Kd.C_drew ?_))); (case side2 => exact HC0.out); rintro e w' ⟨rfl, ⟨nd, rfl⟩⟩; (try first | exact ⟨rfl, _, World.drewN_drewN _ _ _⟩ | exact ⟨rfl, _, Eq.trans (World.drewN_drewN _ _ _) (congrArg (World.drewN _) (Nat.add_assoc _ _ _))⟩))); try go_wp2_with (first | (go_at_call 11; (with_reducible refine (screelaw09_large.calls k _ _ l0 false _ ?side1 ?side2 A8.out).mono ?_); (case side1 => repeat (first | exact (Kd.C_below HR0.out HB.out) | (with_reducible refine Kd.C_alloc ?_ _) | (with_reducible refine Kd.C_drewN ?_ _) | (with_reducible refine Kd.C_drew ?_))); (case side2 => exact HC0.out); rintro e w' ⟨rfl, ⟨nd, rfl⟩⟩; (try first | exact ⟨rfl, _, World.drewN_drewN _ _ _⟩ | exact ⟨rfl, _, Eq.trans (World.drewN_drewN _ _ _) (congrArg (World.drewN _) (Nat.add_assoc _ _ _))⟩))))
        go_meet
        case rel => exact ⟨_, (decide ((a1.size : Int) > 300)), (by first | rfl | (simp; done) | (simp [*]; done)), (by first | (with_reducible exact H') | exact H' | (subst_vars; exact H')), ⟨by first | omega | exact Nat.le_refl _⟩, ⟨by repeat (first | (with_reducible first | exact HB.out | apply below_alloc | apply pw_below_drewN | apply below_drew1) | exact HB.out)⟩⟩
    case rest =>
      clear HC6
      try clear p2
      try clear c5
      try clear c6
      try clear c9
      obtain ⟨kq, x21_5, rfl, HA, HJ5, HB⟩ := hcut
      cases kq with
      | zero => exact absurd HA.out (by simp [screelaw09_BlockSeeks.j0])
      | succ kj5 =>
        have H := HA.out
        clear HA
        simp only [screelaw09_BlockSeeks.j0] at H
        by_cases c10 : x21_5 = true
        · subst c10
          have H1 : (some true) = some r := by rw [if_pos rfl] at H; exact H
          clear H
          have H := H1
          clear H1
          obtain rfl := Option.some.inj H
          go_wp2
          repeat (go_quiet (fail); try go_wp2)
          go_ret
          exact ⟨by first | rfl | (simp [errW_none, errW_some] <;> rfl) | (simp (disch := omega) only [← i64_w, IntWalk.i64_in]; rfl) | (simp [*, errW_none, errW_some] <;> rfl), by repeat (first | (with_reducible first | exact HB.out | apply below_alloc | apply pw_below_drewN | apply below_drew1) | exact HB.out)⟩
        · replace c10 := Bool.eq_false_iff.mpr c10
          subst c10
          have H1 : ((block_Encode.f kj5 l0).bind fun bt284 => (if bt284.2 = 0 then ((block_Seek.f kj5 bt284.1 a1 a2).bind fun bt286 => (if bt286.2.2.2.2.2 = 0 then (screelaw09_BlockSeeks.l0 kj5 l0 a1 a2 bt286.2.2.2.2.1 (l0.length : Int) 0 bt286.1 bt286.2.1 bt286.2.2.1 bt286.2.2.2.1) else (none))) else (some true))) = some r := by rw [if_neg (show ¬ (false = true) by decide)] at H; exact H
          clear H
          have H := H1
          clear H1
          replace H := Option.bind_eq_some_iff.mp H
          obtain ⟨⟨t284, t285⟩, A110, H⟩ := H
          replace H : (if t285 = 0 then ((block_Seek.f kj5 t284 a1 a2).bind fun bt286 => (if bt286.2.2.2.2.2 = 0 then (screelaw09_BlockSeeks.l0 kj5 l0 a1 a2 bt286.2.2.2.2.1 (l0.length : Int) 0 bt286.1 bt286.2.1 bt286.2.2.1 bt286.2.2.2.1) else (none))) else (some true)) = some r := H
          have A11 := Aside0.mk A110
          clear A110
          by_cases c12 : t285 = 0
          · rw [if_pos c12] at H
            have c12b0 : (t285 == 0) = true := beq_iff_eq.mpr c12
            have c12b1 : (t285 != 0) = false := bne_eq_false_iff_eq.mpr c12
            clear c12
            replace H := Option.bind_eq_some_iff.mp H
            obtain ⟨⟨t286, t287, t288, t289, t290, t291⟩, A130, H⟩ := H
            replace H : (if t291 = 0 then (screelaw09_BlockSeeks.l0 kj5 l0 a1 a2 t290 (l0.length : Int) 0 t286 t287 t288 t289) else (none)) = some r := H
            have A13 := Aside0.mk A130
            clear A130
            by_cases c14 : t291 = 0
            · rw [if_pos c14] at H
              have c14b0 : (t291 == 0) = true := beq_iff_eq.mpr c14
              have c14b1 : (t291 != 0) = false := bne_eq_false_iff_eq.mpr c14
              clear c14
              have H' := Aside0.mk H
              clear H
              go_wp2_with (first | (go_at_call 12; (with_reducible refine (block_Encode.calls kj5 _ _ l0 t284 t285 _ ?side1 ?side2 A11.out).mono ?_); (case side1 => repeat (first | exact (Kd.C_below HR0.out HB.out) | (with_reducible refine Kd.C_alloc ?_ _) | (with_reducible refine Kd.C_drewN ?_ _) | (with_reducible refine Kd.C_drew ?_))); (case side2 => exact HC0.out); rintro e w15 ⟨rfl, hb⟩; have n0_ := Aside0.mk (below_step (by repeat (first | (with_reducible first | exact HB.out | apply below_alloc | apply pw_below_drewN | apply below_drew1) | exact HB.out)) hb); clear HB; have HB := n0_; clear n0_; (try clear hb); (try clear hb2); (try clear hk); (try clear hi); (try clear A11)) | (go_at_call 19; (with_reducible refine (block_Seek.calls kj5 t284 a1 a2 t286 t287 t288 t289 t290 t291 _ A13.out).mono ?_); rintro e w16 ⟨rfl, hb⟩; have n0_ := Aside0.mk (below_step (by repeat (first | (with_reducible first | exact HB.out | apply below_alloc | apply pw_below_drewN | apply below_drew1) | exact HB.out)) hb); clear HB; have HB := n0_; clear n0_; (try clear hb); (try clear hb2); (try clear hk); (try clear hi); (try clear A13)) | ((with_reducible refine gate_dst (N := 9) rfl ?_); (try (refine gate_guard (by rfl) ?_; dsimp only)); refine box_event ?hg (N := 9) ?hd (cs := #[.string (⟨#[]⟩ : ByteArray), .int .u64 0, .bool false, .string (⟨#[]⟩ : ByteArray)]) (t := 35) ?hr ?_; (case hd => rfl); (case hg => rfl); (case hr => first | (go_simp; done) | (go_simp; rfl)); intro gb292 hg w17 hbox hb; have n0_ := Aside0.mk (below_step (by repeat (first | (with_reducible first | exact HB.out | apply below_alloc | apply pw_below_drewN | apply below_drew1) | exact HB.out)) hb); have n1_ := Aside0.mk (hbox); have n2_ := Aside0.mk ((by rw [hg]; exact (below_size (by repeat (first | (with_reducible first | exact HB.out | apply below_alloc | apply pw_below_drewN | apply below_drew1) | exact HB.out))) : w.heap.size ≤ gb292)); have n3_ := Aside0.mk ((by rw [hg]; exact (below_size (by repeat (first | (with_reducible first | exact HB.out | apply below_alloc | apply pw_below_drewN | apply below_drew1) | exact HB.out))) : w.heap.size ≤ gb292)); clear HB; have HB := n0_; have BK292 := n1_; have GW292 := n2_; have GE292 := n3_; clear n0_ n1_ n2_ n3_; clear hb hbox hg; have hcz18_0 : w17.cell? ⟨gb292, 0, none⟩ = some (.string (⟨#[]⟩ : ByteArray)) := (blk_cell BK292.out 0).trans rfl; have hcz18_1 : w17.cell? ⟨gb292, 1, none⟩ = some (.int .u64 0) := (blk_cell BK292.out 1).trans rfl; have hcz18_2 : w17.cell? ⟨gb292, 2, none⟩ = some (.bool false) := (blk_cell BK292.out 2).trans rfl; have hcz18_3 : w17.cell? ⟨gb292, 3, none⟩ = some (.string (⟨#[]⟩ : ByteArray)) := (blk_cell BK292.out 3).trans rfl; have hfz18_0 := blk_frozen BK292.out 0; have hfz18_1 := blk_frozen BK292.out 1; have hfz18_2 := blk_frozen BK292.out 2; have hfz18_3 := blk_frozen BK292.out 3))
              repeat (go_quiet (first | (go_at_call 12; (with_reducible refine (block_Encode.calls kj5 _ _ l0 t284 t285 _ ?side1 ?side2 A11.out).mono ?_); (case side1 => repeat (first | exact (Kd.C_below HR0.out HB.out) | (with_reducible refine Kd.C_alloc ?_ _) | (with_reducible refine Kd.C_drewN ?_ _) | (with_reducible refine Kd.C_drew ?_))); (case side2 => exact HC0.out); rintro e w15 ⟨rfl, hb⟩; have n0_ := Aside0.mk (below_step (by repeat (first | (with_reducible first | exact HB.out | apply below_alloc | apply pw_below_drewN | apply below_drew1) | exact HB.out)) hb); clear HB; have HB := n0_; clear n0_; (try clear hb); (try clear hb2); (try clear hk); (try clear hi); (try clear A11)) | (go_at_call 19; (with_reducible refine (block_Seek.calls kj5 t284 a1 a2 t286 t287 t288 t289 t290 t291 _ A13.out).mono ?_); rintro e w16 ⟨rfl, hb⟩; have n0_ := Aside0.mk (below_step (by repeat (first | (with_reducible first | exact HB.out | apply below_alloc | apply pw_below_drewN | apply below_drew1) | exact HB.out)) hb); clear HB; have HB := n0_; clear n0_; (try clear hb); (try clear hb2); (try clear hk); (try clear hi); (try clear A13)) | ((with_reducible refine gate_dst (N := 9) rfl ?_); (try (refine gate_guard (by rfl) ?_; dsimp only)); refine box_event ?hg (N := 9) ?hd (cs := #[.string (⟨#[]⟩ : ByteArray), .int .u64 0, .bool false, .string (⟨#[]⟩ : ByteArray)]) (t := 35) ?hr ?_; (case hd => rfl); (case hg => rfl); (case hr => first | (go_simp; done) | (go_simp; rfl)); intro gb292 hg w17 hbox hb; have n0_ := Aside0.mk (below_step (by repeat (first | (with_reducible first | exact HB.out | apply below_alloc | apply pw_below_drewN | apply below_drew1) | exact HB.out)) hb); have n1_ := Aside0.mk (hbox); have n2_ := Aside0.mk ((by rw [hg]; exact (below_size (by repeat (first | (with_reducible first | exact HB.out | apply below_alloc | apply pw_below_drewN | apply below_drew1) | exact HB.out))) : w.heap.size ≤ gb292)); have n3_ := Aside0.mk ((by rw [hg]; exact (below_size (by repeat (first | (with_reducible first | exact HB.out | apply below_alloc | apply pw_below_drewN | apply below_drew1) | exact HB.out))) : w.heap.size ≤ gb292)); clear HB; have HB := n0_; have BK292 := n1_; have GW292 := n2_; have GE292 := n3_; clear n0_ n1_ n2_ n3_; clear hb hbox hg; have hcz18_0 : w17.cell? ⟨gb292, 0, none⟩ = some (.string (⟨#[]⟩ : ByteArray)) := (blk_cell BK292.out 0).trans rfl; have hcz18_1 : w17.cell? ⟨gb292, 1, none⟩ = some (.int .u64 0) := (blk_cell BK292.out 1).trans rfl; have hcz18_2 : w17.cell? ⟨gb292, 2, none⟩ = some (.bool false) := (blk_cell BK292.out 2).trans rfl; have hcz18_3 : w17.cell? ⟨gb292, 3, none⟩ = some (.string (⟨#[]⟩ : ByteArray)) := (blk_cell BK292.out 3).trans rfl; have hfz18_0 := blk_frozen BK292.out 0; have hfz18_1 := blk_frozen BK292.out 1; have hfz18_2 := blk_frozen BK292.out 2; have hfz18_3 := blk_frozen BK292.out 3)); try go_wp2_with (first | (go_at_call 12; (with_reducible refine (block_Encode.calls kj5 _ _ l0 t284 t285 _ ?side1 ?side2 A11.out).mono ?_); (case side1 => repeat (first | exact (Kd.C_below HR0.out HB.out) | (with_reducible refine Kd.C_alloc ?_ _) | (with_reducible refine Kd.C_drewN ?_ _) | (with_reducible refine Kd.C_drew ?_))); (case side2 => exact HC0.out); rintro e w15 ⟨rfl, hb⟩; have n0_ := Aside0.mk (below_step (by repeat (first | (with_reducible first | exact HB.out | apply below_alloc | apply pw_below_drewN | apply below_drew1) | exact HB.out)) hb); clear HB; have HB := n0_; clear n0_; (try clear hb); (try clear hb2); (try clear hk); (try clear hi); (try clear A11)) | (go_at_call 19; (with_reducible refine (block_Seek.calls kj5 t284 a1 a2 t286 t287 t288 t289 t290 t291 _ A13.out).mono ?_); rintro e w16 ⟨rfl, hb⟩; have n0_ := Aside0.mk (below_step (by repeat (first | (with_reducible first | exact HB.out | apply below_alloc | apply pw_below_drewN | apply below_drew1) | exact HB.out)) hb); clear HB; have HB := n0_; clear n0_; (try clear hb); (try clear hb2); (try clear hk); (try clear hi); (try clear A13)) | ((with_reducible refine gate_dst (N := 9) rfl ?_); (try (refine gate_guard (by rfl) ?_; dsimp only)); refine box_event ?hg (N := 9) ?hd (cs := #[.string (⟨#[]⟩ : ByteArray), .int .u64 0, .bool false, .string (⟨#[]⟩ : ByteArray)]) (t := 35) ?hr ?_; (case hd => rfl); (case hg => rfl); (case hr => first | (go_simp; done) | (go_simp; rfl)); intro gb292 hg w17 hbox hb; have n0_ := Aside0.mk (below_step (by repeat (first | (with_reducible first | exact HB.out | apply below_alloc | apply pw_below_drewN | apply below_drew1) | exact HB.out)) hb); have n1_ := Aside0.mk (hbox); have n2_ := Aside0.mk ((by rw [hg]; exact (below_size (by repeat (first | (with_reducible first | exact HB.out | apply below_alloc | apply pw_below_drewN | apply below_drew1) | exact HB.out))) : w.heap.size ≤ gb292)); have n3_ := Aside0.mk ((by rw [hg]; exact (below_size (by repeat (first | (with_reducible first | exact HB.out | apply below_alloc | apply pw_below_drewN | apply below_drew1) | exact HB.out))) : w.heap.size ≤ gb292)); clear HB; have HB := n0_; have BK292 := n1_; have GW292 := n2_; have GE292 := n3_; clear n0_ n1_ n2_ n3_; clear hb hbox hg; have hcz18_0 : w17.cell? ⟨gb292, 0, none⟩ = some (.string (⟨#[]⟩ : ByteArray)) := (blk_cell BK292.out 0).trans rfl; have hcz18_1 : w17.cell? ⟨gb292, 1, none⟩ = some (.int .u64 0) := (blk_cell BK292.out 1).trans rfl; have hcz18_2 : w17.cell? ⟨gb292, 2, none⟩ = some (.bool false) := (blk_cell BK292.out 2).trans rfl; have hcz18_3 : w17.cell? ⟨gb292, 3, none⟩ = some (.string (⟨#[]⟩ : ByteArray)) := (blk_cell BK292.out 3).trans rfl; have hfz18_0 := blk_frozen BK292.out 0; have hfz18_1 := blk_frozen BK292.out 1; have hfz18_2 := blk_frozen BK292.out 2; have hfz18_3 := blk_frozen BK292.out 3)))
              go_loopg [41] kj5 (fun kq v41 w' => ∃ (x41_2 : Int), v41 = .int .i64 x41_2 ∧ Aside0 (screelaw09_BlockSeeks.l0 kq l0 a1 a2 t290 (l0.length : Int) x41_2 t286 t287 t288 t289 = some r) ∧ Aside0 (kq ≤ kj5) ∧ Aside0 (w'.heap[gb292]? = some (.cells #[.string t286, .int .u64 t287, .bool t288, .string t289] 35 (0, 0))) ∧ Aside0 (Below w.heap.size w w'))
              case atStart => exact ⟨(0), (by first | rfl | (simp; done) | (simp [*]; done)), H', ⟨Nat.le_refl _⟩, ⟨by (with_reducible repeat (first | refine blk_drewN ?_ _ | refine blk_drew ?_ | refine blk_alloc ?_ _)); refine blk_put (cs := #[.string t286, .int .u64 t287, .bool t288, .string (⟨#[]⟩ : ByteArray)]) ?_ 3 _ rfl; (with_reducible repeat (first | refine blk_drewN ?_ _ | refine blk_drew ?_ | refine blk_alloc ?_ _)); refine blk_put (cs := #[.string t286, .int .u64 t287, .bool false, .string (⟨#[]⟩ : ByteArray)]) ?_ 2 _ rfl; (with_reducible repeat (first | refine blk_drewN ?_ _ | refine blk_drew ?_ | refine blk_alloc ?_ _)); refine blk_put (cs := #[.string t286, .int .u64 0, .bool false, .string (⟨#[]⟩ : ByteArray)]) ?_ 1 _ rfl; (with_reducible repeat (first | refine blk_drewN ?_ _ | refine blk_drew ?_ | refine blk_alloc ?_ _)); refine blk_put (cs := #[.string (⟨#[]⟩ : ByteArray), .int .u64 0, .bool false, .string (⟨#[]⟩ : ByteArray)]) ?_ 0 _ rfl; (with_reducible repeat (first | refine blk_drewN ?_ _ | refine blk_drew ?_ | refine blk_alloc ?_ _)); exact BK292.out⟩, ⟨by repeat (first | (with_reducible first | exact HB.out | apply below_alloc | apply pw_below_drewN | apply below_drew1 | refine below_set ?_ GE292.out) | exact HB.out)⟩⟩
              case round =>
                clear H'
                try clear c1
                try clear p2
                try clear c5
                try clear c6
                try clear c9
                try clear c10
                try clear c12
                try clear c12b0
                try clear c12b1
                try clear c14
                try clear c14b0
                try clear c14b1
                try clear hcz18_0
                try clear hcz18_1
                try clear hcz18_2
                try clear hcz18_3
                try clear hfz18_0
                try clear hfz18_1
                try clear hfz18_2
                try clear hfz18_3
                try clear p2
                obtain ⟨x41_2, rfl, HA, HK2, BK292, HB⟩ := hrel
                cases gk with
                | zero => exact absurd HA.out (by simp [screelaw09_BlockSeeks.l0])
                | succ k2 =>
                  have H := HA.out
                  clear HA
                  simp only [screelaw09_BlockSeeks.l0] at H
                  by_cases c19 : x41_2 < (l0.length : Int)
                  · rw [if_pos c19] at H
                    have c19b0 : decide (x41_2 < (l0.length : Int)) = true := decide_eq_true c19
                    clear c19
                    by_cases c20 : 0 ≤ x41_2
                    · rw [if_pos c20] at H
                      have c20b0 : decide (0 ≤ x41_2) = true := decide_eq_true c20
                      clear c20
                      by_cases c21 : x41_2 < (l0.length : Int)
                      · rw [if_pos c21] at H
                        have c21b0 : decide (x41_2 < (l0.length : Int)) = true := decide_eq_true c21
                        clear c21
                        replace H := Option.bind_eq_some_iff.mp H
                        obtain ⟨t295, A220, H⟩ := H
                        replace H : (if t295 = true then (screelaw09_BlockSeeks.l0 k2 l0 a1 a2 t290 (l0.length : Int) (wrap64 (x41_2 + 1)) t286 t287 t288 t289) else (if t290 = true then (some (t286.toList == (((rd_T35 l0 x41_2).f0).toList) && (t287 == ((rd_T35 l0 x41_2).f1) && (t288 == ((rd_T35 l0 x41_2).f2) && (t289.toList == (((rd_T35 l0 x41_2).f3).toList)))))) else (none))) = some r := H
                        have A22 := Aside0.mk A220
                        clear A220
                        by_cases c23 : t295 = true
                        · subst c23
                          have H1 : (screelaw09_BlockSeeks.l0 k2 l0 a1 a2 t290 (l0.length : Int) (wrap64 (x41_2 + 1)) t286 t287 t288 t289) = some r := by rw [if_pos rfl] at H; exact H
                          clear H
                          have H := H1
                          clear H1
                          have H' := Aside0.mk H
                          clear H
                          have p293 : 0 ≤ (x41_2 : Int) := of_decide_eq_true (by first | (with_reducible assumption) | assumption)
                          have q293 : x41_2 < (l0.length : Int) := of_decide_eq_true (by first | (with_reducible assumption) | assumption)
                          obtain ⟨ad293, e293, hx293_0, hx293_1, hx293_2, hx293_3⟩ := at_T35 HR0.out x41_2 p293 q293
                          cases e293
                          replace hx293_0 := (HB.out.cell (World.block_lt_of_cell? w _ hx293_0)).trans hx293_0
                          replace hx293_1 := (HB.out.cell (World.block_lt_of_cell? w _ hx293_1)).trans hx293_1
                          replace hx293_2 := (HB.out.cell (World.block_lt_of_cell? w _ hx293_2)).trans hx293_2
                          replace hx293_3 := (HB.out.cell (World.block_lt_of_cell? w _ hx293_3)).trans hx293_3
                          replace p293 := eq_true p293
                          replace q293 := eq_true q293
                          have p294 : 0 ≤ (x41_2 : Int) := of_decide_eq_true (by first | (with_reducible assumption) | assumption)
                          have q294 : x41_2 < (l0.length : Int) := of_decide_eq_true (by first | (with_reducible assumption) | assumption)
                          obtain ⟨ad294, e294, hx294_0, hx294_1, hx294_2, hx294_3⟩ := at_T35 HR0.out x41_2 p294 q294
                          obtain rfl : ad293 = ad294 := (by injection e294)
                          replace hx294_0 := (HB.out.cell (World.block_lt_of_cell? w _ hx294_0)).trans hx294_0
                          replace hx294_1 := (HB.out.cell (World.block_lt_of_cell? w _ hx294_1)).trans hx294_1
                          replace hx294_2 := (HB.out.cell (World.block_lt_of_cell? w _ hx294_2)).trans hx294_2
                          replace hx294_3 := (HB.out.cell (World.block_lt_of_cell? w _ hx294_3)).trans hx294_3
                          replace p294 := eq_true p294
                          replace q294 := eq_true q294
                          go_wp2_with (first | (go_at_call 23; (with_reducible refine (screeref07_Ahead.calls ((rd_T35 l0 x41_2).f0) ((rd_T35 l0 x41_2).f1) a1 a2 true _ A22.out).mono ?_); rintro e w' ⟨rfl, ⟨nd, rfl⟩⟩; (try first | exact ⟨rfl, _, World.drewN_drewN _ _ _⟩ | exact ⟨rfl, _, Eq.trans (World.drewN_drewN _ _ _) (congrArg (World.drewN _) (Nat.add_assoc _ _ _))⟩)))
                          repeat (go_quiet (first | (go_at_call 23; (with_reducible refine (screeref07_Ahead.calls ((rd_T35 l0 x41_2).f0) ((rd_T35 l0 x41_2).f1) a1 a2 true _ A22.out).mono ?_); rintro e w' ⟨rfl, ⟨nd, rfl⟩⟩; (try first | exact ⟨rfl, _, World.drewN_drewN _ _ _⟩ | exact ⟨rfl, _, Eq.trans (World.drewN_drewN _ _ _) (congrArg (World.drewN _) (Nat.add_assoc _ _ _))⟩))); try go_wp2_with (first | (go_at_call 23; (with_reducible refine (screeref07_Ahead.calls ((rd_T35 l0 x41_2).f0) ((rd_T35 l0 x41_2).f1) a1 a2 true _ A22.out).mono ?_); rintro e w' ⟨rfl, ⟨nd, rfl⟩⟩; (try first | exact ⟨rfl, _, World.drewN_drewN _ _ _⟩ | exact ⟨rfl, _, Eq.trans (World.drewN_drewN _ _ _) (congrArg (World.drewN _) (Nat.add_assoc _ _ _))⟩))))
                          go_roundg k2
                          case measure => have := HJ5.out; have := HK2.out; omega
                          case rel => exact ⟨(wrap64 (x41_2 + 1)), (by first | rfl | (simp; done) | (simp [*]; done)), (by first | (with_reducible exact H') | exact H' | (subst_vars; exact H')), ⟨by have := HJ5.out; have := HK2.out; omega⟩, ⟨by (with_reducible repeat (first | refine blk_drewN ?_ _ | refine blk_drew ?_ | refine blk_alloc ?_ _)); exact BK292.out⟩, ⟨by repeat (first | (with_reducible first | exact HB.out | apply below_alloc | apply pw_below_drewN | apply below_drew1 | refine below_set ?_ GE292.out) | exact HB.out)⟩⟩
                        · replace c23 := Bool.eq_false_iff.mpr c23
                          subst c23
                          have H1 : (if t290 = true then (some (t286.toList == (((rd_T35 l0 x41_2).f0).toList) && (t287 == ((rd_T35 l0 x41_2).f1) && (t288 == ((rd_T35 l0 x41_2).f2) && (t289.toList == (((rd_T35 l0 x41_2).f3).toList)))))) else (none)) = some r := by rw [if_neg (show ¬ (false = true) by decide)] at H; exact H
                          clear H
                          have H := H1
                          clear H1
                          by_cases c24 : t290 = true
                          · subst c24
                            have H1 : (some (t286.toList == (((rd_T35 l0 x41_2).f0).toList) && (t287 == ((rd_T35 l0 x41_2).f1) && (t288 == ((rd_T35 l0 x41_2).f2) && (t289.toList == (((rd_T35 l0 x41_2).f3).toList)))))) = some r := by rw [if_pos rfl] at H; exact H
                            clear H
                            have H := H1
                            clear H1
                            obtain rfl := Option.some.inj H
                            have p293 : 0 ≤ (x41_2 : Int) := of_decide_eq_true (by first | (with_reducible assumption) | assumption)
                            have q293 : x41_2 < (l0.length : Int) := of_decide_eq_true (by first | (with_reducible assumption) | assumption)
                            obtain ⟨ad293, e293, hx293_0, hx293_1, hx293_2, hx293_3⟩ := at_T35 HR0.out x41_2 p293 q293
                            cases e293
                            replace hx293_0 := (HB.out.cell (World.block_lt_of_cell? w _ hx293_0)).trans hx293_0
                            replace hx293_1 := (HB.out.cell (World.block_lt_of_cell? w _ hx293_1)).trans hx293_1
                            replace hx293_2 := (HB.out.cell (World.block_lt_of_cell? w _ hx293_2)).trans hx293_2
                            replace hx293_3 := (HB.out.cell (World.block_lt_of_cell? w _ hx293_3)).trans hx293_3
                            replace p293 := eq_true p293
                            replace q293 := eq_true q293
                            have p294 : 0 ≤ (x41_2 : Int) := of_decide_eq_true (by first | (with_reducible assumption) | assumption)
                            have q294 : x41_2 < (l0.length : Int) := of_decide_eq_true (by first | (with_reducible assumption) | assumption)
                            obtain ⟨ad294, e294, hx294_0, hx294_1, hx294_2, hx294_3⟩ := at_T35 HR0.out x41_2 p294 q294
                            obtain rfl : ad293 = ad294 := (by injection e294)
                            replace hx294_0 := (HB.out.cell (World.block_lt_of_cell? w _ hx294_0)).trans hx294_0
                            replace hx294_1 := (HB.out.cell (World.block_lt_of_cell? w _ hx294_1)).trans hx294_1
                            replace hx294_2 := (HB.out.cell (World.block_lt_of_cell? w _ hx294_2)).trans hx294_2
                            replace hx294_3 := (HB.out.cell (World.block_lt_of_cell? w _ hx294_3)).trans hx294_3
                            replace p294 := eq_true p294
                            replace q294 := eq_true q294
                            go_wp2_with (first | (go_at_call 23; (with_reducible refine (screeref07_Ahead.calls ((rd_T35 l0 x41_2).f0) ((rd_T35 l0 x41_2).f1) a1 a2 false _ A22.out).mono ?_); rintro e w' ⟨rfl, ⟨nd, rfl⟩⟩; (try first | exact ⟨rfl, _, World.drewN_drewN _ _ _⟩ | exact ⟨rfl, _, Eq.trans (World.drewN_drewN _ _ _) (congrArg (World.drewN _) (Nat.add_assoc _ _ _))⟩); have hcz25_0 : wr.cell? ⟨gb292, 0, none⟩ = some (.string t286) := (blk_cell BK292.out 0).trans rfl; have hcz25_1 : wr.cell? ⟨gb292, 1, none⟩ = some (.int .u64 t287) := (blk_cell BK292.out 1).trans rfl; have hcz25_2 : wr.cell? ⟨gb292, 2, none⟩ = some (.bool t288) := (blk_cell BK292.out 2).trans rfl; have hcz25_3 : wr.cell? ⟨gb292, 3, none⟩ = some (.string t289) := (blk_cell BK292.out 3).trans rfl; have hfz25_0 := blk_frozen BK292.out 0; have hfz25_1 := blk_frozen BK292.out 1; have hfz25_2 := blk_frozen BK292.out 2; have hfz25_3 := blk_frozen BK292.out 3; have p296 : 0 ≤ (x41_2 : Int) := of_decide_eq_true (by first | (with_reducible assumption) | assumption); have q296 : x41_2 < (l0.length : Int) := of_decide_eq_true (by first | (with_reducible assumption) | assumption); obtain ⟨ad296, e296, hx296_0, hx296_1, hx296_2, hx296_3⟩ := at_T35 HR0.out x41_2 p296 q296; obtain rfl : ad293 = ad296 := (by injection e296); replace hx296_0 := (HB.out.cell (World.block_lt_of_cell? w _ hx296_0)).trans hx296_0; replace hx296_1 := (HB.out.cell (World.block_lt_of_cell? w _ hx296_1)).trans hx296_1; replace hx296_2 := (HB.out.cell (World.block_lt_of_cell? w _ hx296_2)).trans hx296_2; replace hx296_3 := (HB.out.cell (World.block_lt_of_cell? w _ hx296_3)).trans hx296_3; replace p296 := eq_true p296; replace q296 := eq_true q296))
                            repeat (go_quiet (first | (go_at_call 23; (with_reducible refine (screeref07_Ahead.calls ((rd_T35 l0 x41_2).f0) ((rd_T35 l0 x41_2).f1) a1 a2 false _ A22.out).mono ?_); rintro e w' ⟨rfl, ⟨nd, rfl⟩⟩; (try first | exact ⟨rfl, _, World.drewN_drewN _ _ _⟩ | exact ⟨rfl, _, Eq.trans (World.drewN_drewN _ _ _) (congrArg (World.drewN _) (Nat.add_assoc _ _ _))⟩); have hcz25_0 : wr.cell? ⟨gb292, 0, none⟩ = some (.string t286) := (blk_cell BK292.out 0).trans rfl; have hcz25_1 : wr.cell? ⟨gb292, 1, none⟩ = some (.int .u64 t287) := (blk_cell BK292.out 1).trans rfl; have hcz25_2 : wr.cell? ⟨gb292, 2, none⟩ = some (.bool t288) := (blk_cell BK292.out 2).trans rfl; have hcz25_3 : wr.cell? ⟨gb292, 3, none⟩ = some (.string t289) := (blk_cell BK292.out 3).trans rfl; have hfz25_0 := blk_frozen BK292.out 0; have hfz25_1 := blk_frozen BK292.out 1; have hfz25_2 := blk_frozen BK292.out 2; have hfz25_3 := blk_frozen BK292.out 3; have p296 : 0 ≤ (x41_2 : Int) := of_decide_eq_true (by first | (with_reducible assumption) | assumption); have q296 : x41_2 < (l0.length : Int) := of_decide_eq_true (by first | (with_reducible assumption) | assumption); obtain ⟨ad296, e296, hx296_0, hx296_1, hx296_2, hx296_3⟩ := at_T35 HR0.out x41_2 p296 q296; obtain rfl : ad293 = ad296 := (by injection e296); replace hx296_0 := (HB.out.cell (World.block_lt_of_cell? w _ hx296_0)).trans hx296_0; replace hx296_1 := (HB.out.cell (World.block_lt_of_cell? w _ hx296_1)).trans hx296_1; replace hx296_2 := (HB.out.cell (World.block_lt_of_cell? w _ hx296_2)).trans hx296_2; replace hx296_3 := (HB.out.cell (World.block_lt_of_cell? w _ hx296_3)).trans hx296_3; replace p296 := eq_true p296; replace q296 := eq_true q296)); try go_wp2_with (first | (go_at_call 23; (with_reducible refine (screeref07_Ahead.calls ((rd_T35 l0 x41_2).f0) ((rd_T35 l0 x41_2).f1) a1 a2 false _ A22.out).mono ?_); rintro e w' ⟨rfl, ⟨nd, rfl⟩⟩; (try first | exact ⟨rfl, _, World.drewN_drewN _ _ _⟩ | exact ⟨rfl, _, Eq.trans (World.drewN_drewN _ _ _) (congrArg (World.drewN _) (Nat.add_assoc _ _ _))⟩); have hcz25_0 : wr.cell? ⟨gb292, 0, none⟩ = some (.string t286) := (blk_cell BK292.out 0).trans rfl; have hcz25_1 : wr.cell? ⟨gb292, 1, none⟩ = some (.int .u64 t287) := (blk_cell BK292.out 1).trans rfl; have hcz25_2 : wr.cell? ⟨gb292, 2, none⟩ = some (.bool t288) := (blk_cell BK292.out 2).trans rfl; have hcz25_3 : wr.cell? ⟨gb292, 3, none⟩ = some (.string t289) := (blk_cell BK292.out 3).trans rfl; have hfz25_0 := blk_frozen BK292.out 0; have hfz25_1 := blk_frozen BK292.out 1; have hfz25_2 := blk_frozen BK292.out 2; have hfz25_3 := blk_frozen BK292.out 3; have p296 : 0 ≤ (x41_2 : Int) := of_decide_eq_true (by first | (with_reducible assumption) | assumption); have q296 : x41_2 < (l0.length : Int) := of_decide_eq_true (by first | (with_reducible assumption) | assumption); obtain ⟨ad296, e296, hx296_0, hx296_1, hx296_2, hx296_3⟩ := at_T35 HR0.out x41_2 p296 q296; obtain rfl : ad293 = ad296 := (by injection e296); replace hx296_0 := (HB.out.cell (World.block_lt_of_cell? w _ hx296_0)).trans hx296_0; replace hx296_1 := (HB.out.cell (World.block_lt_of_cell? w _ hx296_1)).trans hx296_1; replace hx296_2 := (HB.out.cell (World.block_lt_of_cell? w _ hx296_2)).trans hx296_2; replace hx296_3 := (HB.out.cell (World.block_lt_of_cell? w _ hx296_3)).trans hx296_3; replace p296 := eq_true p296; replace q296 := eq_true q296)))
                            go_ret
                            exact ⟨by first | rfl | (simp [errW_none, errW_some] <;> rfl) | (simp (disch := omega) only [← i64_w, IntWalk.i64_in]; rfl) | (simp [*, errW_none, errW_some] <;> rfl), by repeat (first | (with_reducible first | exact HB.out | apply below_alloc | apply pw_below_drewN | apply below_drew1 | refine below_set ?_ GE292.out) | exact HB.out)⟩
                          · replace c24 := Bool.eq_false_iff.mpr c24
                            subst c24
                            have H1 : (none) = some r := by rw [if_neg (show ¬ (false = true) by decide)] at H; exact H
                            clear H
                            have H := H1
                            clear H1
                            exact absurd H (by simp)
                      · rw [if_neg c21] at H
                        exact absurd H (by simp)
                    · rw [if_neg c20] at H
                      exact absurd H (by simp)
                  · rw [if_neg c19] at H
                    have c19b0 : decide (x41_2 < (l0.length : Int)) = false := decide_eq_false c19
                    clear c19
                    by_cases c26 : t290 = true
                    · subst c26
                      have H1 : (none) = some r := by rw [if_pos rfl] at H; exact H
                      clear H
                      have H := H1
                      clear H1
                      exact absurd H (by simp)
                    · replace c26 := Bool.eq_false_iff.mpr c26
                      subst c26
                      have H1 : (some (t286.toList == ([] : List UInt8) && (t287 == 0 && (!t288 && (t289.toList == ([] : List UInt8)))))) = some r := by rw [if_neg (show ¬ (false = true) by decide)] at H; exact H
                      clear H
                      have H := H1
                      clear H1
                      obtain rfl := Option.some.inj H
                      have hcz27_0 : wr.cell? ⟨gb292, 0, none⟩ = some (.string t286) := (blk_cell BK292.out 0).trans rfl
                      have hcz27_1 : wr.cell? ⟨gb292, 1, none⟩ = some (.int .u64 t287) := (blk_cell BK292.out 1).trans rfl
                      have hcz27_2 : wr.cell? ⟨gb292, 2, none⟩ = some (.bool t288) := (blk_cell BK292.out 2).trans rfl
                      have hcz27_3 : wr.cell? ⟨gb292, 3, none⟩ = some (.string t289) := (blk_cell BK292.out 3).trans rfl
                      have hfz27_0 := blk_frozen BK292.out 0
                      have hfz27_1 := blk_frozen BK292.out 1
                      have hfz27_2 := blk_frozen BK292.out 2
                      have hfz27_3 := blk_frozen BK292.out 3
                      go_wp2
                      repeat (go_quiet (fail); try go_wp2)
                      go_ret
                      exact ⟨by first | rfl | (simp [errW_none, errW_some] <;> rfl) | (simp (disch := omega) only [← i64_w, IntWalk.i64_in]; rfl) | (simp [*, errW_none, errW_some] <;> rfl), by repeat (first | (with_reducible first | exact HB.out | apply below_alloc | apply pw_below_drewN | apply below_drew1 | refine below_set ?_ GE292.out) | exact HB.out)⟩
            · rw [if_neg c14] at H
              exact absurd H (by simp)
          · rw [if_neg c12] at H
            have c12b0 : (t285 == 0) = false := beq_eq_false_iff_ne.mpr c12
            have c12b1 : (t285 != 0) = true := bne_iff_ne.mpr c12
            obtain rfl := Option.some.inj H
            go_wp2_with (first | (go_at_call 12; (with_reducible refine (block_Encode.calls kj5 _ _ l0 t284 t285 _ ?side1 ?side2 A11.out).mono ?_); (case side1 => repeat (first | exact (Kd.C_below HR0.out HB.out) | (with_reducible refine Kd.C_alloc ?_ _) | (with_reducible refine Kd.C_drewN ?_ _) | (with_reducible refine Kd.C_drew ?_))); (case side2 => exact HC0.out); rintro e w28 ⟨rfl, hb⟩; have n0_ := Aside0.mk (below_step (by repeat (first | (with_reducible first | exact HB.out | apply below_alloc | apply pw_below_drewN | apply below_drew1) | exact HB.out)) hb); clear HB; have HB := n0_; clear n0_; (try clear hb); (try clear hb2); (try clear hk); (try clear hi); (try clear A11)))
            repeat (go_quiet (first | (go_at_call 12; (with_reducible refine (block_Encode.calls kj5 _ _ l0 t284 t285 _ ?side1 ?side2 A11.out).mono ?_); (case side1 => repeat (first | exact (Kd.C_below HR0.out HB.out) | (with_reducible refine Kd.C_alloc ?_ _) | (with_reducible refine Kd.C_drewN ?_ _) | (with_reducible refine Kd.C_drew ?_))); (case side2 => exact HC0.out); rintro e w28 ⟨rfl, hb⟩; have n0_ := Aside0.mk (below_step (by repeat (first | (with_reducible first | exact HB.out | apply below_alloc | apply pw_below_drewN | apply below_drew1) | exact HB.out)) hb); clear HB; have HB := n0_; clear n0_; (try clear hb); (try clear hb2); (try clear hk); (try clear hi); (try clear A11))); try go_wp2_with (first | (go_at_call 12; (with_reducible refine (block_Encode.calls kj5 _ _ l0 t284 t285 _ ?side1 ?side2 A11.out).mono ?_); (case side1 => repeat (first | exact (Kd.C_below HR0.out HB.out) | (with_reducible refine Kd.C_alloc ?_ _) | (with_reducible refine Kd.C_drewN ?_ _) | (with_reducible refine Kd.C_drew ?_))); (case side2 => exact HC0.out); rintro e w28 ⟨rfl, hb⟩; have n0_ := Aside0.mk (below_step (by repeat (first | (with_reducible first | exact HB.out | apply below_alloc | apply pw_below_drewN | apply below_drew1) | exact HB.out)) hb); clear HB; have HB := n0_; clear n0_; (try clear hb); (try clear hb2); (try clear hk); (try clear hi); (try clear A11))))
            go_ret
            exact ⟨by first | rfl | (simp [errW_none, errW_some] <;> rfl) | (simp (disch := omega) only [← i64_w, IntWalk.i64_in]; rfl) | (simp [*, errW_none, errW_some] <;> rfl), by repeat (first | (with_reducible first | exact HB.out | apply below_alloc | apply pw_below_drewN | apply below_drew1) | exact HB.out)⟩
  · replace c5 := Bool.eq_false_iff.mpr c5
    subst c5
    have H1 : (none) = some r := by rw [if_neg (show ¬ (false = true) by decide)] at H; exact H
    clear H
    have H := H1
    clear H1
    exact absurd H (by simp)

/-! ### screelaw09_BlockShort: function 7 -/
def screelaw09_BlockShort.l0 : Nat → List (S35) → ByteArray → Int → Int → Int → Int → Int → Option (Bool)
  | 0, _, _, _, _, _, _, _ => none
  | k + 1, x0, x3, x5, x6, x7, x21, x22 => if x22 < x21 then (if 0 ≤ x22 then (if x22 < (x0.length : Int) then (if (Int.tmod x22 4) > 0 then (if 0 ≤ (wrap64 (x22 - 1)) then (if (wrap64 (x22 - 1)) < (x0.length : Int) then ((block_Shared.f k ((rd_T35 x0 (wrap64 (x22 - 1))).f0) ((rd_T35 x0 x22).f0)).bind fun t305 => (screelaw09_BlockShort.l0 k x0 x3 (wrap64 (x5 + (((rd_T35 x0 x22).f3).size : Int))) (wrap64 (x6 + (((rd_T35 x0 x22).f0).size : Int))) (wrap64 (x7 + t305)) x21 (wrap64 (x22 + 1)))) else (none)) else (none)) else (screelaw09_BlockShort.l0 k x0 x3 (wrap64 (x5 + (((rd_T35 x0 x22).f3).size : Int))) (wrap64 (x6 + (((rd_T35 x0 x22).f0).size : Int))) x7 x21 (wrap64 (x22 + 1)))) else (none)) else (none)) else (if (x3.size : Int) ≥ (wrap64 ((wrap64 (x5 + x6)) - x7)) then (some (decide ((x3.size : Int) ≤ (wrap64 ((wrap64 ((wrap64 ((wrap64 (x5 + x6)) - x7)) + (wrap64 (30 * (x0.length : Int))))) + 16))))) else (none))
def screelaw09_BlockShort.f (k : Nat) (l0 : List (S35)) : Option (Bool) := (screelaw09_awake.f k).bind fun t297 => (if t297 = true then ((screelaw09_large.f k l0).bind fun t298 => (if t298 = true then (some true) else ((block_Encode.f k l0).bind fun bt299 => (if bt299.2 = 0 then (screelaw09_BlockShort.l0 k l0 bt299.1 0 0 0 (l0.length : Int) 0) else (some true))))) else (none))
theorem screelaw09_BlockShort.mono_l : ∀ k, (∀ y0 y1 y2 y3 y4 y5 y6, LeO (screelaw09_BlockShort.l0 k y0 y1 y2 y3 y4 y5 y6) (screelaw09_BlockShort.l0 (k + 1) y0 y1 y2 y3 y4 y5 y6))
  | 0 => fun _ _ _ _ _ _ _ r h => by simp [screelaw09_BlockShort.l0] at h
  | k + 1 => by
    have ih0 := screelaw09_BlockShort.mono_l k
    · intro y0 y1 y2 y3 y4 y5 y6
      unfold screelaw09_BlockShort.l0
      repeat' first
      | (with_reducible exact ih0 _ _ _ _ _ _ _)
      | (with_reducible exact block_Encode.mono _ _)
      | (with_reducible exact block_Shared.mono _ _ _)
      | (with_reducible exact screelaw09_awake.mono _)
      | (with_reducible exact screelaw09_large.mono _ _)
      | (with_reducible exact LeO.refl _)
      | (with_reducible exact LeO.none _)
      | (with_reducible refine LeO.ite ?_ ?_)
      | (with_reducible refine LeO.bind ?_ (fun _ => ?_))
      | exact ih0 _ _ _ _ _ _ _
      | exact block_Encode.mono _ _
      | exact block_Shared.mono _ _ _
      | exact screelaw09_awake.mono _
      | exact screelaw09_large.mono _ _
      | exact LeO.none _
      | refine LeO.ite ?_ ?_
      | refine LeO.bind ?_ (fun _ => ?_)
theorem screelaw09_BlockShort.mono : ∀ a0 k, LeO (screelaw09_BlockShort.f k a0) (screelaw09_BlockShort.f (k + 1) a0) := by
  intro a0 k
  have ih0 := screelaw09_BlockShort.mono_l k
  unfold screelaw09_BlockShort.f
  repeat' first
      | (with_reducible exact ih0 _ _ _ _ _ _ _)
      | (with_reducible exact block_Encode.mono _ _)
      | (with_reducible exact block_Shared.mono _ _ _)
      | (with_reducible exact screelaw09_awake.mono _)
      | (with_reducible exact screelaw09_large.mono _ _)
      | (with_reducible exact LeO.refl _)
      | (with_reducible exact LeO.none _)
      | (with_reducible refine LeO.ite ?_ ?_)
      | (with_reducible refine LeO.bind ?_ (fun _ => ?_))
      | exact ih0 _ _ _ _ _ _ _
      | exact block_Encode.mono _ _
      | exact block_Shared.mono _ _ _
      | exact screelaw09_awake.mono _
      | exact screelaw09_large.mono _ _
      | exact LeO.none _
      | refine LeO.ite ?_ ?_
      | refine LeO.bind ?_ (fun _ => ?_)
def screelaw09_BlockShort.T15 : Bool × List (List Nat × List Nat) := (true, [([], []), ([], []), ([], []), ([2], [2]), ([1, 3], [1, 3]), ([4], [4]), ([5], [5]), ([], []), ([], []), ([7, 8], [7, 8]), ([9], [9]), ([10], [10]), ([6, 11], [6, 11]), ([0, 12], [0, 12]), ([13, 12, 0, 1, 2, 3, 4, 5, 6, 7, 8, 9, 10, 11, 12, 13], [0, 13])])
def screelaw09_BlockShort.B15 : List Nat := [0, 0, 0, 4, 14, 30, 62, 0, 0, 384, 896, 1920, 4094, 8191, 16383]
theorem screelaw09_BlockShort.tab15 : rtab .any (opsOf Try.f7 15) = screelaw09_BlockShort.T15 := by kernel_rfl
theorem screelaw09_BlockShort.bits15 : waitsOk screelaw09_BlockShort.T15.2 screelaw09_BlockShort.B15 = true := by kernel_rfl
set_option maxHeartbeats 8000000 in
set_option maxRecDepth 100000 in
theorem screelaw09_BlockShort.calls (k : Nat) (A0 : Option Addr) (c0 : Nat) (l0 : List (S35)) (r : Bool) (w : World) (hr0 : Kd.C k35 w A0 l0.length l0) (hc0 : l0.length ≤ c0) (h : screelaw09_BlockShort.f k l0 = some r) :
    Calls Try.prog 7 #[.slice A0 l0.length c0] w fun e w' => e = .returned (.bool r) ∧ Below w.heap.size w w' := by
  have HR0 := Aside0.mk hr0
  have HC0 := Aside0.mk hc0
  clear hr0 hc0
  have HB := Aside0.mk (Below.refl w.heap.size w)
  have H : ((screelaw09_awake.f k).bind fun t297 => (if t297 = true then ((screelaw09_large.f k l0).bind fun t298 => (if t298 = true then (some true) else ((block_Encode.f k l0).bind fun bt299 => (if bt299.2 = 0 then (screelaw09_BlockShort.l0 k l0 bt299.1 0 0 0 (l0.length : Int) 0) else (some true))))) else (none))) = some r := h
  clear h
  replace H := Option.bind_eq_some_iff.mp H
  obtain ⟨t297, A20, H⟩ := H
  replace H : (if t297 = true then ((screelaw09_large.f k l0).bind fun t298 => (if t298 = true then (some true) else ((block_Encode.f k l0).bind fun bt299 => (if bt299.2 = 0 then (screelaw09_BlockShort.l0 k l0 bt299.1 0 0 0 (l0.length : Int) 0) else (some true))))) else (none)) = some r := H
  have A2 := Aside0.mk A20
  clear A20
  by_cases c3 : t297 = true
  · subst c3
    have H1 : ((screelaw09_large.f k l0).bind fun t298 => (if t298 = true then (some true) else ((block_Encode.f k l0).bind fun bt299 => (if bt299.2 = 0 then (screelaw09_BlockShort.l0 k l0 bt299.1 0 0 0 (l0.length : Int) 0) else (some true))))) = some r := by rw [if_pos rfl] at H; exact H
    clear H
    have H := H1
    clear H1
    replace H := Option.bind_eq_some_iff.mp H
    obtain ⟨t298, A40, H⟩ := H
    replace H : (if t298 = true then (some true) else ((block_Encode.f k l0).bind fun bt299 => (if bt299.2 = 0 then (screelaw09_BlockShort.l0 k l0 bt299.1 0 0 0 (l0.length : Int) 0) else (some true)))) = some r := H
    have A4 := Aside0.mk A40
    clear A40
    by_cases c5 : t298 = true
    · subst c5
      have H1 : (some true) = some r := by rw [if_pos rfl] at H; exact H
      clear H
      have H := H1
      clear H1
      obtain rfl := Option.some.inj H
      go_enter Try.func7, Try.ntmps7
      go_wp2_with (first | ((with_reducible refine gate_callee (f := 10) rfl ?_); refine goesL_ (some 9) rfl rfl Try.func10 (by kernel_rfl) rfl #[] rfl (by (try simp only [List.map_toArray, List.map_cons, List.map_nil]); first | done | rfl | (simp only [List.length_drop, List.length_take]; rfl) | (simp (disch := omega) only [IntWalk.u64_in, IntWalk.i64_in, IntWalk.u8_in]; rfl)) ?_; (with_reducible refine (screelaw09_awake.calls k  true _ A2.out).mono ?_); rintro e w6 ⟨rfl, hb⟩; refine ⟨_, rfl, ?_⟩; have n0_ := Aside0.mk (below_step (by repeat (first | (with_reducible first | exact HB.out | apply below_alloc | apply pw_below_drewN | apply below_drew1) | exact HB.out)) hb); clear HB; have HB := n0_; clear n0_; (try clear hb); (try clear hb2); (try clear hk); (try clear hi); (try clear A2)) | ((with_reducible refine gate_callee (f := 11) rfl ?_); refine goesL_ (some 12) rfl rfl Try.func11 (by kernel_rfl) rfl #[.slice A0 l0.length c0] rfl (by (try simp only [List.map_toArray, List.map_cons, List.map_nil]); first | done | rfl | (simp only [List.length_drop, List.length_take]; rfl) | (simp (disch := omega) only [IntWalk.u64_in, IntWalk.i64_in, IntWalk.u8_in]; rfl)) ?_; (with_reducible refine (screelaw09_large.calls k _ _ l0 true _ ?side1 ?side2 A4.out).mono ?_); (case side1 => repeat (first | exact (Kd.C_below HR0.out HB.out) | (with_reducible refine Kd.C_alloc ?_ _) | (with_reducible refine Kd.C_drewN ?_ _) | (with_reducible refine Kd.C_drew ?_))); (case side2 => exact HC0.out); rintro e w' ⟨rfl, ⟨nd, rfl⟩⟩; refine ⟨_, rfl, ?_⟩))
      go_ret
      exact ⟨by first | rfl | (simp [errW_none, errW_some] <;> rfl) | (simp (disch := omega) only [← i64_w, IntWalk.i64_in]; rfl) | (simp [*, errW_none, errW_some] <;> rfl), by repeat (first | (with_reducible first | exact HB.out | apply below_alloc | apply pw_below_drewN | apply below_drew1) | exact HB.out)⟩
    · replace c5 := Bool.eq_false_iff.mpr c5
      subst c5
      have H1 : ((block_Encode.f k l0).bind fun bt299 => (if bt299.2 = 0 then (screelaw09_BlockShort.l0 k l0 bt299.1 0 0 0 (l0.length : Int) 0) else (some true))) = some r := by rw [if_neg (show ¬ (false = true) by decide)] at H; exact H
      clear H
      have H := H1
      clear H1
      replace H := Option.bind_eq_some_iff.mp H
      obtain ⟨⟨t299, t300⟩, A70, H⟩ := H
      replace H : (if t300 = 0 then (screelaw09_BlockShort.l0 k l0 t299 0 0 0 (l0.length : Int) 0) else (some true)) = some r := H
      have A7 := Aside0.mk A70
      clear A70
      by_cases c8 : t300 = 0
      · rw [if_pos c8] at H
        have c8b0 : (t300 == 0) = true := beq_iff_eq.mpr c8
        have c8b1 : (t300 != 0) = false := bne_eq_false_iff_eq.mpr c8
        clear c8
        have H' := Aside0.mk H
        clear H
        go_enter Try.func7, Try.ntmps7
        go_wp2_with (first | ((with_reducible refine gate_callee (f := 10) rfl ?_); refine goesL_ (some 9) rfl rfl Try.func10 (by kernel_rfl) rfl #[] rfl (by (try simp only [List.map_toArray, List.map_cons, List.map_nil]); first | done | rfl | (simp only [List.length_drop, List.length_take]; rfl) | (simp (disch := omega) only [IntWalk.u64_in, IntWalk.i64_in, IntWalk.u8_in]; rfl)) ?_; (with_reducible refine (screelaw09_awake.calls k  true _ A2.out).mono ?_); rintro e w9 ⟨rfl, hb⟩; refine ⟨_, rfl, ?_⟩; have n0_ := Aside0.mk (below_step (by repeat (first | (with_reducible first | exact HB.out | apply below_alloc | apply pw_below_drewN | apply below_drew1) | exact HB.out)) hb); clear HB; have HB := n0_; clear n0_; (try clear hb); (try clear hb2); (try clear hk); (try clear hi); (try clear A2)) | ((with_reducible refine gate_callee (f := 11) rfl ?_); refine goesL_ (some 12) rfl rfl Try.func11 (by kernel_rfl) rfl #[.slice A0 l0.length c0] rfl (by (try simp only [List.map_toArray, List.map_cons, List.map_nil]); first | done | rfl | (simp only [List.length_drop, List.length_take]; rfl) | (simp (disch := omega) only [IntWalk.u64_in, IntWalk.i64_in, IntWalk.u8_in]; rfl)) ?_; (with_reducible refine (screelaw09_large.calls k _ _ l0 false _ ?side1 ?side2 A4.out).mono ?_); (case side1 => repeat (first | exact (Kd.C_below HR0.out HB.out) | (with_reducible refine Kd.C_alloc ?_ _) | (with_reducible refine Kd.C_drewN ?_ _) | (with_reducible refine Kd.C_drew ?_))); (case side2 => exact HC0.out); rintro e w' ⟨rfl, ⟨nd, rfl⟩⟩; refine ⟨_, rfl, ?_⟩) | ((with_reducible refine gate_callee (f := 12) rfl ?_); refine goesL_ (some 15) rfl rfl Try.func12 (by kernel_rfl) rfl #[.slice A0 l0.length c0] rfl (by (try simp only [List.map_toArray, List.map_cons, List.map_nil]); first | done | rfl | (simp only [List.length_drop, List.length_take]; rfl) | (simp (disch := omega) only [IntWalk.u64_in, IntWalk.i64_in, IntWalk.u8_in]; rfl)) ?_; (with_reducible refine (block_Encode.calls k _ _ l0 t299 t300 _ ?side1 ?side2 A7.out).mono ?_); (case side1 => repeat (first | exact (Kd.C_below HR0.out (by repeat (first | (with_reducible first | exact HB.out | apply below_alloc | apply pw_below_drewN | apply below_drew1) | exact HB.out))) | (with_reducible refine Kd.C_alloc ?_ _) | (with_reducible refine Kd.C_drewN ?_ _) | (with_reducible refine Kd.C_drew ?_))); (case side2 => exact HC0.out); rintro e w10 ⟨rfl, hb⟩; refine ⟨_, rfl, ?_⟩; have n0_ := Aside0.mk (below_step (by repeat (first | (with_reducible first | exact HB.out | apply below_alloc | apply pw_below_drewN | apply below_drew1) | exact HB.out)) hb); clear HB; have HB := n0_; clear n0_; (try clear hb); (try clear hb2); (try clear hk); (try clear hi); (try clear A7)))
        go_loopg [5, 6, 7, 22] k (fun kq v5 v6 v7 v22 w' => ∃ (x5_1 : Int) (x6_1 : Int) (x7_1 : Int) (x22_1 : Int), v5 = .int .i64 x5_1 ∧ v6 = .int .i64 x6_1 ∧ v7 = .int .i64 x7_1 ∧ v22 = .int .i64 x22_1 ∧ Aside0 (screelaw09_BlockShort.l0 kq l0 t299 x5_1 x6_1 x7_1 (l0.length : Int) x22_1 = some r) ∧ Aside0 (kq ≤ k) ∧ Aside0 (Below w.heap.size w w'))
        case atStart => exact ⟨(0), (0), (0), (0), (by first | rfl | (simp; done) | (simp [*]; done)), (by first | rfl | (simp; done) | (simp [*]; done)), (by first | rfl | (simp; done) | (simp [*]; done)), (by first | rfl | (simp; done) | (simp [*]; done)), H', ⟨Nat.le_refl _⟩, ⟨by repeat (first | (with_reducible first | exact HB.out | apply below_alloc | apply pw_below_drewN | apply below_drew1) | exact HB.out)⟩⟩
        case round =>
          clear H'
          try clear c1
          try clear p2
          try clear c3
          try clear c5
          try clear c7
          try clear c8
          try clear c8b0
          try clear c8b1
          try clear c10
          obtain ⟨x5_1, x6_1, x7_1, x22_1, rfl, rfl, rfl, rfl, HA, HK1, HB⟩ := hrel
          cases gk with
          | zero => exact absurd HA.out (by simp [screelaw09_BlockShort.l0])
          | succ k1 =>
            have H := HA.out
            clear HA
            simp only [screelaw09_BlockShort.l0] at H
            by_cases c11 : x22_1 < (l0.length : Int)
            · rw [if_pos c11] at H
              have c11b0 : decide (x22_1 < (l0.length : Int)) = true := decide_eq_true c11
              clear c11
              by_cases c12 : 0 ≤ x22_1
              · rw [if_pos c12] at H
                have c12b0 : decide (0 ≤ x22_1) = true := decide_eq_true c12
                clear c12
                by_cases c13 : x22_1 < (l0.length : Int)
                · rw [if_pos c13] at H
                  have c13b0 : decide (x22_1 < (l0.length : Int)) = true := decide_eq_true c13
                  clear c13
                  by_cases c14 : (Int.tmod x22_1 4) > 0
                  · rw [if_pos c14] at H
                    have c14b0 : decide (0 < (Int.tmod x22_1 4)) = true := decide_eq_true c14
                    clear c14
                    obtain ⟨ji15, hji15⟩ : ∃ j_ : Int, (wrap64 (x22_1 - 1)) = j_ := ⟨_, rfl⟩
                    replace H : (if 0 ≤ (ji15) then (if (ji15) < (l0.length : Int) then ((block_Shared.f k1 ((rd_T35 l0 (ji15)).f0) ((rd_T35 l0 x22_1).f0)).bind fun t305 => (screelaw09_BlockShort.l0 k1 l0 t299 (wrap64 (x5_1 + (((rd_T35 l0 x22_1).f3).size : Int))) (wrap64 (x6_1 + (((rd_T35 l0 x22_1).f0).size : Int))) (wrap64 (x7_1 + t305)) (l0.length : Int) (wrap64 (x22_1 + 1)))) else (none)) else (none)) = some r := by first | (rw [hji15] at H; exact H) | (simp only [hji15] at H ⊢; exact H)
                    (try rw [hji15])
                    have hji15w : (IntKind.i64.wrap (x22_1 - 1)) = ji15 := (i64_w _).trans hji15
                    by_cases c16 : 0 ≤ (ji15)
                    · rw [if_pos c16] at H
                      have c16b0 : decide (0 ≤ (ji15)) = true := decide_eq_true c16
                      clear c16
                      by_cases c17 : (ji15) < (l0.length : Int)
                      · rw [if_pos c17] at H
                        have c17b0 : decide ((ji15) < (l0.length : Int)) = true := decide_eq_true c17
                        clear c17
                        replace H := Option.bind_eq_some_iff.mp H
                        obtain ⟨t305, A180, H⟩ := H
                        replace H : (screelaw09_BlockShort.l0 k1 l0 t299 (wrap64 (x5_1 + (((rd_T35 l0 x22_1).f3).size : Int))) (wrap64 (x6_1 + (((rd_T35 l0 x22_1).f0).size : Int))) (wrap64 (x7_1 + t305)) (l0.length : Int) (wrap64 (x22_1 + 1))) = some r := H
                        have A18 := Aside0.mk A180
                        clear A180
                        have H' := Aside0.mk H
                        clear H
                        have p301 : 0 ≤ (x22_1 : Int) := of_decide_eq_true (by first | (with_reducible assumption) | assumption)
                        have q301 : x22_1 < (l0.length : Int) := of_decide_eq_true (by first | (with_reducible assumption) | assumption)
                        obtain ⟨ad301, e301, hx301_0, hx301_1, hx301_2, hx301_3⟩ := at_T35 HR0.out x22_1 p301 q301
                        cases e301
                        replace hx301_0 := (HB.out.cell (World.block_lt_of_cell? w _ hx301_0)).trans hx301_0
                        replace hx301_1 := (HB.out.cell (World.block_lt_of_cell? w _ hx301_1)).trans hx301_1
                        replace hx301_2 := (HB.out.cell (World.block_lt_of_cell? w _ hx301_2)).trans hx301_2
                        replace hx301_3 := (HB.out.cell (World.block_lt_of_cell? w _ hx301_3)).trans hx301_3
                        replace p301 := eq_true p301
                        replace q301 := eq_true q301
                        have p302 : 0 ≤ (x22_1 : Int) := of_decide_eq_true (by first | (with_reducible assumption) | assumption)
                        have q302 : x22_1 < (l0.length : Int) := of_decide_eq_true (by first | (with_reducible assumption) | assumption)
                        obtain ⟨ad302, e302, hx302_0, hx302_1, hx302_2, hx302_3⟩ := at_T35 HR0.out x22_1 p302 q302
                        obtain rfl : ad301 = ad302 := (by injection e302)
                        replace hx302_0 := (HB.out.cell (World.block_lt_of_cell? w _ hx302_0)).trans hx302_0
                        replace hx302_1 := (HB.out.cell (World.block_lt_of_cell? w _ hx302_1)).trans hx302_1
                        replace hx302_2 := (HB.out.cell (World.block_lt_of_cell? w _ hx302_2)).trans hx302_2
                        replace hx302_3 := (HB.out.cell (World.block_lt_of_cell? w _ hx302_3)).trans hx302_3
                        replace p302 := eq_true p302
                        replace q302 := eq_true q302
                        try go_wp2
                        have n0_ := Aside0.mk (below_drew1 HB.out)
                        clear HB
                        have HB := n0_
                        clear n0_
                        have p303 : 0 ≤ ((ji15) : Int) := of_decide_eq_true (by first | (with_reducible assumption) | assumption)
                        have q303 : (ji15) < (l0.length : Int) := of_decide_eq_true (by first | (with_reducible assumption) | assumption)
                        obtain ⟨ad303, e303, hx303_0, hx303_1, hx303_2, hx303_3⟩ := at_T35 HR0.out (ji15) p303 q303
                        have hw303_3 := hx303_3
                        have hw303_2 := hx303_2
                        have hw303_1 := hx303_1
                        have hw303_0 := hx303_0
                        obtain rfl : ad301 = ad303 := (by injection e303)
                        replace hx303_0 := (HB.out.cell (World.block_lt_of_cell? w _ hx303_0)).trans hx303_0
                        replace hx303_1 := (HB.out.cell (World.block_lt_of_cell? w _ hx303_1)).trans hx303_1
                        replace hx303_2 := (HB.out.cell (World.block_lt_of_cell? w _ hx303_2)).trans hx303_2
                        replace hx303_3 := (HB.out.cell (World.block_lt_of_cell? w _ hx303_3)).trans hx303_3
                        replace p303 := eq_true p303
                        replace q303 := eq_true q303
                        have p304 : 0 ≤ (x22_1 : Int) := of_decide_eq_true (by first | (with_reducible assumption) | assumption)
                        have q304 : x22_1 < (l0.length : Int) := of_decide_eq_true (by first | (with_reducible assumption) | assumption)
                        obtain ⟨ad304, e304, hx304_0, hx304_1, hx304_2, hx304_3⟩ := at_T35 HR0.out x22_1 p304 q304
                        have hw304_3 := hx304_3
                        have hw304_2 := hx304_2
                        have hw304_1 := hx304_1
                        have hw304_0 := hx304_0
                        obtain rfl : ad301 = ad304 := (by injection e304)
                        replace hx304_0 := (HB.out.cell (World.block_lt_of_cell? w _ hx304_0)).trans hx304_0
                        replace hx304_1 := (HB.out.cell (World.block_lt_of_cell? w _ hx304_1)).trans hx304_1
                        replace hx304_2 := (HB.out.cell (World.block_lt_of_cell? w _ hx304_2)).trans hx304_2
                        replace hx304_3 := (HB.out.cell (World.block_lt_of_cell? w _ hx304_3)).trans hx304_3
                        replace p304 := eq_true p304
                        replace q304 := eq_true q304
                        refine start_ (n := 15) (S := fun w' => w'.cell? (ad301.add (((ji15)).toNat * 4)) = some (.string ((rd_T35 l0 (ji15)).f0)) ∧ w'.cell? ⟨(ad301.add (((ji15)).toNat * 4)).block, (ad301.add (((ji15)).toNat * 4)).off + 1, none⟩ = some (.int .u64 ((rd_T35 l0 (ji15)).f1)) ∧ w'.cell? ⟨(ad301.add (((ji15)).toNat * 4)).block, (ad301.add (((ji15)).toNat * 4)).off + 2, none⟩ = some (.bool ((rd_T35 l0 (ji15)).f2)) ∧ w'.cell? ⟨(ad301.add (((ji15)).toNat * 4)).block, (ad301.add (((ji15)).toNat * 4)).off + 3, none⟩ = some (.string ((rd_T35 l0 (ji15)).f3)) ∧ w'.cell? (ad301.add ((x22_1).toNat * 4)) = some (.string ((rd_T35 l0 x22_1).f0)) ∧ w'.cell? ⟨(ad301.add ((x22_1).toNat * 4)).block, (ad301.add ((x22_1).toNat * 4)).off + 1, none⟩ = some (.int .u64 ((rd_T35 l0 x22_1).f1)) ∧ w'.cell? ⟨(ad301.add ((x22_1).toNat * 4)).block, (ad301.add ((x22_1).toNat * 4)).off + 2, none⟩ = some (.bool ((rd_T35 l0 x22_1).f2)) ∧ w'.cell? ⟨(ad301.add ((x22_1).toNat * 4)).block, (ad301.add ((x22_1).toNat * 4)).off + 3, none⟩ = some (.string ((rd_T35 l0 x22_1).f3))) (ds := []) #[false, false, false, false, false, false, false, false, false, false, false, false, false, false, false] (by kernel_rfl) rfl rfl ⟨((HB.out.cell (World.block_lt_of_cell? w _ hw303_0)).trans hw303_0), ((HB.out.cell (World.block_lt_of_cell? w _ hw303_1)).trans hw303_1), ((HB.out.cell (World.block_lt_of_cell? w _ hw303_2)).trans hw303_2), ((HB.out.cell (World.block_lt_of_cell? w _ hw303_3)).trans hw303_3), ((HB.out.cell (World.block_lt_of_cell? w _ hw304_0)).trans hw304_0), ((HB.out.cell (World.block_lt_of_cell? w _ hw304_1)).trans hw304_1), ((HB.out.cell (World.block_lt_of_cell? w _ hw304_2)).trans hw304_2), ((HB.out.cell (World.block_lt_of_cell? w _ hw304_3)).trans hw304_3)⟩ (fun hHeld => ?_); refine with_tabW screelaw09_BlockShort.tab15 screelaw09_BlockShort.bits15 (fun HT_ HW_ => ?_)
                        generalize wr.drew = w19 at HB hx303_0 hx303_1 hx303_2 hx303_3 hx304_0 hx304_1 hx304_2 hx304_3 hHeld ⊢
                        refine pure_ (i := 0) (N := some 44) (v := ?_) (a' := ?_) #[true, false, false, false, false, false, false, false, false, false, false, false, false, false, false] rfl rfl (any_of HT_.out (by kernel_rfl)) (fun _ _ _ h => h) (Or.inl ⟨by rfl, ?_⟩) ?_ ?_
                        rotate_left
                        · intro w'
                          go_simp
                          with_reducible rfl
                        rotate_left
                        · simp only [Act.put, List.setIfInBounds_toArray, List.set_cons_zero, List.set_cons_succ, i64_w, i32_w]
                          rfl
                        refine pure_ (i := 1) (N := some 45) (v := ?_) (a' := ?_) #[true, true, false, false, false, false, false, false, false, false, false, false, false, false, false] rfl rfl (any_of HT_.out (by kernel_rfl)) (fun _ _ _ h => h) (Or.inl ⟨by rfl, ?_⟩) ?_ ?_
                        rotate_left
                        · intro w'
                          go_simp
                          with_reducible rfl
                        rotate_left
                        · simp only [Act.put, List.setIfInBounds_toArray, List.set_cons_zero, List.set_cons_succ, i64_w, i32_w]
                          rfl
                        refine pure_ (i := 2) (N := some 46) (v := ?_) (a' := ?_) #[true, true, true, false, false, false, false, false, false, false, false, false, false, false, false] rfl rfl (any_of HT_.out (by kernel_rfl)) (fun _ _ _ h => h) (Or.inl ⟨by rfl, ?_⟩) ?_ ?_
                        rotate_left
                        · intro w'
                          go_simp
                          with_reducible rfl
                        rotate_left
                        · simp only [Act.put, List.setIfInBounds_toArray, List.set_cons_zero, List.set_cons_succ, i64_w, i32_w]
                          rfl
                        refine pure_ (i := 3) (N := some 47) (v := ?_) (a' := ?_) #[true, true, true, true, false, false, false, false, false, false, false, false, false, false, false] rfl rfl (any_of HT_.out (by kernel_rfl)) (fun _ _ _ h => h) (Or.inl ⟨by rfl, ?_⟩) ?_ ?_
                        rotate_left
                        · intro w'
                          go_simp
                          with_reducible rfl
                        rotate_left
                        · simp only [Act.put, List.setIfInBounds_toArray, List.set_cons_zero, List.set_cons_succ, i64_w, i32_w]
                          rfl
                        refine pure_ (i := 4) (N := some 48) (v := ?_) (a' := ?_) #[true, true, true, true, true, false, false, false, false, false, false, false, false, false, false] rfl rfl (any_of HT_.out (by kernel_rfl)) (fun _ _ _ h => h) (Or.inl ⟨by rfl, ?_⟩) ?_ ?_
                        rotate_left
                        · intro w'
                          go_simp
                          with_reducible rfl
                        rotate_left
                        · simp only [Act.put, List.setIfInBounds_toArray, List.set_cons_zero, List.set_cons_succ, i64_w, i32_w]
                          rfl
                        refine pure_ (i := 5) (N := some 49) (v := ?_) (a' := ?_) #[true, true, true, true, true, true, false, false, false, false, false, false, false, false, false] rfl rfl (any_of HT_.out (by kernel_rfl)) (fun _ _ _ h => h) (Or.inl ⟨by rfl, ?_⟩) ?_ ?_
                        rotate_left
                        · intro w'
                          go_simp
                          with_reducible rfl
                        rotate_left
                        · simp only [Act.put, List.setIfInBounds_toArray, List.set_cons_zero, List.set_cons_succ, i64_w, i32_w]
                          rfl
                        refine pure_ (i := 7) (N := some 51) (v := ?_) (a' := ?_) #[true, true, true, true, true, true, false, true, false, false, false, false, false, false, false] rfl rfl (any_of HT_.out (by kernel_rfl)) (fun _ _ _ h => h) (Or.inl ⟨by rfl, ?_⟩) ?_ ?_
                        rotate_left
                        · intro w'
                          go_simp
                          with_reducible rfl
                        rotate_left
                        · simp only [Act.put, List.setIfInBounds_toArray, List.set_cons_zero, List.set_cons_succ, i64_w, i32_w]
                          rfl
                        refine pure_ (i := 8) (N := some 52) (v := ?_) (a' := ?_) #[true, true, true, true, true, true, false, true, true, false, false, false, false, false, false] rfl rfl (any_of HT_.out (by kernel_rfl)) (fun _ _ _ h => h) (Or.inl ⟨by rfl, ?_⟩) ?_ ?_
                        rotate_left
                        · intro w'
                          go_simp
                          with_reducible rfl
                        rotate_left
                        · simp only [Act.put, List.setIfInBounds_toArray, List.set_cons_zero, List.set_cons_succ, i64_w, i32_w]
                          rfl
                        refine pure_ (i := 9) (N := some 53) (v := ?_) (a' := ?_) #[true, true, true, true, true, true, false, true, true, true, false, false, false, false, false] rfl rfl (any_of HT_.out (by kernel_rfl)) (fun _ _ _ h => h) (Or.inl ⟨by rfl, ?_⟩) ?_ ?_
                        rotate_left
                        · intro w'
                          go_simp
                          with_reducible rfl
                        rotate_left
                        · simp only [Act.put, List.setIfInBounds_toArray, List.set_cons_zero, List.set_cons_succ, i64_w, i32_w]
                          rfl
                        refine pure_ (i := 10) (N := some 54) (v := ?_) (a' := ?_) #[true, true, true, true, true, true, false, true, true, true, true, false, false, false, false] rfl rfl (any_of HT_.out (by kernel_rfl)) (fun _ _ _ h => h) (Or.inl ⟨by rfl, ?_⟩) ?_ ?_
                        rotate_left
                        · intro w'
                          go_simp
                          with_reducible rfl
                        rotate_left
                        · simp only [Act.put, List.setIfInBounds_toArray, List.set_cons_zero, List.set_cons_succ, i64_w, i32_w]
                          rfl
                        refine take_ (i := 6) (N := some 50) (v := ?_) (a' := ?_) #[true, true, true, true, true, true, true, true, true, true, true, false, false, false, false] rfl rfl (take_ofW HT_.out HW_.out (by kernel_rfl)) (fun _ _ _ h => h) (Or.inl ⟨by rfl, ?_⟩) hHeld ?_ ?_
                        rotate_left
                        · rintro w' ⟨s0, s1, s2, s3, s4, s5, s6, s7⟩
                          go_simp
                          with_reducible rfl
                        rotate_left
                        · simp only [Act.put, List.setIfInBounds_toArray, List.set_cons_zero, List.set_cons_succ, i64_w, i32_w]
                          rfl
                        refine take_ (i := 11) (N := some 55) (v := ?_) (a' := ?_) #[true, true, true, true, true, true, true, true, true, true, true, true, false, false, false] rfl rfl (take_ofW HT_.out HW_.out (by kernel_rfl)) (fun _ _ _ h => h) (Or.inl ⟨by rfl, ?_⟩) hHeld ?_ ?_
                        rotate_left
                        · rintro w' ⟨s0, s1, s2, s3, s4, s5, s6, s7⟩
                          go_simp
                          with_reducible rfl
                        rotate_left
                        · simp only [Act.put, List.setIfInBounds_toArray, List.set_cons_zero, List.set_cons_succ, i64_w, i32_w]
                          rfl
                        refine one_ (i := 12) (N := some 56) #[true, true, true, true, true, true, true, true, true, true, true, true, true, false, false] rfl rfl (one_of HT_.out (by kernel_rfl)) (by decide) (fun K hK => ?_)
                        refine goes_ Try.func14 (by kernel_rfl) rfl #[.string ((rd_T35 l0 (ji15)).f0), .string ((rd_T35 l0 x22_1).f0)] (by rfl) rfl rfl (by (try simp only [List.map_toArray, List.map_cons, List.map_nil]); first | done | (simp only [hji15]; rfl) | rfl | (simp only [List.length_drop, List.length_take]; rfl) | (simp (disch := omega) only [IntWalk.u64_in, IntWalk.i64_in, IntWalk.u8_in]; rfl)) ?_
                        with_reducible refine (block_Shared.calls k1 ((rd_T35 l0 (ji15)).f0) ((rd_T35 l0 x22_1).f0) t305 _ A18.out).mono ?_
                        rintro e w20 ⟨rfl, hb⟩
                        refine ⟨_, rfl, ?_⟩
                        have n0_ := Aside0.mk (below_step (by repeat (first | (with_reducible first | exact HB.out | apply below_alloc | apply pw_below_drewN | apply below_drew1) | exact HB.out)) hb)
                        clear HB
                        have HB := n0_
                        clear n0_
                        (try clear hb)
                        (try clear hb2)
                        (try clear hk)
                        (try clear hi)
                        (try clear A18)
                        refine hK.out _ _ ⟨((HB.out.cell (World.block_lt_of_cell? w _ hw303_0)).trans hw303_0), ((HB.out.cell (World.block_lt_of_cell? w _ hw303_1)).trans hw303_1), ((HB.out.cell (World.block_lt_of_cell? w _ hw303_2)).trans hw303_2), ((HB.out.cell (World.block_lt_of_cell? w _ hw303_3)).trans hw303_3), ((HB.out.cell (World.block_lt_of_cell? w _ hw304_0)).trans hw304_0), ((HB.out.cell (World.block_lt_of_cell? w _ hw304_1)).trans hw304_1), ((HB.out.cell (World.block_lt_of_cell? w _ hw304_2)).trans hw304_2), ((HB.out.cell (World.block_lt_of_cell? w _ hw304_3)).trans hw304_3)⟩ (fun hHeld => ?_)
                        clear hK K
                        refine norm_ (a' := ?_) ?_ ?_
                        rotate_left
                        · show Act.put _ (some 56) _ = _
                          simp only [Act.put, List.setIfInBounds_toArray, List.set_cons_zero, List.set_cons_succ, i64_w, i32_w]
                          rfl
                        refine pure_ (i := 13) (N := some 57) (v := ?_) (a' := ?_) #[true, true, true, true, true, true, true, true, true, true, true, true, true, true, false] rfl rfl (any_of HT_.out (by kernel_rfl)) (fun _ _ _ h => h) (Or.inl ⟨by rfl, ?_⟩) ?_ ?_
                        rotate_left
                        · intro w'
                          go_simp
                          with_reducible rfl
                        rotate_left
                        · simp only [Act.put, List.setIfInBounds_toArray, List.set_cons_zero, List.set_cons_succ, i64_w, i32_w]
                          rfl
                        refine pure_ (i := 14) (N := some 7) (v := ?_) (a' := ?_) #[true, true, true, true, true, true, true, true, true, true, true, true, true, true, true] rfl rfl (any_of HT_.out (by kernel_rfl)) (fun _ _ _ h => h) (Or.inl ⟨by rfl, ?_⟩) ?_ ?_
                        rotate_left
                        · intro w'
                          go_simp
                          with_reducible rfl
                        rotate_left
                        · simp only [Act.put, List.setIfInBounds_toArray, List.set_cons_zero, List.set_cons_succ, i64_w, i32_w]
                          rfl
                        refine done_ (done_of HT_.out (by kernel_rfl)) ?_
                        (try clear hHeld)
                        try go_wp2
                        go_roundg k1
                        case measure => have := HK1.out; omega
                        case rel => exact ⟨(wrap64 (x5_1 + (((rd_T35 l0 x22_1).f3).size : Int))), (wrap64 (x6_1 + (((rd_T35 l0 x22_1).f0).size : Int))), (wrap64 (x7_1 + t305)), (wrap64 (x22_1 + 1)), (by first | rfl | (simp; done) | (simp [*]; done)), (by first | rfl | (simp; done) | (simp [*]; done)), (by first | rfl | (simp; done) | (simp [*]; done)), (by first | rfl | (simp; done) | (simp [*]; done)), (by first | (with_reducible exact H') | exact H' | (subst_vars; exact H')), ⟨by have := HK1.out; omega⟩, ⟨by repeat (first | (with_reducible first | exact HB.out | apply below_alloc | apply pw_below_drewN | apply below_drew1) | exact HB.out)⟩⟩
                      · rw [if_neg c17] at H
                        exact absurd H (by simp)
                    · rw [if_neg c16] at H
                      exact absurd H (by simp)
                  · rw [if_neg c14] at H
                    have c14b0 : decide (0 < (Int.tmod x22_1 4)) = false := decide_eq_false c14
                    clear c14
                    have H' := Aside0.mk H
                    clear H
                    have p301 : 0 ≤ (x22_1 : Int) := of_decide_eq_true (by first | (with_reducible assumption) | assumption)
                    have q301 : x22_1 < (l0.length : Int) := of_decide_eq_true (by first | (with_reducible assumption) | assumption)
                    obtain ⟨ad301, e301, hx301_0, hx301_1, hx301_2, hx301_3⟩ := at_T35 HR0.out x22_1 p301 q301
                    cases e301
                    replace hx301_0 := (HB.out.cell (World.block_lt_of_cell? w _ hx301_0)).trans hx301_0
                    replace hx301_1 := (HB.out.cell (World.block_lt_of_cell? w _ hx301_1)).trans hx301_1
                    replace hx301_2 := (HB.out.cell (World.block_lt_of_cell? w _ hx301_2)).trans hx301_2
                    replace hx301_3 := (HB.out.cell (World.block_lt_of_cell? w _ hx301_3)).trans hx301_3
                    replace p301 := eq_true p301
                    replace q301 := eq_true q301
                    have p302 : 0 ≤ (x22_1 : Int) := of_decide_eq_true (by first | (with_reducible assumption) | assumption)
                    have q302 : x22_1 < (l0.length : Int) := of_decide_eq_true (by first | (with_reducible assumption) | assumption)
                    obtain ⟨ad302, e302, hx302_0, hx302_1, hx302_2, hx302_3⟩ := at_T35 HR0.out x22_1 p302 q302
                    obtain rfl : ad301 = ad302 := (by injection e302)
                    replace hx302_0 := (HB.out.cell (World.block_lt_of_cell? w _ hx302_0)).trans hx302_0
                    replace hx302_1 := (HB.out.cell (World.block_lt_of_cell? w _ hx302_1)).trans hx302_1
                    replace hx302_2 := (HB.out.cell (World.block_lt_of_cell? w _ hx302_2)).trans hx302_2
                    replace hx302_3 := (HB.out.cell (World.block_lt_of_cell? w _ hx302_3)).trans hx302_3
                    replace p302 := eq_true p302
                    replace q302 := eq_true q302
                    go_wp2
                    go_roundg k1
                    case measure => have := HK1.out; omega
                    case rel => exact ⟨(wrap64 (x5_1 + (((rd_T35 l0 x22_1).f3).size : Int))), (wrap64 (x6_1 + (((rd_T35 l0 x22_1).f0).size : Int))), (x7_1), (wrap64 (x22_1 + 1)), (by first | rfl | (simp; done) | (simp [*]; done)), (by first | rfl | (simp; done) | (simp [*]; done)), (by first | rfl | (simp; done) | (simp [*]; done)), (by first | rfl | (simp; done) | (simp [*]; done)), (by first | (with_reducible exact H') | exact H' | (subst_vars; exact H')), ⟨by have := HK1.out; omega⟩, ⟨by repeat (first | (with_reducible first | exact HB.out | apply below_alloc | apply pw_below_drewN | apply below_drew1) | exact HB.out)⟩⟩
                · rw [if_neg c13] at H
                  exact absurd H (by simp)
              · rw [if_neg c12] at H
                exact absurd H (by simp)
            · rw [if_neg c11] at H
              have c11b0 : decide (x22_1 < (l0.length : Int)) = false := decide_eq_false c11
              clear c11
              by_cases c21 : (t299.size : Int) ≥ (wrap64 ((wrap64 (x5_1 + x6_1)) - x7_1))
              · rw [if_pos c21] at H
                have c21b0 : decide ((wrap64 ((wrap64 (x5_1 + x6_1)) - x7_1)) ≤ (t299.size : Int)) = true := decide_eq_true c21
                clear c21
                obtain rfl := Option.some.inj H
                go_wp2
                go_ret
                exact ⟨by first | rfl | (simp [errW_none, errW_some] <;> rfl) | (simp (disch := omega) only [← i64_w, IntWalk.i64_in]; rfl) | (simp [*, errW_none, errW_some] <;> rfl), by repeat (first | (with_reducible first | exact HB.out | apply below_alloc | apply pw_below_drewN | apply below_drew1) | exact HB.out)⟩
              · rw [if_neg c21] at H
                exact absurd H (by simp)
      · rw [if_neg c8] at H
        have c8b0 : (t300 == 0) = false := beq_eq_false_iff_ne.mpr c8
        have c8b1 : (t300 != 0) = true := bne_iff_ne.mpr c8
        obtain rfl := Option.some.inj H
        go_enter Try.func7, Try.ntmps7
        go_wp2_with (first | ((with_reducible refine gate_callee (f := 10) rfl ?_); refine goesL_ (some 9) rfl rfl Try.func10 (by kernel_rfl) rfl #[] rfl (by (try simp only [List.map_toArray, List.map_cons, List.map_nil]); first | done | rfl | (simp only [List.length_drop, List.length_take]; rfl) | (simp (disch := omega) only [IntWalk.u64_in, IntWalk.i64_in, IntWalk.u8_in]; rfl)) ?_; (with_reducible refine (screelaw09_awake.calls k  true _ A2.out).mono ?_); rintro e w22 ⟨rfl, hb⟩; refine ⟨_, rfl, ?_⟩; have n0_ := Aside0.mk (below_step (by repeat (first | (with_reducible first | exact HB.out | apply below_alloc | apply pw_below_drewN | apply below_drew1) | exact HB.out)) hb); clear HB; have HB := n0_; clear n0_; (try clear hb); (try clear hb2); (try clear hk); (try clear hi); (try clear A2)) | ((with_reducible refine gate_callee (f := 11) rfl ?_); refine goesL_ (some 12) rfl rfl Try.func11 (by kernel_rfl) rfl #[.slice A0 l0.length c0] rfl (by (try simp only [List.map_toArray, List.map_cons, List.map_nil]); first | done | rfl | (simp only [List.length_drop, List.length_take]; rfl) | (simp (disch := omega) only [IntWalk.u64_in, IntWalk.i64_in, IntWalk.u8_in]; rfl)) ?_; (with_reducible refine (screelaw09_large.calls k _ _ l0 false _ ?side1 ?side2 A4.out).mono ?_); (case side1 => repeat (first | exact (Kd.C_below HR0.out HB.out) | (with_reducible refine Kd.C_alloc ?_ _) | (with_reducible refine Kd.C_drewN ?_ _) | (with_reducible refine Kd.C_drew ?_))); (case side2 => exact HC0.out); rintro e w' ⟨rfl, ⟨nd, rfl⟩⟩; refine ⟨_, rfl, ?_⟩) | ((with_reducible refine gate_callee (f := 12) rfl ?_); refine goesL_ (some 15) rfl rfl Try.func12 (by kernel_rfl) rfl #[.slice A0 l0.length c0] rfl (by (try simp only [List.map_toArray, List.map_cons, List.map_nil]); first | done | rfl | (simp only [List.length_drop, List.length_take]; rfl) | (simp (disch := omega) only [IntWalk.u64_in, IntWalk.i64_in, IntWalk.u8_in]; rfl)) ?_; (with_reducible refine (block_Encode.calls k _ _ l0 t299 t300 _ ?side1 ?side2 A7.out).mono ?_); (case side1 => repeat (first | exact (Kd.C_below HR0.out (by repeat (first | (with_reducible first | exact HB.out | apply below_alloc | apply pw_below_drewN | apply below_drew1) | exact HB.out))) | (with_reducible refine Kd.C_alloc ?_ _) | (with_reducible refine Kd.C_drewN ?_ _) | (with_reducible refine Kd.C_drew ?_))); (case side2 => exact HC0.out); rintro e w23 ⟨rfl, hb⟩; refine ⟨_, rfl, ?_⟩; have n0_ := Aside0.mk (below_step (by repeat (first | (with_reducible first | exact HB.out | apply below_alloc | apply pw_below_drewN | apply below_drew1) | exact HB.out)) hb); clear HB; have HB := n0_; clear n0_; (try clear hb); (try clear hb2); (try clear hk); (try clear hi); (try clear A7)))
        go_ret
        exact ⟨by first | rfl | (simp [errW_none, errW_some] <;> rfl) | (simp (disch := omega) only [← i64_w, IntWalk.i64_in]; rfl) | (simp [*, errW_none, errW_some] <;> rfl), by repeat (first | (with_reducible first | exact HB.out | apply below_alloc | apply pw_below_drewN | apply below_drew1) | exact HB.out)⟩
  · replace c3 := Bool.eq_false_iff.mpr c3
    subst c3
    have H1 : (none) = some r := by rw [if_neg (show ¬ (false = true) by decide)] at H; exact H
    clear H
    have H := H1
    clear H1
    exact absurd H (by simp)

end Go.Proofs.Ytcogolbgfkikfaa.P
