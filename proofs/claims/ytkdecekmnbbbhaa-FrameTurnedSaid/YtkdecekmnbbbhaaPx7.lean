-- Printed by a program of this session's own (wip/tools/pprint.sh, over the kit's print, with given contracts): not typed by hand.
import Derived.Test.YtkdecekmnbbbhaaPx0
import Derived.Test.YtkdecekmnbbbhaaPx1
import Derived.Test.YtkdecekmnbbbhaaPx2
import Derived.Test.YtkdecekmnbbbhaaPx4
namespace Go.Proofs.Ytkdecekmnbbbhaa.P
open Go.RowKit Go.Proofs.YtkdecekmnbbbhaaW.PrintWords Go.Proofs.YtkdecekmnbbbhaaW.PrintLast Go.Proofs.YtkdecekmnbbbhaaW.PrintMore
attribute [local go_sem] max2_int min2_int max_two min_two max_three min_three max_four min_four   -- for this text's walks alone
set_option linter.unusedVariables false
set_option linter.unusedSimpArgs false

/-! ### screelaw04_FrameOne: function 6 -/
mutual
def screelaw04_FrameOne.j0 : Nat → ByteArray → ByteArray → Bool → Option (Bool)
  | 0, _, _, _ => none
  | k + 1, x0, x1, x19 => if x19 = true then (some true) else ((frame_Make.f k x0).bind fun bt239 => ((frame_Make.f k x1).bind fun bt241 => (if ((bt239.2 == 0) != (decide ((x0.size : Int) ≤ 8000))) = true then (screelaw04_FrameOne.j1 k x0 x1 bt239.1 bt239.2 bt241.1 bt241.2 true) else (if bt239.2 = 0 then (screelaw04_FrameOne.j1 k x0 x1 bt239.1 bt239.2 bt241.1 bt241.2 false) else (screelaw04_FrameOne.j1 k x0 x1 bt239.1 bt239.2 bt241.1 bt241.2 (bt239.2 != 5))))))
def screelaw04_FrameOne.j1 : Nat → ByteArray → ByteArray → ByteArray → Int → ByteArray → Int → Bool → Option (Bool)
  | 0, _, _, _, _, _, _, _ => none
  | k + 1, x0, x1, x5, x6, x7, x8, x43 => if x43 = true then (some false) else (if x6 = 0 then (if x8 = 0 then (if (mn (x5.size : Int) (x7.size : Int)) > 0 then (if 0 ≤ (mn (x5.size : Int) (x7.size : Int)) then (if (mn (x5.size : Int) (x7.size : Int)) ≤ (x5.size : Int) then (if (mn (x5.size : Int) (x7.size : Int)) ≤ (x7.size : Int) then (some (((x5.extract 0 ((mn (x5.size : Int) (x7.size : Int)) : Int).toNat).toList == (x7.extract 0 ((mn (x5.size : Int) (x7.size : Int)) : Int).toNat).toList) == (x0.toList == x1.toList))) else (none)) else (none)) else (none)) else (some false)) else (some true)) else (some true))
end
def screelaw04_FrameOne.f (k : Nat) (a0 : ByteArray) (a1 : ByteArray) : Option (Bool) := (screelaw04_awake.f k).bind fun t238 => (if t238 = true then (if (a0.size : Int) > 8192 then (screelaw04_FrameOne.j0 k a0 a1 true) else (screelaw04_FrameOne.j0 k a0 a1 (decide ((a1.size : Int) > 8192)))) else (some false))
theorem screelaw04_FrameOne.mono_l : ∀ k, (∀ y0 y1 y2, LeO (screelaw04_FrameOne.j0 k y0 y1 y2) (screelaw04_FrameOne.j0 (k + 1) y0 y1 y2)) ∧ (∀ y0 y1 y2 y3 y4 y5 y6, LeO (screelaw04_FrameOne.j1 k y0 y1 y2 y3 y4 y5 y6) (screelaw04_FrameOne.j1 (k + 1) y0 y1 y2 y3 y4 y5 y6))
  | 0 => ⟨fun _ _ _ r h => by simp [screelaw04_FrameOne.j0] at h, fun _ _ _ _ _ _ _ r h => by simp [screelaw04_FrameOne.j1] at h⟩
  | k + 1 => by
    obtain ⟨ih0, ih1⟩ := screelaw04_FrameOne.mono_l k
    refine ⟨?_, ?_⟩
    · intro y0 y1 y2
      unfold screelaw04_FrameOne.j0
      repeat' first
      | (with_reducible exact ih0 _ _ _)
      | (with_reducible exact ih1 _ _ _ _ _ _ _)
      | (with_reducible exact frame_Make.mono _ _)
      | (with_reducible exact screelaw04_awake.mono _)
      | (with_reducible exact LeO.refl _)
      | (with_reducible exact LeO.none _)
      | (with_reducible refine LeO.ite ?_ ?_)
      | (with_reducible refine LeO.bind ?_ (fun _ => ?_))
      | exact ih0 _ _ _
      | exact ih1 _ _ _ _ _ _ _
      | exact frame_Make.mono _ _
      | exact screelaw04_awake.mono _
      | exact LeO.none _
      | refine LeO.ite ?_ ?_
      | refine LeO.bind ?_ (fun _ => ?_)
    · intro y0 y1 y2 y3 y4 y5 y6
      unfold screelaw04_FrameOne.j1
      repeat' first
      | (with_reducible exact ih0 _ _ _)
      | (with_reducible exact ih1 _ _ _ _ _ _ _)
      | (with_reducible exact frame_Make.mono _ _)
      | (with_reducible exact screelaw04_awake.mono _)
      | (with_reducible exact LeO.refl _)
      | (with_reducible exact LeO.none _)
      | (with_reducible refine LeO.ite ?_ ?_)
      | (with_reducible refine LeO.bind ?_ (fun _ => ?_))
      | exact ih0 _ _ _
      | exact ih1 _ _ _ _ _ _ _
      | exact frame_Make.mono _ _
      | exact screelaw04_awake.mono _
      | exact LeO.none _
      | refine LeO.ite ?_ ?_
      | refine LeO.bind ?_ (fun _ => ?_)
theorem screelaw04_FrameOne.mono : ∀ a0 a1 k, LeO (screelaw04_FrameOne.f k a0 a1) (screelaw04_FrameOne.f (k + 1) a0 a1) := by
  intro a0 a1 k
  obtain ⟨ih0, ih1⟩ := screelaw04_FrameOne.mono_l k
  unfold screelaw04_FrameOne.f
  repeat' first
      | (with_reducible exact ih0 _ _ _)
      | (with_reducible exact ih1 _ _ _ _ _ _ _)
      | (with_reducible exact frame_Make.mono _ _)
      | (with_reducible exact screelaw04_awake.mono _)
      | (with_reducible exact LeO.refl _)
      | (with_reducible exact LeO.none _)
      | (with_reducible refine LeO.ite ?_ ?_)
      | (with_reducible refine LeO.bind ?_ (fun _ => ?_))
      | exact ih0 _ _ _
      | exact ih1 _ _ _ _ _ _ _
      | exact frame_Make.mono _ _
      | exact screelaw04_awake.mono _
      | exact LeO.none _
      | refine LeO.ite ?_ ?_
      | refine LeO.bind ?_ (fun _ => ?_)
set_option maxHeartbeats 8000000 in
set_option maxRecDepth 100000 in
theorem screelaw04_FrameOne.calls (k : Nat) (a0 : ByteArray) (a1 : ByteArray) (r : Bool) (w : World) (h : screelaw04_FrameOne.f k a0 a1 = some r) :
    Calls Try.prog 6 #[.string a0, .string a1] w fun e w' => e = .returned (.bool r) ∧ Below w.heap.size w w' := by
  have HB := Aside0.mk (Below.refl w.heap.size w)
  have H : ((screelaw04_awake.f k).bind fun t238 => (if t238 = true then (if (a0.size : Int) > 8192 then (screelaw04_FrameOne.j0 k a0 a1 true) else (screelaw04_FrameOne.j0 k a0 a1 (decide ((a1.size : Int) > 8192)))) else (some false))) = some r := h
  clear h
  replace H := Option.bind_eq_some_iff.mp H
  obtain ⟨t238, A30, H⟩ := H
  replace H : (if t238 = true then (if (a0.size : Int) > 8192 then (screelaw04_FrameOne.j0 k a0 a1 true) else (screelaw04_FrameOne.j0 k a0 a1 (decide ((a1.size : Int) > 8192)))) else (some false)) = some r := H
  have A3 := Aside0.mk A30
  clear A30
  by_cases c4 : t238 = true
  · subst c4
    have H1 : (if (a0.size : Int) > 8192 then (screelaw04_FrameOne.j0 k a0 a1 true) else (screelaw04_FrameOne.j0 k a0 a1 (decide ((a1.size : Int) > 8192)))) = some r := by rw [if_pos rfl] at H; exact H
    clear H
    have H := H1
    clear H1
    have HC5 := Aside0.mk H
    clear H
    go_enter Try.func6, Try.ntmps6
    go_upto_region 3 with (first | (go_at_call 10; (with_reducible refine (screelaw04_awake.calls k  true _ A3.out).mono ?_); rintro e w6 ⟨rfl, hb⟩; have n0_ := Aside0.mk (below_step (by repeat (first | (with_reducible first | exact HB.out | apply below_alloc | apply pw_below_drewN | apply below_drew1) | exact HB.out)) hb); clear HB; have HB := n0_; clear n0_; (try clear hb); (try clear hb2); (try clear hk); (try clear hi); (try clear A3)))
    repeat (go_quiet (first | (go_at_call 10; (with_reducible refine (screelaw04_awake.calls k  true _ A3.out).mono ?_); rintro e w6 ⟨rfl, hb⟩; have n0_ := Aside0.mk (below_step (by repeat (first | (with_reducible first | exact HB.out | apply below_alloc | apply pw_below_drewN | apply below_drew1) | exact HB.out)) hb); clear HB; have HB := n0_; clear n0_; (try clear hb); (try clear hb2); (try clear hk); (try clear hi); (try clear A3))); go_upto_region 3 with (first | (go_at_call 10; (with_reducible refine (screelaw04_awake.calls k  true _ A3.out).mono ?_); rintro e w6 ⟨rfl, hb⟩; have n0_ := Aside0.mk (below_step (by repeat (first | (with_reducible first | exact HB.out | apply below_alloc | apply pw_below_drewN | apply below_drew1) | exact HB.out)) hb); clear HB; have HB := n0_; clear n0_; (try clear hb); (try clear hb2); (try clear hk); (try clear hi); (try clear A3))))
    (try simp only [Act.put, List.setIfInBounds_toArray, List.set_cons_zero, List.set_cons_succ])
    go_cut [19] (fun v19 wc => ∃ (kq : Nat) (x19_4 : Bool), v19 = .bool x19_4 ∧ Aside0 (screelaw04_FrameOne.j0 kq a0 a1 x19_4 = some r) ∧ Aside0 (kq ≤ k) ∧ Aside0 (Below w.heap.size w wc))
    case first =>
      have H := HC5.out
      clear HC5
      by_cases c7 : (a0.size : Int) > 8192
      · rw [if_pos c7] at H
        have c7b0 : decide (8192 < (a0.size : Int)) = true := decide_eq_true c7
        have c7b1 : decide (8192 < a0.size) = true := decide_eq_true (by omega)
        clear c7
        (first | rw [c7b0] | (simp only [i64_w, i32_w]; rw [c7b0]) | skip)
        have H' := Aside0.mk H
        clear H
        go_wp2
        repeat (go_quiet (fail); try go_wp2)
        go_meet
        case rel => exact ⟨_, (true), (by first | rfl | (simp; done) | (simp [*]; done)), (by first | (with_reducible exact H') | exact H' | (subst_vars; exact H')), ⟨by first | omega | exact Nat.le_refl _⟩, ⟨by repeat (first | (with_reducible first | exact HB.out | apply below_alloc | apply pw_below_drewN | apply below_drew1) | exact HB.out)⟩⟩
      · rw [if_neg c7] at H
        have c7b0 : decide (8192 < (a0.size : Int)) = false := decide_eq_false c7
        have c7b1 : decide (8192 < a0.size) = false := decide_eq_false (by omega)
        clear c7
        (first | rw [c7b0] | (simp only [i64_w, i32_w]; rw [c7b0]) | skip)
        have H' := Aside0.mk H
        clear H
        go_wp2
        repeat (go_quiet (fail); try go_wp2)
        go_meet
        case rel => exact ⟨_, (decide ((a1.size : Int) > 8192)), (by first | rfl | (simp; done) | (simp [*]; done)), (by first | (with_reducible exact H') | exact H' | (subst_vars; exact H')), ⟨by first | omega | exact Nat.le_refl _⟩, ⟨by repeat (first | (with_reducible first | exact HB.out | apply below_alloc | apply pw_below_drewN | apply below_drew1) | exact HB.out)⟩⟩
    case rest =>
      clear HC5
      try clear p2
      try clear c4
      try clear c6
      try clear c7
      try clear c7b0
      try clear c7b1
      obtain ⟨kq, x19_4, rfl, HA, HJ4, HB⟩ := hcut
      cases kq with
      | zero => exact absurd HA.out (by simp [screelaw04_FrameOne.j0])
      | succ kj4 =>
        have H := HA.out
        clear HA
        simp only [screelaw04_FrameOne.j0] at H
        by_cases c8 : x19_4 = true
        · subst c8
          have H1 : (some true) = some r := by rw [if_pos rfl] at H; exact H
          clear H
          have H := H1
          clear H1
          obtain rfl := Option.some.inj H
          go_wp2
          repeat (go_quiet (fail); try go_wp2)
          go_ret
          exact ⟨by first | rfl | (simp [errW_none, errW_some] <;> rfl) | (simp (disch := omega) only [← i64_w, IntWalk.i64_in]; rfl) | (simp [*, errW_none, errW_some] <;> rfl), by repeat (first | (with_reducible first | exact HB.out | apply below_alloc | apply pw_below_drewN | apply below_drew1) | exact HB.out)⟩
        · replace c8 := Bool.eq_false_iff.mpr c8
          subst c8
          have H1 : ((frame_Make.f kj4 a0).bind fun bt239 => ((frame_Make.f kj4 a1).bind fun bt241 => (if ((bt239.2 == 0) != (decide ((a0.size : Int) ≤ 8000))) = true then (screelaw04_FrameOne.j1 kj4 a0 a1 bt239.1 bt239.2 bt241.1 bt241.2 true) else (if bt239.2 = 0 then (screelaw04_FrameOne.j1 kj4 a0 a1 bt239.1 bt239.2 bt241.1 bt241.2 false) else (screelaw04_FrameOne.j1 kj4 a0 a1 bt239.1 bt239.2 bt241.1 bt241.2 (bt239.2 != 5)))))) = some r := by rw [if_neg (show ¬ (false = true) by decide)] at H; exact H
          clear H
          have H := H1
          clear H1
          replace H := Option.bind_eq_some_iff.mp H
          obtain ⟨⟨t239, t240⟩, A90, H⟩ := H
          replace H : ((frame_Make.f kj4 a1).bind fun bt241 => (if ((t240 == 0) != (decide ((a0.size : Int) ≤ 8000))) = true then (screelaw04_FrameOne.j1 kj4 a0 a1 t239 t240 bt241.1 bt241.2 true) else (if t240 = 0 then (screelaw04_FrameOne.j1 kj4 a0 a1 t239 t240 bt241.1 bt241.2 false) else (screelaw04_FrameOne.j1 kj4 a0 a1 t239 t240 bt241.1 bt241.2 (t240 != 5))))) = some r := H
          have A9 := Aside0.mk A90
          clear A90
          replace H := Option.bind_eq_some_iff.mp H
          obtain ⟨⟨t241, t242⟩, A100, H⟩ := H
          replace H : (if ((t240 == 0) != (decide ((a0.size : Int) ≤ 8000))) = true then (screelaw04_FrameOne.j1 kj4 a0 a1 t239 t240 t241 t242 true) else (if t240 = 0 then (screelaw04_FrameOne.j1 kj4 a0 a1 t239 t240 t241 t242 false) else (screelaw04_FrameOne.j1 kj4 a0 a1 t239 t240 t241 t242 (t240 != 5)))) = some r := H
          have A10 := Aside0.mk A100
          clear A100
          have HC11 := Aside0.mk H
          clear H
          go_upto_region 7 with (first | (go_at_call 19; (with_reducible refine (frame_Make.calls kj4 a0 t239 t240 _ A9.out).mono ?_); rintro e w12 ⟨rfl, hb⟩; have n0_ := Aside0.mk (below_step (by repeat (first | (with_reducible first | exact HB.out | apply below_alloc | apply pw_below_drewN | apply below_drew1) | exact HB.out)) hb); clear HB; have HB := n0_; clear n0_; (try clear hb); (try clear hb2); (try clear hk); (try clear hi); (try clear A9)) | (go_at_call 19; (with_reducible refine (frame_Make.calls kj4 a1 t241 t242 _ A10.out).mono ?_); rintro e w13 ⟨rfl, hb⟩; have n0_ := Aside0.mk (below_step (by repeat (first | (with_reducible first | exact HB.out | apply below_alloc | apply pw_below_drewN | apply below_drew1) | exact HB.out)) hb); clear HB; have HB := n0_; clear n0_; (try clear hb); (try clear hb2); (try clear hk); (try clear hi); (try clear A10)))
          repeat (go_quiet (first | (go_at_call 19; (with_reducible refine (frame_Make.calls kj4 a0 t239 t240 _ A9.out).mono ?_); rintro e w12 ⟨rfl, hb⟩; have n0_ := Aside0.mk (below_step (by repeat (first | (with_reducible first | exact HB.out | apply below_alloc | apply pw_below_drewN | apply below_drew1) | exact HB.out)) hb); clear HB; have HB := n0_; clear n0_; (try clear hb); (try clear hb2); (try clear hk); (try clear hi); (try clear A9)) | (go_at_call 19; (with_reducible refine (frame_Make.calls kj4 a1 t241 t242 _ A10.out).mono ?_); rintro e w13 ⟨rfl, hb⟩; have n0_ := Aside0.mk (below_step (by repeat (first | (with_reducible first | exact HB.out | apply below_alloc | apply pw_below_drewN | apply below_drew1) | exact HB.out)) hb); clear HB; have HB := n0_; clear n0_; (try clear hb); (try clear hb2); (try clear hk); (try clear hi); (try clear A10))); go_upto_region 7 with (first | (go_at_call 19; (with_reducible refine (frame_Make.calls kj4 a0 t239 t240 _ A9.out).mono ?_); rintro e w12 ⟨rfl, hb⟩; have n0_ := Aside0.mk (below_step (by repeat (first | (with_reducible first | exact HB.out | apply below_alloc | apply pw_below_drewN | apply below_drew1) | exact HB.out)) hb); clear HB; have HB := n0_; clear n0_; (try clear hb); (try clear hb2); (try clear hk); (try clear hi); (try clear A9)) | (go_at_call 19; (with_reducible refine (frame_Make.calls kj4 a1 t241 t242 _ A10.out).mono ?_); rintro e w13 ⟨rfl, hb⟩; have n0_ := Aside0.mk (below_step (by repeat (first | (with_reducible first | exact HB.out | apply below_alloc | apply pw_below_drewN | apply below_drew1) | exact HB.out)) hb); clear HB; have HB := n0_; clear n0_; (try clear hb); (try clear hb2); (try clear hk); (try clear hi); (try clear A10))))
          (try simp only [Act.put, List.setIfInBounds_toArray, List.set_cons_zero, List.set_cons_succ])
          go_cut [43] (fun v43 wc => ∃ (kq : Nat) (x43_10 : Bool), v43 = .bool x43_10 ∧ Aside0 (screelaw04_FrameOne.j1 kq a0 a1 t239 t240 t241 t242 x43_10 = some r) ∧ Aside0 (kq ≤ kj4) ∧ Aside0 (Below w.heap.size w wc))
          case first =>
            have H := HC11.out
            clear HC11
            by_cases c14 : ((t240 == 0) != (decide ((a0.size : Int) ≤ 8000))) = true
            · rw [if_pos c14] at H
              have c14b0 : ((t240 == 0) != (decide ((a0.size : Int) ≤ 8000))) = true := c14
              (try (have c14b1 : decide ((t240 == 0) = (decide ((a0.size : Int) ≤ 8000))) = false := by simpa using c14))
              (try (have c14b2 : ((t240 == 0) == (decide ((a0.size : Int) ≤ 8000))) = false := by simpa using c14))
              (try (have c14b3 : ¬ ((t240 == 0) = (decide ((a0.size : Int) ≤ 8000))) := by simpa using c14))
              clear c14
              (first | rw [c14b0] | (simp only [i64_w, i32_w]; rw [c14b0]) | skip)
              have H' := Aside0.mk H
              clear H
              go_wp2
              repeat (go_quiet (fail); try go_wp2)
              go_meet
              case rel => exact ⟨_, (true), (by first | rfl | (simp; done) | (simp [*]; done)), (by first | (with_reducible exact H') | exact H' | (subst_vars; exact H')), ⟨by have := HJ4.out; first | omega | exact Nat.le_refl _⟩, ⟨by repeat (first | (with_reducible first | exact HB.out | apply below_alloc | apply pw_below_drewN | apply below_drew1) | exact HB.out)⟩⟩
            · rw [if_neg c14] at H
              have c14b0 : ((t240 == 0) != (decide ((a0.size : Int) ≤ 8000))) = false := by simpa using c14
              (try (have c14b1 : decide ((t240 == 0) = (decide ((a0.size : Int) ≤ 8000))) = true := by simpa using c14))
              (try (have c14b2 : ((t240 == 0) == (decide ((a0.size : Int) ≤ 8000))) = true := by simpa using c14))
              clear c14
              (first | rw [c14b0] | (simp only [i64_w, i32_w]; rw [c14b0]) | skip)
              by_cases c15 : t240 = 0
              · rw [if_pos c15] at H
                have c15b0 : (t240 == 0) = true := beq_iff_eq.mpr c15
                have c15b1 : (t240 != 0) = false := bne_eq_false_iff_eq.mpr c15
                clear c15
                have H' := Aside0.mk H
                clear H
                go_wp2
                repeat (go_quiet (fail); try go_wp2)
                all_goals (try (exfalso; rw [c15b0] at c14b0; simp at c14b0; omega))
                go_meet
                case rel => exact ⟨_, (false), (by first | rfl | (simp; done) | (simp [*]; done) | (simp [*]; intros; omega)), (by first | (with_reducible exact H') | exact H' | (subst_vars; exact H')), ⟨by have := HJ4.out; first | omega | exact Nat.le_refl _⟩, ⟨by repeat (first | (with_reducible first | exact HB.out | apply below_alloc | apply pw_below_drewN | apply below_drew1) | exact HB.out)⟩⟩
              · rw [if_neg c15] at H
                have c15b0 : (t240 == 0) = false := beq_eq_false_iff_ne.mpr c15
                have c15b1 : (t240 != 0) = true := bne_iff_ne.mpr c15
                have H' := Aside0.mk H
                clear H
                go_wp2
                repeat (go_quiet (fail); try go_wp2)
                all_goals (try (exfalso; rw [c15b0] at c14b0; simp at c14b0; omega))
                go_meet
                case rel => exact ⟨_, ((t240 != 5)), (by first | rfl | (simp; done) | (simp [*]; done) | (simp [*]; intros; omega)), (by first | (with_reducible exact H') | exact H' | (subst_vars; exact H')), ⟨by have := HJ4.out; first | omega | exact Nat.le_refl _⟩, ⟨by repeat (first | (with_reducible first | exact HB.out | apply below_alloc | apply pw_below_drewN | apply below_drew1) | exact HB.out)⟩⟩
          case rest =>
            clear HC11
            try clear c1
            try clear p2
            try clear c4
            try clear c6
            try clear c7
            try clear c7b0
            try clear c7b1
            try clear c8
            try clear c14
            try clear c14b0
            try clear c14b1
            try clear c14b2
            try clear c15
            try clear c15b0
            try clear c15b1
            try clear p2
            obtain ⟨kq, x43_10, rfl, HA, HJ10, HB⟩ := hcut
            cases kq with
            | zero => exact absurd HA.out (by simp [screelaw04_FrameOne.j1])
            | succ kj10 =>
              have H := HA.out
              clear HA
              simp only [screelaw04_FrameOne.j1] at H
              by_cases c16 : x43_10 = true
              · subst c16
                have H1 : (some false) = some r := by rw [if_pos rfl] at H; exact H
                clear H
                have H := H1
                clear H1
                obtain rfl := Option.some.inj H
                go_wp2
                repeat (go_quiet (fail); try go_wp2)
                go_ret
                exact ⟨by first | rfl | (simp [errW_none, errW_some] <;> rfl) | (simp (disch := omega) only [← i64_w, IntWalk.i64_in]; rfl) | (simp [*, errW_none, errW_some] <;> rfl), by repeat (first | (with_reducible first | exact HB.out | apply below_alloc | apply pw_below_drewN | apply below_drew1) | exact HB.out)⟩
              · replace c16 := Bool.eq_false_iff.mpr c16
                subst c16
                have H1 : (if t240 = 0 then (if t242 = 0 then (if (mn (t239.size : Int) (t241.size : Int)) > 0 then (if 0 ≤ (mn (t239.size : Int) (t241.size : Int)) then (if (mn (t239.size : Int) (t241.size : Int)) ≤ (t239.size : Int) then (if (mn (t239.size : Int) (t241.size : Int)) ≤ (t241.size : Int) then (some (((t239.extract 0 ((mn (t239.size : Int) (t241.size : Int)) : Int).toNat).toList == (t241.extract 0 ((mn (t239.size : Int) (t241.size : Int)) : Int).toNat).toList) == (a0.toList == a1.toList))) else (none)) else (none)) else (none)) else (some false)) else (some true)) else (some true)) = some r := by rw [if_neg (show ¬ (false = true) by decide)] at H; exact H
                clear H
                have H := H1
                clear H1
                by_cases c17 : t240 = 0
                · rw [if_pos c17] at H
                  have c17b0 : (t240 == 0) = true := beq_iff_eq.mpr c17
                  have c17b1 : (t240 != 0) = false := bne_eq_false_iff_eq.mpr c17
                  clear c17
                  by_cases c18 : t242 = 0
                  · rw [if_pos c18] at H
                    have c18b0 : (t242 == 0) = true := beq_iff_eq.mpr c18
                    have c18b1 : (t242 != 0) = false := bne_eq_false_iff_eq.mpr c18
                    clear c18
                    obtain ⟨ji19, hji19⟩ : ∃ j_ : Int, (mn (t239.size : Int) (t241.size : Int)) = j_ := ⟨_, rfl⟩
                    replace H : (if (ji19) > 0 then (if 0 ≤ (ji19) then (if (ji19) ≤ (t239.size : Int) then (if (ji19) ≤ (t241.size : Int) then (some (((t239.extract 0 ((ji19) : Int).toNat).toList == (t241.extract 0 ((ji19) : Int).toNat).toList) == (a0.toList == a1.toList))) else (none)) else (none)) else (none)) else (some false)) = some r := by first | (rw [hji19] at H; exact H) | (simp only [hji19] at H ⊢; exact H)
                    (try rw [hji19])
                    have hji19_n : (if t241.size < t239.size then (t241.size : Int) else (t239.size : Int)) = ji19 := by first | (have z_ := hji19; unfold mn at z_; simp only [Int.ofNat_lt] at z_; exact z_)
                    have hji19_ : (if (t241.size : Int) < (t239.size : Int) then (t241.size : Int) else (t239.size : Int)) = ji19 := hji19
                    by_cases c20 : (ji19) > 0
                    · rw [if_pos c20] at H
                      have c20b0 : decide (0 < (ji19)) = true := decide_eq_true c20
                      clear c20
                      by_cases c21 : 0 ≤ (ji19)
                      · rw [if_pos c21] at H
                        have c21b0 := eq_true c21
                        have c21b1 : decide (0 ≤ (ji19)) = true := decide_eq_true c21
                        clear c21
                        by_cases c22 : (ji19) ≤ (t239.size : Int)
                        · rw [if_pos c22] at H
                          have c22b0 := eq_true c22
                          have c22b1 : decide ((ji19) ≤ (t239.size : Int)) = true := decide_eq_true c22
                          clear c22
                          have c23b0 := eq_true (of_decide_eq_true (by first | (with_reducible assumption) | assumption) : 0 ≤ (ji19))
                          by_cases c24 : (ji19) ≤ (t241.size : Int)
                          · rw [if_pos c24] at H
                            have c24b0 := eq_true c24
                            have c24b1 : decide ((ji19) ≤ (t241.size : Int)) = true := decide_eq_true c24
                            clear c24
                            obtain rfl := Option.some.inj H
                            go_wp2
                            repeat (go_quiet (fail); try go_wp2)
                            go_ret
                            exact ⟨by first | rfl | (simp [errW_none, errW_some] <;> rfl) | (simp (disch := omega) only [← i64_w, IntWalk.i64_in]; rfl) | (simp only [← hji19]; first | rfl | (simp [errW_none, errW_some] <;> rfl)) | (simp [*, errW_none, errW_some] <;> rfl), by repeat (first | (with_reducible first | exact HB.out | apply below_alloc | apply pw_below_drewN | apply below_drew1) | exact HB.out)⟩
                          · rw [if_neg c24] at H
                            exact absurd H (by simp)
                        · rw [if_neg c22] at H
                          exact absurd H (by simp)
                      · rw [if_neg c21] at H
                        exact absurd H (by simp)
                    · rw [if_neg c20] at H
                      have c20b0 : decide (0 < (ji19)) = false := decide_eq_false c20
                      clear c20
                      obtain rfl := Option.some.inj H
                      go_wp2
                      repeat (go_quiet (fail); try go_wp2)
                      go_ret
                      exact ⟨by first | rfl | (simp [errW_none, errW_some] <;> rfl) | (simp (disch := omega) only [← i64_w, IntWalk.i64_in]; rfl) | (simp only [← hji19]; first | rfl | (simp [errW_none, errW_some] <;> rfl)) | (simp [*, errW_none, errW_some] <;> rfl), by repeat (first | (with_reducible first | exact HB.out | apply below_alloc | apply pw_below_drewN | apply below_drew1) | exact HB.out)⟩
                  · rw [if_neg c18] at H
                    have c18b0 : (t242 == 0) = false := beq_eq_false_iff_ne.mpr c18
                    have c18b1 : (t242 != 0) = true := bne_iff_ne.mpr c18
                    obtain rfl := Option.some.inj H
                    go_wp2
                    repeat (go_quiet (fail); try go_wp2)
                    go_ret
                    exact ⟨by first | rfl | (simp [errW_none, errW_some] <;> rfl) | (simp (disch := omega) only [← i64_w, IntWalk.i64_in]; rfl) | (simp [*, errW_none, errW_some] <;> rfl), by repeat (first | (with_reducible first | exact HB.out | apply below_alloc | apply pw_below_drewN | apply below_drew1) | exact HB.out)⟩
                · rw [if_neg c17] at H
                  have c17b0 : (t240 == 0) = false := beq_eq_false_iff_ne.mpr c17
                  have c17b1 : (t240 != 0) = true := bne_iff_ne.mpr c17
                  obtain rfl := Option.some.inj H
                  go_wp2
                  repeat (go_quiet (fail); try go_wp2)
                  go_ret
                  exact ⟨by first | rfl | (simp [errW_none, errW_some] <;> rfl) | (simp (disch := omega) only [← i64_w, IntWalk.i64_in]; rfl) | (simp [*, errW_none, errW_some] <;> rfl), by repeat (first | (with_reducible first | exact HB.out | apply below_alloc | apply pw_below_drewN | apply below_drew1) | exact HB.out)⟩
  · replace c4 := Bool.eq_false_iff.mpr c4
    subst c4
    have H1 : (some false) = some r := by rw [if_neg (show ¬ (false = true) by decide)] at H; exact H
    clear H
    have H := H1
    clear H1
    obtain rfl := Option.some.inj H
    go_enter Try.func6, Try.ntmps6
    go_wp2_with (first | (go_at_call 10; (with_reducible refine (screelaw04_awake.calls k  false _ A3.out).mono ?_); rintro e w25 ⟨rfl, hb⟩; have n0_ := Aside0.mk (below_step (by repeat (first | (with_reducible first | exact HB.out | apply below_alloc | apply pw_below_drewN | apply below_drew1) | exact HB.out)) hb); clear HB; have HB := n0_; clear n0_; (try clear hb); (try clear hb2); (try clear hk); (try clear hi); (try clear A3)))
    repeat (go_quiet (first | (go_at_call 10; (with_reducible refine (screelaw04_awake.calls k  false _ A3.out).mono ?_); rintro e w25 ⟨rfl, hb⟩; have n0_ := Aside0.mk (below_step (by repeat (first | (with_reducible first | exact HB.out | apply below_alloc | apply pw_below_drewN | apply below_drew1) | exact HB.out)) hb); clear HB; have HB := n0_; clear n0_; (try clear hb); (try clear hb2); (try clear hk); (try clear hi); (try clear A3))); try go_wp2_with (first | (go_at_call 10; (with_reducible refine (screelaw04_awake.calls k  false _ A3.out).mono ?_); rintro e w25 ⟨rfl, hb⟩; have n0_ := Aside0.mk (below_step (by repeat (first | (with_reducible first | exact HB.out | apply below_alloc | apply pw_below_drewN | apply below_drew1) | exact HB.out)) hb); clear HB; have HB := n0_; clear n0_; (try clear hb); (try clear hb2); (try clear hk); (try clear hi); (try clear A3))))
    go_ret
    exact ⟨by first | rfl | (simp [errW_none, errW_some] <;> rfl) | (simp (disch := omega) only [← i64_w, IntWalk.i64_in]; rfl) | (simp [*, errW_none, errW_some] <;> rfl), by repeat (first | (with_reducible first | exact HB.out | apply below_alloc | apply pw_below_drewN | apply below_drew1) | exact HB.out)⟩

/-- THE ONE PURE STATEMENT of screelaw04_FrameOne: yours. -/
def screelaw04_FrameOne.Pure : Prop := ∀ (a0 : ByteArray) (a1 : ByteArray), a0.size ≤ 140737488351232 → a1.size ≤ 140737488351232 → ∃ k, screelaw04_FrameOne.f k a0 a1 = some true
theorem screelaw04_FrameOne.walk (P : screelaw04_FrameOne.Pure) (a0 : ByteArray) (a1 : ByteArray) (w : World) (w0 : a0.size ≤ 140737488351232) (w1 : a1.size ≤ 140737488351232) :
    Calls Try.prog 6 #[.string a0, .string a1] w fun e w' => e = .returned (.bool true) ∧ Below w.heap.size w w' := by
  obtain ⟨k, h⟩ := P a0 a1 w0 w1
  refine (screelaw04_FrameOne.calls k a0 a1 true w h).mono ?_
  rintro e w' ⟨rfl, hd⟩
  exact ⟨rfl, hd⟩

/-! ### screelaw04_FrameTurned: function 7 -/
def screelaw04_FrameTurned.place (s : ByteArray) (n : Nat) (a1 : Int) : Nat := s.size - 1 - a1.toNat % (n + 1)
def screelaw04_FrameTurned.turned (s : ByteArray) (p : Nat) (b : Int) : List Int := (bytesOf s).set p (Go.bits .xor .u8 ((bytesOf s).getD p 0) b)
def screelaw04_FrameTurned.f (k : Nat) (a0 : ByteArray) (a1 : Int) (a2 : Int) : Option Bool :=
  (screelaw04_awake.f k).bind fun t => if t = true then (if (a0.size : Int) > 8000 then some true else if a2 = 0 then some true else
    (frame_Make.f k a0).bind fun m => if m.2 = 0 ∧ a0.size + 2 ≤ m.1.size ∧ m.1.size ≤ 1099511627776 ∧ 0 ≤ a1 ∧ a1 < 65536 then
      (frame_Take.f k (strOfNums (screelaw04_FrameTurned.turned m.1 (screelaw04_FrameTurned.place m.1 a0.size a1) a2))).bind fun q => if q.1 = ⟨#[]⟩ ∧ q.2.1 = ⟨#[]⟩ ∧ q.2.2 = 2 then some true else none
    else none) else none
theorem screelaw04_FrameTurned.mono : ∀ a0 a1 a2 k, LeO (screelaw04_FrameTurned.f k a0 a1 a2) (screelaw04_FrameTurned.f (k + 1) a0 a1 a2) := by
  intro a0 a1 a2 k
  unfold screelaw04_FrameTurned.f
  exact LeO.bind (screelaw04_awake.mono _) (fun _ => LeO.ite (LeO.ite (LeO.refl _) (LeO.ite (LeO.refl _) (LeO.bind (frame_Make.mono _ _) (fun _ => LeO.ite (LeO.bind (frame_Take.mono _ _) (fun _ => LeO.refl _)) (LeO.refl _))))) (LeO.refl _))
set_option maxHeartbeats 1600000 in
set_option maxRecDepth 100000 in
theorem screelaw04_FrameTurned.calls (k : Nat) (a0 : ByteArray) (a1 : Int) (a2 : Int) (r : Bool) (w : World) (h : screelaw04_FrameTurned.f k a0 a1 a2 = some r) :
    Calls Try.prog 7 #[.string a0, .int .u16 a1, .int .u8 a2] w fun e w' => e = .returned (.bool r) ∧ Below w.heap.size w w' := by
  unfold screelaw04_FrameTurned.f at h
  replace h := Option.bind_eq_some_iff.mp h
  obtain ⟨t, hA, h⟩ := h
  cases t with
  | false => exact absurd h (by simp)
  | true =>
  rw [if_pos rfl] at h
  have HA := Lib.hid hA
  clear hA
  by_cases h8 : (a0.size : Int) > 8000
  · rw [if_pos h8] at h
    simp only [Option.some.injEq] at h
    subst h
    have d1 : decide (8000 < (a0.size : Int)) = true := decide_eq_true h8
    go_enter Try.func7, Try.ntmps7
    go_wp2_with (go_at_call 10; (refine (screelaw04_awake.calls k true _ HA.out).mono ?_); rintro e w1 ⟨rfl, hb⟩)
    go_ret
    exact ⟨rfl, hb⟩
  · rw [if_neg h8] at h
    have d1 : decide (8000 < (a0.size : Int)) = false := decide_eq_false h8
    by_cases h0 : a2 = 0
    · rw [if_pos h0] at h
      simp only [Option.some.injEq] at h
      subst h
      have d2 : (a2 == 0) = true := beq_iff_eq.mpr h0
      go_enter Try.func7, Try.ntmps7
      go_wp2_with (go_at_call 10; (refine (screelaw04_awake.calls k true _ HA.out).mono ?_); rintro e w1 ⟨rfl, hb⟩)
      go_ret
      exact ⟨rfl, hb⟩
    · rw [if_neg h0] at h
      have d2 : (a2 == 0) = false := beq_eq_false_iff_ne.mpr h0
      replace h := Option.bind_eq_some_iff.mp h
      obtain ⟨⟨s, e2⟩, hM, h⟩ := h
      have HM := Lib.hid hM
      clear hM
      by_cases hc : (s, e2).2 = 0 ∧ a0.size + 2 ≤ (s, e2).1.size ∧ (s, e2).1.size ≤ 1099511627776 ∧ 0 ≤ a1 ∧ a1 < 65536
      case neg => rw [if_neg hc] at h; exact absurd h (by simp)
      rw [if_pos hc] at h
      obtain ⟨rfl, hs1, hs2, hp0, hp1⟩ : e2 = 0 ∧ a0.size + 2 ≤ s.size ∧ s.size ≤ 1099511627776 ∧ 0 ≤ a1 ∧ a1 < 65536 := hc
      replace h := Option.bind_eq_some_iff.mp h
      obtain ⟨⟨q1, q2, q3⟩, hT, h⟩ := h
      by_cases hq : (q1, q2, q3).1 = ⟨#[]⟩ ∧ (q1, q2, q3).2.1 = ⟨#[]⟩ ∧ (q1, q2, q3).2.2 = 2
      case neg => rw [if_neg hq] at h; exact absurd h (by simp)
      rw [if_pos hq] at h
      obtain ⟨rfl, rfl, rfl⟩ : q1 = ⟨#[]⟩ ∧ q2 = ⟨#[]⟩ ∧ q3 = 2 := hq
      simp only [Option.some.injEq] at h
      subst h
      obtain ⟨n1, rfl⟩ := Int.eq_ofNat_of_zero_le hp0
      have hT2 : frame_Take.f k (strOfNums (screelaw04_FrameTurned.turned s (s.size - 1 - n1 % (a0.size + 1)) a2)) = some (⟨#[]⟩, ⟨#[]⟩, 2) := hT
      clear hT
      have HT := Lib.hid hT2
      clear hT2
      have hmod := Nat.mod_lt n1 (Nat.succ_pos a0.size)
      have hmo : Int.tmod (n1 : Int) ((a0.size : Int) + 1) = ((n1 % (a0.size + 1) : Nat) : Int) := rfl
      have d3 : decide ((s.size : Int) < (a0.size : Int) + 2) = false := decide_eq_false (by omega)
      obtain ⟨pl, hpl⟩ : ∃ p, p = s.size - 1 - n1 % (a0.size + 1) := ⟨_, rfl⟩
      rw [← hpl] at HT
      have hbl : (bytesOf s).length = s.size := by unfold bytesOf; rw [List.length_map, Array.length_toList]; rfl
      have hpb : pl < (bytesOf s).length := by omega
      go_enter Try.func7, Try.ntmps7
      go_wp2_with (first
        | (go_at_call 10; (refine (screelaw04_awake.calls k true _ HA.out).mono ?_); rintro e w1 ⟨rfl, hb⟩; have HB1 := Aside0.mk hb; clear hb)
        | (go_at_call 19; (refine (frame_Make.calls k a0 s 0 _ HM.out).mono ?_); rintro e w2 ⟨rfl, hb⟩; have HB2 := Aside0.mk (below_step HB1.out hb); clear HB1 hb))
      rw [Lib.run_convert_string_bytes w2 9 39 5 s Try.underlying9 Try.underlying39 Try.underlying5]
      simp only [Result.andThen]
      rw [Oper.upon_value]
      have HR := Aside0.mk (SR.SRow.made w2 5 s)
      have HB3 := Aside0.mk (below_step HB2.out (SR.made_below w2 5 s))
      have hgl := Lib.hid (below_size HB2.out)
      generalize w2.heap.size = gb at HR hgl ⊢
      generalize Lib.bytesWorld w2 5 s = w3 at HR HB3 ⊢
      generalize Go.grownCap w2 s.size 0 5 = cp
      obtain ⟨x, hx⟩ : ∃ x, (bytesOf s)[pl]? = some x := ⟨_, List.getElem?_eq_getElem hpb⟩
      have hcell := HR.out.cell pl x hx
      have hfz := HR.out.frozen pl hpb
      have HX := Lib.hid hx
      have HPL := Lib.hid hpl
      have HPB := Lib.hid hpb
      have HCE := Lib.hid hcell
      have HFZ := Lib.hid hfz
      have hwr : wrap64 ((s.size : Int) - 1 - (n1 : Int) % ((a0.size : Int) + 1)) = (pl : Int) := by
        have e1 : (n1 : Int) % ((a0.size : Int) + 1) = ((n1 % (a0.size + 1) : Nat) : Int) := by rw [Int.natCast_emod]; rfl
        rw [e1]
        generalize n1 % (a0.size + 1) = m1 at hpl hmod ⊢
        unfold wrap64
        clear hmo
        omega
      have HWR := Lib.hid hwr
      have hps : pl < s.size := by omega
      have HPS := Lib.hid hps
      clear HB2 hx hpl hpb hbl hmod hmo hcell hfz hwr hps
      go_upto_region 10 with (fail)
      rw [HWR.out]
      have hps := HPS.out
      have hcell := HCE.out
      have hfz := HFZ.out
      clear HWR HPS HCE HFZ hs1 hs2
      go_wp2
      have hxd : (bytesOf s).getD pl 0 = x := by
        have := HX.out
        rw [List.getD_eq_getElem?_getD, this]; rfl
      have hlen : ((bytesOf s).set pl (Go.bits .xor .u8 x a2)).length = s.size := by
        rw [List.length_set]; unfold bytesOf; rw [List.length_map, Array.length_toList]; rfl
      have hR2 := HR.out.set pl (Go.bits .xor .u8 x a2) HPB.out
      have hcv := hR2.str 39 Try.underlying39 Try.underlying5 cp 9 Try.underlying9
      rw [hlen] at hcv
      rw [hcv]
      have hT3 := HT.out
      unfold screelaw04_FrameTurned.turned at hT3
      rw [hxd] at hT3
      have HT3 := Lib.hid hT3
      have HB4 := Aside0.mk (SR.set_below (i := pl) (v := .int .u8 (Go.bits .xor .u8 x a2)) HB3.out hgl.out)
      clear hT3 hcv hR2 hlen hxd hcell hfz HB3 HR HT HX HPL
      generalize (w3.setCell ⟨gb, pl, none⟩ (Value.int .u8 (Go.bits .xor .u8 x a2))) = w4 at HB4 ⊢
      generalize strOfNums ((bytesOf s).set pl (Go.bits .xor .u8 x a2)) = s2 at HT3 ⊢
      simp only [Result.andThen]
      rw [Oper.upon_value]
      go_wp2_with (go_at_call 15; (refine (frame_Take.calls k s2 ⟨#[]⟩ ⟨#[]⟩ 2 _ HT3.out).mono ?_); rintro e w5 ⟨rfl, hb⟩; have HB5 := Aside0.mk (below_step HB4.out hb.below); clear HB4 hb)
      go_ret
      exact ⟨rfl, HB5.out⟩

/-! ### screelaw04_FrameJoins: function 8 -/
def screelaw04_FrameJoins.j0 : Nat → List ByteArray → ByteArray → ByteArray → ByteArray → Int → Bool → Option (Bool)
  | 0, _, _, _, _, _, _ => none
  | k + 1, x5, x6, x8, x10, x11, x43 => if x43 = true then (if x11 = 5 then (some (x10.toList == ([] : List UInt8))) else (some false)) else (if x6.size + x8.size ≤ 9223372036854775807 then ((frame_All.f k (x6 ++ x8)).bind fun bt260 => (if x11 = 0 then (if x10.toList = (x6 ++ x8).toList then ((screelaw04_texts.f k bt260.1 x5).bind fun t264 => (if t264 = true then (some (bt260.2 == (wrap64 ((x6.size : Int) + (x8.size : Int))))) else (some false))) else (some false)) else (some false))) else (none))
def screelaw04_FrameJoins.f (k : Nat) (l0 : List ByteArray) (l1 : List ByteArray) : Option (Bool) := (screelaw04_awake.f k).bind fun t243 => (if t243 = true then ((some (([] : List ByteArray) : List ByteArray)).bind fun y244 => (if y244.length + l0.length < 8796093022208 then ((some (y244 ++ l0 : List ByteArray)).bind fun y247 => (if y247.length + l1.length < 8796093022208 then ((some (y247 ++ l1 : List ByteArray)).bind fun y250 => ((screelaw04_large.f k y250).bind fun t253 => (if t253 = true then (some true) else ((frame_Join.f k l0).bind fun bt254 => ((frame_Join.f k l1).bind fun bt256 => ((frame_Join.f k y250).bind fun bt258 => (if bt254.2 = 0 then (screelaw04_FrameJoins.j0 k y250 bt254.1 bt256.1 bt258.1 bt258.2 (bt256.2 != 0)) else (screelaw04_FrameJoins.j0 k y250 bt254.1 bt256.1 bt258.1 bt258.2 true)))))))) else (none))) else (none))) else (some false))
theorem screelaw04_FrameJoins.mono_l : ∀ k, (∀ y0 y1 y2 y3 y4 y5, LeO (screelaw04_FrameJoins.j0 k y0 y1 y2 y3 y4 y5) (screelaw04_FrameJoins.j0 (k + 1) y0 y1 y2 y3 y4 y5))
  | 0 => fun _ _ _ _ _ _ r h => by simp [screelaw04_FrameJoins.j0] at h
  | k + 1 => by
    have ih0 := screelaw04_FrameJoins.mono_l k
    · intro y0 y1 y2 y3 y4 y5
      unfold screelaw04_FrameJoins.j0
      repeat' first
      | (with_reducible exact ih0 _ _ _ _ _ _)
      | (with_reducible exact frame_All.mono _ _)
      | (with_reducible exact frame_Join.mono _ _)
      | (with_reducible exact screelaw04_awake.mono _)
      | (with_reducible exact screelaw04_large.mono _ _)
      | (with_reducible exact screelaw04_texts.mono _ _ _)
      | (with_reducible exact LeO.refl _)
      | (with_reducible exact LeO.none _)
      | (with_reducible refine LeO.ite ?_ ?_)
      | (with_reducible refine LeO.bind ?_ (fun _ => ?_))
      | exact ih0 _ _ _ _ _ _
      | exact frame_All.mono _ _
      | exact frame_Join.mono _ _
      | exact screelaw04_awake.mono _
      | exact screelaw04_large.mono _ _
      | exact screelaw04_texts.mono _ _ _
      | exact LeO.none _
      | refine LeO.ite ?_ ?_
      | refine LeO.bind ?_ (fun _ => ?_)
theorem screelaw04_FrameJoins.mono : ∀ a0 a1 k, LeO (screelaw04_FrameJoins.f k a0 a1) (screelaw04_FrameJoins.f (k + 1) a0 a1) := by
  intro a0 a1 k
  have ih0 := screelaw04_FrameJoins.mono_l k
  unfold screelaw04_FrameJoins.f
  repeat' first
      | (with_reducible exact ih0 _ _ _ _ _ _)
      | (with_reducible exact frame_All.mono _ _)
      | (with_reducible exact frame_Join.mono _ _)
      | (with_reducible exact screelaw04_awake.mono _)
      | (with_reducible exact screelaw04_large.mono _ _)
      | (with_reducible exact screelaw04_texts.mono _ _ _)
      | (with_reducible exact LeO.refl _)
      | (with_reducible exact LeO.none _)
      | (with_reducible refine LeO.ite ?_ ?_)
      | (with_reducible refine LeO.bind ?_ (fun _ => ?_))
      | exact ih0 _ _ _ _ _ _
      | exact frame_All.mono _ _
      | exact frame_Join.mono _ _
      | exact screelaw04_awake.mono _
      | exact screelaw04_large.mono _ _
      | exact screelaw04_texts.mono _ _ _
      | exact LeO.none _
      | refine LeO.ite ?_ ?_
      | refine LeO.bind ?_ (fun _ => ?_)
set_option maxHeartbeats 8000000 in
set_option maxRecDepth 100000 in
theorem screelaw04_FrameJoins.calls (k : Nat) (A0 : Option Addr) (c0 : Nat) (l0 : List ByteArray) (A1 : Option Addr) (c1 : Nat) (l1 : List ByteArray) (r : Bool) (w : World) (hr0 : Kd.C Kd.string w A0 l0.length l0) (hc0 : l0.length ≤ c0) (hr1 : Kd.C Kd.string w A1 l1.length l1) (hc1 : l1.length ≤ c1) (h : screelaw04_FrameJoins.f k l0 l1 = some r) :
    Calls Try.prog 8 #[.slice A0 l0.length c0, .slice A1 l1.length c1] w fun e w' => e = .returned (.bool r) ∧ Below w.heap.size w w' := by
  have HR0 := Aside0.mk hr0
  have HC0 := Aside0.mk hc0
  clear hr0 hc0
  have HR1 := Aside0.mk hr1
  have HC1 := Aside0.mk hc1
  clear hr1 hc1
  have HB := Aside0.mk (Below.refl w.heap.size w)
  have H : ((screelaw04_awake.f k).bind fun t243 => (if t243 = true then ((some (([] : List ByteArray) : List ByteArray)).bind fun y244 => (if y244.length + l0.length < 8796093022208 then ((some (y244 ++ l0 : List ByteArray)).bind fun y247 => (if y247.length + l1.length < 8796093022208 then ((some (y247 ++ l1 : List ByteArray)).bind fun y250 => ((screelaw04_large.f k y250).bind fun t253 => (if t253 = true then (some true) else ((frame_Join.f k l0).bind fun bt254 => ((frame_Join.f k l1).bind fun bt256 => ((frame_Join.f k y250).bind fun bt258 => (if bt254.2 = 0 then (screelaw04_FrameJoins.j0 k y250 bt254.1 bt256.1 bt258.1 bt258.2 (bt256.2 != 0)) else (screelaw04_FrameJoins.j0 k y250 bt254.1 bt256.1 bt258.1 bt258.2 true)))))))) else (none))) else (none))) else (some false))) = some r := h
  clear h
  replace H := Option.bind_eq_some_iff.mp H
  obtain ⟨t243, A30, H⟩ := H
  replace H : (if t243 = true then ((some (([] : List ByteArray) : List ByteArray)).bind fun y244 => (if y244.length + l0.length < 8796093022208 then ((some (y244 ++ l0 : List ByteArray)).bind fun y247 => (if y247.length + l1.length < 8796093022208 then ((some (y247 ++ l1 : List ByteArray)).bind fun y250 => ((screelaw04_large.f k y250).bind fun t253 => (if t253 = true then (some true) else ((frame_Join.f k l0).bind fun bt254 => ((frame_Join.f k l1).bind fun bt256 => ((frame_Join.f k y250).bind fun bt258 => (if bt254.2 = 0 then (screelaw04_FrameJoins.j0 k y250 bt254.1 bt256.1 bt258.1 bt258.2 (bt256.2 != 0)) else (screelaw04_FrameJoins.j0 k y250 bt254.1 bt256.1 bt258.1 bt258.2 true)))))))) else (none))) else (none))) else (some false)) = some r := H
  have A3 := Aside0.mk A30
  clear A30
  by_cases c4 : t243 = true
  · subst c4
    have H1 : ((some (([] : List ByteArray) : List ByteArray)).bind fun y244 => (if y244.length + l0.length < 8796093022208 then ((some (y244 ++ l0 : List ByteArray)).bind fun y247 => (if y247.length + l1.length < 8796093022208 then ((some (y247 ++ l1 : List ByteArray)).bind fun y250 => ((screelaw04_large.f k y250).bind fun t253 => (if t253 = true then (some true) else ((frame_Join.f k l0).bind fun bt254 => ((frame_Join.f k l1).bind fun bt256 => ((frame_Join.f k y250).bind fun bt258 => (if bt254.2 = 0 then (screelaw04_FrameJoins.j0 k y250 bt254.1 bt256.1 bt258.1 bt258.2 (bt256.2 != 0)) else (screelaw04_FrameJoins.j0 k y250 bt254.1 bt256.1 bt258.1 bt258.2 true)))))))) else (none))) else (none))) = some r := by rw [if_pos rfl] at H; exact H
    clear H
    have H := H1
    clear H1
    obtain ⟨y244, hy244⟩ : ∃ y_ : List ByteArray, y_ = (([] : List ByteArray)) := ⟨_, rfl⟩
    replace H : (if y244.length + l0.length < 8796093022208 then ((some (y244 ++ l0 : List ByteArray)).bind fun y247 => (if y247.length + l1.length < 8796093022208 then ((some (y247 ++ l1 : List ByteArray)).bind fun y250 => ((screelaw04_large.f k y250).bind fun t253 => (if t253 = true then (some true) else ((frame_Join.f k l0).bind fun bt254 => ((frame_Join.f k l1).bind fun bt256 => ((frame_Join.f k y250).bind fun bt258 => (if bt254.2 = 0 then (screelaw04_FrameJoins.j0 k y250 bt254.1 bt256.1 bt258.1 bt258.2 (bt256.2 != 0)) else (screelaw04_FrameJoins.j0 k y250 bt254.1 bt256.1 bt258.1 bt258.2 true)))))))) else (none))) else (none)) = some r := by first | (rw [hy244]; with_reducible exact H) | (have H2_ := (Option.bind_some _ _).symm.trans H; rw [hy244]; with_reducible exact H2_) | (have H2_ := (Option.bind_some _ _).symm.trans H; with_reducible exact H2_) | with_reducible exact H | (rw [hy244]; exact H) | exact H
    have Ny244 := Aside0.mk hy244
    clear hy244
    by_cases c5 : y244.length + l0.length < 8796093022208
    · rw [if_pos c5] at H
      have LMc5 := Aside0.mk c5
      clear c5
      obtain ⟨y247, hy247⟩ : ∃ y_ : List ByteArray, y_ = (y244 ++ l0) := ⟨_, rfl⟩
      replace H : (if y247.length + l1.length < 8796093022208 then ((some (y247 ++ l1 : List ByteArray)).bind fun y250 => ((screelaw04_large.f k y250).bind fun t253 => (if t253 = true then (some true) else ((frame_Join.f k l0).bind fun bt254 => ((frame_Join.f k l1).bind fun bt256 => ((frame_Join.f k y250).bind fun bt258 => (if bt254.2 = 0 then (screelaw04_FrameJoins.j0 k y250 bt254.1 bt256.1 bt258.1 bt258.2 (bt256.2 != 0)) else (screelaw04_FrameJoins.j0 k y250 bt254.1 bt256.1 bt258.1 bt258.2 true)))))))) else (none)) = some r := by first | (rw [hy247]; with_reducible exact H) | (have H2_ := (Option.bind_some _ _).symm.trans H; rw [hy247]; with_reducible exact H2_) | (have H2_ := (Option.bind_some _ _).symm.trans H; with_reducible exact H2_) | with_reducible exact H | (rw [hy247]; exact H) | exact H
      have Ny247 := Aside0.mk hy247
      clear hy247
      by_cases c6 : y247.length + l1.length < 8796093022208
      · rw [if_pos c6] at H
        have LMc6 := Aside0.mk c6
        clear c6
        obtain ⟨y250, hy250⟩ : ∃ y_ : List ByteArray, y_ = (y247 ++ l1) := ⟨_, rfl⟩
        replace H : ((screelaw04_large.f k y250).bind fun t253 => (if t253 = true then (some true) else ((frame_Join.f k l0).bind fun bt254 => ((frame_Join.f k l1).bind fun bt256 => ((frame_Join.f k y250).bind fun bt258 => (if bt254.2 = 0 then (screelaw04_FrameJoins.j0 k y250 bt254.1 bt256.1 bt258.1 bt258.2 (bt256.2 != 0)) else (screelaw04_FrameJoins.j0 k y250 bt254.1 bt256.1 bt258.1 bt258.2 true))))))) = some r := by first | (rw [hy250]; with_reducible exact H) | (have H2_ := (Option.bind_some _ _).symm.trans H; rw [hy250]; with_reducible exact H2_) | (have H2_ := (Option.bind_some _ _).symm.trans H; with_reducible exact H2_) | with_reducible exact H | (rw [hy250]; exact H) | exact H
        have Ny250 := Aside0.mk hy250
        clear hy250
        replace H := Option.bind_eq_some_iff.mp H
        obtain ⟨t253, A70, H⟩ := H
        replace H : (if t253 = true then (some true) else ((frame_Join.f k l0).bind fun bt254 => ((frame_Join.f k l1).bind fun bt256 => ((frame_Join.f k y250).bind fun bt258 => (if bt254.2 = 0 then (screelaw04_FrameJoins.j0 k y250 bt254.1 bt256.1 bt258.1 bt258.2 (bt256.2 != 0)) else (screelaw04_FrameJoins.j0 k y250 bt254.1 bt256.1 bt258.1 bt258.2 true)))))) = some r := H
        have A7 := Aside0.mk A70
        clear A70
        by_cases c8 : t253 = true
        · subst c8
          have H1 : (some true) = some r := by rw [if_pos rfl] at H; exact H
          clear H
          have H := H1
          clear H1
          obtain rfl := Option.some.inj H
          go_enter Try.func8, Try.ntmps8
          go_wp2_with (first | ((with_reducible refine gate_callee (f := 10) rfl ?_); refine goesL_ (some 14) rfl rfl Try.func10 (by kernel_rfl) rfl #[] rfl (by (try simp only [List.map_toArray, List.map_cons, List.map_nil]); first | done | rfl | (simp only [List.length_drop, List.length_take]; rfl) | (simp (disch := omega) only [IntWalk.u64_in, IntWalk.i64_in, IntWalk.u8_in]; rfl)) ?_; (with_reducible refine (screelaw04_awake.calls k  true _ A3.out).mono ?_); rintro e w9 ⟨rfl, hb⟩; refine ⟨_, rfl, ?_⟩; have n0_ := Aside0.mk (below_step (by repeat (first | (with_reducible first | exact HB.out | apply below_alloc | apply pw_below_drewN | apply below_drew1) | exact HB.out)) hb); clear HB; have HB := n0_; clear n0_; (try clear hb); (try clear hb2); (try clear hk); (try clear hi); (try clear A3)) | ((with_reducible refine gate_dst (N := 16) rfl ?_); (try (refine gate_guard (by rfl) ?_; dsimp only)); refine Kd.R_lit Kd.string _ 9 ?hg (N := 16) ?hd (xs := ([] : List ByteArray)) (inner := []) (ok := fun _ => True) (okp := fun _ => True) ?hr ?hp (fun _ hk => hk) trivial (Below.refl _ _) (Nat.le_refl _) (by simp) ?_; (case hd => rfl); (case hg => rfl); (case hr => first | (go_simp; done) | (go_simp; rfl)); (case hp => exact (Reps.none _ _)); intro v245 w10 ho11 hb hg_ hnew_; clear hg_ hnew_; (first | rw [← Ny244.out] at ho11 | (simp only [Int.reduceToNat] at ho11; rw [← Ny244.out] at ho11)); have n0_ := Aside0.mk (Kd.R_lower ho11 (below_size (by repeat (first | (with_reducible first | exact HB.out | apply below_alloc | apply pw_below_drewN | apply below_drew1) | exact HB.out)))); have n1_ := Aside0.mk (below_step (by repeat (first | (with_reducible first | exact HB.out | apply below_alloc | apply pw_below_drewN | apply below_drew1) | exact HB.out)) hb); clear HB; have HO246 := n0_; have HB := n1_; clear n0_ n1_; clear hb ho11) | ((with_reducible refine gate_builtin (b := .append) (xs := #[.tmp 16, .tmp 17]) rfl ?_); (try (refine gate_guard (by rfl) ?_; dsimp only)); at_builtin; refine Kd.R_append_rows Kd.string (w0 := w) w.heap.size rfl (.tmp 16) (.tmp 17) 22 9 (.string ⟨#[]⟩) 16 rfl Try.underlying22 info9 rfl (by decide) (by omega) v245 y244 l0 _ _ _ (fun _ => True) (fun _ => False) rfl rfl ?aO ?aR (fun _ _ h => h) (fun _ h => h.elim) ?aF ?aB ?aS ?aL ?_; (case aR => repeat (first | exact (Kd.C_below HR0.out HB.out) | (with_reducible refine Kd.C_alloc ?_ _) | (with_reducible refine Kd.C_drewN ?_ _) | (with_reducible refine Kd.C_drew ?_))); (case aB => exact (by repeat (first | (with_reducible first | exact HB.out | apply below_alloc | apply pw_below_drewN | apply below_drew1) | exact HB.out))); (case aF => exact (fun _ _ => trivial)); (case aO => exact (by (with_reducible repeat (first | apply Kd.R_alloc | apply Kd.R_drewN | apply Kd.R_drew)); exact HO246.out)); (case aS => exact (below_size (by repeat (first | (with_reducible first | exact HB.out | apply below_alloc | apply pw_below_drewN | apply below_drew1) | exact HB.out)))); (case aL => have := LMc5.out; omega); intro v248 w12 ho hb hg hat; rw [← Ny247.out] at ho; have n0_ := Aside0.mk (hb); have n1_ := Aside0.mk (ho); clear HB; clear HO246; have HB := n0_; have HO249 := n1_; clear n0_ n1_; clear ho hb hg hat) | ((with_reducible refine gate_builtin (b := .append) (xs := #[.tmp 18, .tmp 19]) rfl ?_); (try (refine gate_guard (by rfl) ?_; dsimp only)); at_builtin; refine Kd.R_append_rows Kd.string (w0 := w) w.heap.size rfl (.tmp 18) (.tmp 19) 22 9 (.string ⟨#[]⟩) 16 rfl Try.underlying22 info9 rfl (by decide) (by omega) v248 y247 l1 _ _ _ (fun _ => True) (fun _ => False) rfl rfl ?aO ?aR (fun _ _ h => h) (fun _ h => h.elim) ?aF ?aB ?aS ?aL ?_; (case aR => repeat (first | exact (Kd.C_below HR1.out HB.out) | (with_reducible refine Kd.C_alloc ?_ _) | (with_reducible refine Kd.C_drewN ?_ _) | (with_reducible refine Kd.C_drew ?_))); (case aB => exact (by repeat (first | (with_reducible first | exact HB.out | apply below_alloc | apply pw_below_drewN | apply below_drew1) | exact HB.out))); (case aF => exact (fun _ _ => trivial)); (case aO => exact (by (with_reducible repeat (first | apply Kd.R_alloc | apply Kd.R_drewN | apply Kd.R_drew)); exact HO249.out)); (case aS => exact (below_size (by repeat (first | (with_reducible first | exact HB.out | apply below_alloc | apply pw_below_drewN | apply below_drew1) | exact HB.out)))); (case aL => have := LMc6.out; omega); intro v251 w13 ho hb hg hat; rw [← Ny250.out] at ho; have n0_ := Aside0.mk (hb); have n1_ := Aside0.mk (ho); clear HB; clear HO249; have HB := n0_; have HO252 := n1_; clear n0_ n1_; clear ho hb hg hat; obtain ⟨Ao14, co14, eo14⟩ := Kd.R_slice HO252.out; subst eo14) | ((with_reducible refine gate_callee (f := 11) rfl ?_); refine goesL_ (some 22) rfl rfl Try.func11 (by kernel_rfl) rfl #[.slice Ao14 y250.length co14] rfl (by (try simp only [List.map_toArray, List.map_cons, List.map_nil]); first | done | rfl | (simp only [List.length_drop, List.length_take]; rfl) | (simp (disch := omega) only [IntWalk.u64_in, IntWalk.i64_in, IntWalk.u8_in]; rfl)) ?_; (with_reducible refine (screelaw04_large.calls k _ _ y250 true _ ?side1 ?side2 A7.out).mono ?_); (case side1 => repeat (first | exact (Kd.R_reads' HO252.out).2.2 | (with_reducible refine Kd.C_alloc ?_ _) | (with_reducible refine Kd.C_drewN ?_ _) | (with_reducible refine Kd.C_drew ?_))); (case side2 => exact (Kd.R_reads' HO252.out).2.1); rintro e w' ⟨rfl, ⟨nd, rfl⟩⟩; refine ⟨_, rfl, ?_⟩))
          go_ret
          exact ⟨by first | rfl | (simp [errW_none, errW_some] <;> rfl) | (simp (disch := omega) only [← i64_w, IntWalk.i64_in]; rfl) | (simp [*, errW_none, errW_some] <;> rfl), by repeat (first | (with_reducible first | exact HB.out | apply below_alloc | apply pw_below_drewN | apply below_drew1) | exact HB.out)⟩
        · replace c8 := Bool.eq_false_iff.mpr c8
          subst c8
          have H1 : ((frame_Join.f k l0).bind fun bt254 => ((frame_Join.f k l1).bind fun bt256 => ((frame_Join.f k y250).bind fun bt258 => (if bt254.2 = 0 then (screelaw04_FrameJoins.j0 k y250 bt254.1 bt256.1 bt258.1 bt258.2 (bt256.2 != 0)) else (screelaw04_FrameJoins.j0 k y250 bt254.1 bt256.1 bt258.1 bt258.2 true))))) = some r := by rw [if_neg (show ¬ (false = true) by decide)] at H; exact H
          clear H
          have H := H1
          clear H1
          replace H := Option.bind_eq_some_iff.mp H
          obtain ⟨⟨t254, t255⟩, A150, H⟩ := H
          replace H : ((frame_Join.f k l1).bind fun bt256 => ((frame_Join.f k y250).bind fun bt258 => (if t255 = 0 then (screelaw04_FrameJoins.j0 k y250 t254 bt256.1 bt258.1 bt258.2 (bt256.2 != 0)) else (screelaw04_FrameJoins.j0 k y250 t254 bt256.1 bt258.1 bt258.2 true)))) = some r := H
          have A15 := Aside0.mk A150
          clear A150
          replace H := Option.bind_eq_some_iff.mp H
          obtain ⟨⟨t256, t257⟩, A160, H⟩ := H
          replace H : ((frame_Join.f k y250).bind fun bt258 => (if t255 = 0 then (screelaw04_FrameJoins.j0 k y250 t254 t256 bt258.1 bt258.2 (t257 != 0)) else (screelaw04_FrameJoins.j0 k y250 t254 t256 bt258.1 bt258.2 true))) = some r := H
          have A16 := Aside0.mk A160
          clear A160
          replace H := Option.bind_eq_some_iff.mp H
          obtain ⟨⟨t258, t259⟩, A170, H⟩ := H
          replace H : (if t255 = 0 then (screelaw04_FrameJoins.j0 k y250 t254 t256 t258 t259 (t257 != 0)) else (screelaw04_FrameJoins.j0 k y250 t254 t256 t258 t259 true)) = some r := H
          have A17 := Aside0.mk A170
          clear A170
          have HC18 := Aside0.mk H
          clear H
          go_enter Try.func8, Try.ntmps8
          go_upto_region 9 with (first | ((with_reducible refine gate_callee (f := 10) rfl ?_); refine goesL_ (some 14) rfl rfl Try.func10 (by kernel_rfl) rfl #[] rfl (by (try simp only [List.map_toArray, List.map_cons, List.map_nil]); first | done | rfl | (simp only [List.length_drop, List.length_take]; rfl) | (simp (disch := omega) only [IntWalk.u64_in, IntWalk.i64_in, IntWalk.u8_in]; rfl)) ?_; (with_reducible refine (screelaw04_awake.calls k  true _ A3.out).mono ?_); rintro e w19 ⟨rfl, hb⟩; refine ⟨_, rfl, ?_⟩; have n0_ := Aside0.mk (below_step (by repeat (first | (with_reducible first | exact HB.out | apply below_alloc | apply pw_below_drewN | apply below_drew1) | exact HB.out)) hb); clear HB; have HB := n0_; clear n0_; (try clear hb); (try clear hb2); (try clear hk); (try clear hi); (try clear A3)) | ((with_reducible refine gate_dst (N := 16) rfl ?_); (try (refine gate_guard (by rfl) ?_; dsimp only)); refine Kd.R_lit Kd.string _ 9 ?hg (N := 16) ?hd (xs := ([] : List ByteArray)) (inner := []) (ok := fun _ => True) (okp := fun _ => True) ?hr ?hp (fun _ hk => hk) trivial (Below.refl _ _) (Nat.le_refl _) (by simp) ?_; (case hd => rfl); (case hg => rfl); (case hr => first | (go_simp; done) | (go_simp; rfl)); (case hp => exact (Reps.none _ _)); intro v245 w20 ho21 hb hg_ hnew_; clear hg_ hnew_; (first | rw [← Ny244.out] at ho21 | (simp only [Int.reduceToNat] at ho21; rw [← Ny244.out] at ho21)); have n0_ := Aside0.mk (Kd.R_lower ho21 (below_size (by repeat (first | (with_reducible first | exact HB.out | apply below_alloc | apply pw_below_drewN | apply below_drew1) | exact HB.out)))); have n1_ := Aside0.mk (below_step (by repeat (first | (with_reducible first | exact HB.out | apply below_alloc | apply pw_below_drewN | apply below_drew1) | exact HB.out)) hb); clear HB; have HO246 := n0_; have HB := n1_; clear n0_ n1_; clear hb ho21) | ((with_reducible refine gate_builtin (b := .append) (xs := #[.tmp 16, .tmp 17]) rfl ?_); (try (refine gate_guard (by rfl) ?_; dsimp only)); at_builtin; refine Kd.R_append_rows Kd.string (w0 := w) w.heap.size rfl (.tmp 16) (.tmp 17) 22 9 (.string ⟨#[]⟩) 16 rfl Try.underlying22 info9 rfl (by decide) (by omega) v245 y244 l0 _ _ _ (fun _ => True) (fun _ => False) rfl rfl ?aO ?aR (fun _ _ h => h) (fun _ h => h.elim) ?aF ?aB ?aS ?aL ?_; (case aR => repeat (first | exact (Kd.C_below HR0.out HB.out) | (with_reducible refine Kd.C_alloc ?_ _) | (with_reducible refine Kd.C_drewN ?_ _) | (with_reducible refine Kd.C_drew ?_))); (case aB => exact (by repeat (first | (with_reducible first | exact HB.out | apply below_alloc | apply pw_below_drewN | apply below_drew1) | exact HB.out))); (case aF => exact (fun _ _ => trivial)); (case aO => exact (by (with_reducible repeat (first | apply Kd.R_alloc | apply Kd.R_drewN | apply Kd.R_drew)); exact HO246.out)); (case aS => exact (below_size (by repeat (first | (with_reducible first | exact HB.out | apply below_alloc | apply pw_below_drewN | apply below_drew1) | exact HB.out)))); (case aL => have := LMc5.out; omega); intro v248 w22 ho hb hg hat; rw [← Ny247.out] at ho; have n0_ := Aside0.mk (hb); have n1_ := Aside0.mk (ho); clear HB; clear HO246; have HB := n0_; have HO249 := n1_; clear n0_ n1_; clear ho hb hg hat) | ((with_reducible refine gate_builtin (b := .append) (xs := #[.tmp 18, .tmp 19]) rfl ?_); (try (refine gate_guard (by rfl) ?_; dsimp only)); at_builtin; refine Kd.R_append_rows Kd.string (w0 := w) w.heap.size rfl (.tmp 18) (.tmp 19) 22 9 (.string ⟨#[]⟩) 16 rfl Try.underlying22 info9 rfl (by decide) (by omega) v248 y247 l1 _ _ _ (fun _ => True) (fun _ => False) rfl rfl ?aO ?aR (fun _ _ h => h) (fun _ h => h.elim) ?aF ?aB ?aS ?aL ?_; (case aR => repeat (first | exact (Kd.C_below HR1.out HB.out) | (with_reducible refine Kd.C_alloc ?_ _) | (with_reducible refine Kd.C_drewN ?_ _) | (with_reducible refine Kd.C_drew ?_))); (case aB => exact (by repeat (first | (with_reducible first | exact HB.out | apply below_alloc | apply pw_below_drewN | apply below_drew1) | exact HB.out))); (case aF => exact (fun _ _ => trivial)); (case aO => exact (by (with_reducible repeat (first | apply Kd.R_alloc | apply Kd.R_drewN | apply Kd.R_drew)); exact HO249.out)); (case aS => exact (below_size (by repeat (first | (with_reducible first | exact HB.out | apply below_alloc | apply pw_below_drewN | apply below_drew1) | exact HB.out)))); (case aL => have := LMc6.out; omega); intro v251 w23 ho hb hg hat; rw [← Ny250.out] at ho; have n0_ := Aside0.mk (hb); have n1_ := Aside0.mk (ho); clear HB; clear HO249; have HB := n0_; have HO252 := n1_; clear n0_ n1_; clear ho hb hg hat; obtain ⟨Ao24, co24, eo24⟩ := Kd.R_slice HO252.out; subst eo24) | ((with_reducible refine gate_callee (f := 11) rfl ?_); refine goesL_ (some 22) rfl rfl Try.func11 (by kernel_rfl) rfl #[.slice Ao24 y250.length co24] rfl (by (try simp only [List.map_toArray, List.map_cons, List.map_nil]); first | done | rfl | (simp only [List.length_drop, List.length_take]; rfl) | (simp (disch := omega) only [IntWalk.u64_in, IntWalk.i64_in, IntWalk.u8_in]; rfl)) ?_; (with_reducible refine (screelaw04_large.calls k _ _ y250 false _ ?side1 ?side2 A7.out).mono ?_); (case side1 => repeat (first | exact (Kd.R_reads' HO252.out).2.2 | (with_reducible refine Kd.C_alloc ?_ _) | (with_reducible refine Kd.C_drewN ?_ _) | (with_reducible refine Kd.C_drew ?_))); (case side2 => exact (Kd.R_reads' HO252.out).2.1); rintro e w' ⟨rfl, ⟨nd, rfl⟩⟩; refine ⟨_, rfl, ?_⟩) | ((with_reducible refine gate_callee (f := 17) rfl ?_); refine goesL_ (some 25) rfl rfl Try.func17 (by kernel_rfl) rfl #[.slice A0 l0.length c0] rfl (by (try simp only [List.map_toArray, List.map_cons, List.map_nil]); first | done | rfl | (simp only [List.length_drop, List.length_take]; rfl) | (simp (disch := omega) only [IntWalk.u64_in, IntWalk.i64_in, IntWalk.u8_in]; rfl)) ?_; (with_reducible refine (frame_Join.calls k _ _ l0 t254 t255 _ ?side1 ?side2 A15.out).mono ?_); (case side1 => repeat (first | exact (Kd.C_below HR0.out (by repeat (first | (with_reducible first | exact HB.out | apply below_alloc | apply pw_below_drewN | apply below_drew1) | exact HB.out))) | (with_reducible refine Kd.C_alloc ?_ _) | (with_reducible refine Kd.C_drewN ?_ _) | (with_reducible refine Kd.C_drew ?_))); (case side2 => exact HC0.out); rintro e w25 ⟨rfl, hb⟩; refine ⟨_, rfl, ?_⟩; have n0_ := Aside0.mk (Kd.R_below (by (with_reducible repeat (first | apply Kd.R_alloc | apply Kd.R_drewN | apply Kd.R_drew)); exact HO252.out) hb); have n1_ := Aside0.mk (below_step (by repeat (first | (with_reducible first | exact HB.out | apply below_alloc | apply pw_below_drewN | apply below_drew1) | exact HB.out)) hb); clear HO252; clear HB; have HO252 := n0_; have HB := n1_; clear n0_ n1_; (try clear hb); (try clear hb2); (try clear hk); (try clear hi); (try clear A15)) | ((with_reducible refine gate_callee (f := 17) rfl ?_); refine goesL_ (some 30) rfl rfl Try.func17 (by kernel_rfl) rfl #[.slice A1 l1.length c1] rfl (by (try simp only [List.map_toArray, List.map_cons, List.map_nil]); first | done | rfl | (simp only [List.length_drop, List.length_take]; rfl) | (simp (disch := omega) only [IntWalk.u64_in, IntWalk.i64_in, IntWalk.u8_in]; rfl)) ?_; (with_reducible refine (frame_Join.calls k _ _ l1 t256 t257 _ ?side1 ?side2 A16.out).mono ?_); (case side1 => repeat (first | exact (Kd.C_below HR1.out HB.out) | (with_reducible refine Kd.C_alloc ?_ _) | (with_reducible refine Kd.C_drewN ?_ _) | (with_reducible refine Kd.C_drew ?_))); (case side2 => exact HC1.out); rintro e w26 ⟨rfl, hb⟩; refine ⟨_, rfl, ?_⟩; have n0_ := Aside0.mk (Kd.R_below (by (with_reducible repeat (first | apply Kd.R_alloc | apply Kd.R_drewN | apply Kd.R_drew)); exact HO252.out) hb); have n1_ := Aside0.mk (below_step (by repeat (first | (with_reducible first | exact HB.out | apply below_alloc | apply pw_below_drewN | apply below_drew1) | exact HB.out)) hb); clear HO252; clear HB; have HO252 := n0_; have HB := n1_; clear n0_ n1_; (try clear hb); (try clear hb2); (try clear hk); (try clear hi); (try clear A16)) | ((with_reducible refine gate_callee (f := 17) rfl ?_); refine goesL_ (some 35) rfl rfl Try.func17 (by kernel_rfl) rfl #[.slice Ao24 y250.length co24] rfl (by (try simp only [List.map_toArray, List.map_cons, List.map_nil]); first | done | rfl | (simp only [List.length_drop, List.length_take]; rfl) | (simp (disch := omega) only [IntWalk.u64_in, IntWalk.i64_in, IntWalk.u8_in]; rfl)) ?_; (with_reducible refine (frame_Join.calls k _ _ y250 t258 t259 _ ?side1 ?side2 A17.out).mono ?_); (case side1 => repeat (first | exact (Kd.R_reads' HO252.out).2.2 | (with_reducible refine Kd.C_alloc ?_ _) | (with_reducible refine Kd.C_drewN ?_ _) | (with_reducible refine Kd.C_drew ?_))); (case side2 => exact (Kd.R_reads' HO252.out).2.1); rintro e w27 ⟨rfl, hb⟩; refine ⟨_, rfl, ?_⟩; have n0_ := Aside0.mk (Kd.R_below (by (with_reducible repeat (first | apply Kd.R_alloc | apply Kd.R_drewN | apply Kd.R_drew)); exact HO252.out) hb); have n1_ := Aside0.mk (below_step (by repeat (first | (with_reducible first | exact HB.out | apply below_alloc | apply pw_below_drewN | apply below_drew1) | exact HB.out)) hb); clear HO252; clear HB; have HO252 := n0_; have HB := n1_; clear n0_ n1_; (try clear hb); (try clear hb2); (try clear hk); (try clear hi); (try clear A17)))
          (try simp only [Act.put, List.setIfInBounds_toArray, List.set_cons_zero, List.set_cons_succ])
          go_cut [43] (fun v43 wc => ∃ (kq : Nat) (x43_17 : Bool), v43 = .bool x43_17 ∧ Aside0 (screelaw04_FrameJoins.j0 kq y250 t254 t256 t258 t259 x43_17 = some r) ∧ Aside0 (kq ≤ k) ∧ Aside0 (Kd.R Kd.string 9 wc w.heap.size (fun _ => True) (.slice Ao24 y250.length co24) y250) ∧ Aside0 (Below w.heap.size w wc))
          case first =>
            have H := HC18.out
            clear HC18
            by_cases c28 : t255 = 0
            · rw [if_pos c28] at H
              have c28b0 : (t255 == 0) = true := beq_iff_eq.mpr c28
              have c28b1 : (t255 != 0) = false := bne_eq_false_iff_eq.mpr c28
              clear c28
              (first | rw [c28b0] | (simp only [i64_w, i32_w]; rw [c28b0]) | skip)
              have H' := Aside0.mk H
              clear H
              go_wp2
              go_meet
              case rel => exact ⟨_, ((t257 != 0)), (by first | rfl | (simp; done) | (simp [*]; done)), (by first | (with_reducible exact H') | exact H' | (subst_vars; exact H')), ⟨by first | omega | exact Nat.le_refl _⟩, ⟨by (with_reducible repeat (first | apply Kd.R_alloc | apply Kd.R_drewN | apply Kd.R_drew)); exact HO252.out⟩, ⟨by repeat (first | (with_reducible first | exact HB.out | apply below_alloc | apply pw_below_drewN | apply below_drew1) | exact HB.out)⟩⟩
            · rw [if_neg c28] at H
              have c28b0 : (t255 == 0) = false := beq_eq_false_iff_ne.mpr c28
              have c28b1 : (t255 != 0) = true := bne_iff_ne.mpr c28
              (first | rw [c28b0] | (simp only [i64_w, i32_w]; rw [c28b0]) | skip)
              have H' := Aside0.mk H
              clear H
              go_wp2
              go_meet
              case rel => exact ⟨_, (true), (by first | rfl | (simp; done) | (simp [*]; done)), (by first | (with_reducible exact H') | exact H' | (subst_vars; exact H')), ⟨by first | omega | exact Nat.le_refl _⟩, ⟨by (with_reducible repeat (first | apply Kd.R_alloc | apply Kd.R_drewN | apply Kd.R_drew)); exact HO252.out⟩, ⟨by repeat (first | (with_reducible first | exact HB.out | apply below_alloc | apply pw_below_drewN | apply below_drew1) | exact HB.out)⟩⟩
          case rest =>
            clear HC18
            try clear c1
            try clear c2
            try clear p2
            try clear c4
            try clear c5
            try clear c6
            try clear c8
            try clear c10
            try clear c11
            try clear c17
            try clear c28
            try clear c28b0
            try clear c28b1
            obtain ⟨kq, x43_17, rfl, HA, HJ17, HO_5, HB⟩ := hcut
            cases kq with
            | zero => exact absurd HA.out (by simp [screelaw04_FrameJoins.j0])
            | succ kj17 =>
              have H := HA.out
              clear HA
              simp only [screelaw04_FrameJoins.j0] at H
              by_cases c29 : x43_17 = true
              · subst c29
                have H1 : (if t259 = 5 then (some (t258.toList == ([] : List UInt8))) else (some false)) = some r := by rw [if_pos rfl] at H; exact H
                clear H
                have H := H1
                clear H1
                by_cases c30 : t259 = 5
                · rw [if_pos c30] at H
                  have c30b0 : (t259 == 5) = true := beq_iff_eq.mpr c30
                  have c30b1 : (t259 != 5) = false := bne_eq_false_iff_eq.mpr c30
                  clear c30
                  obtain rfl := Option.some.inj H
                  go_wp2
                  go_ret
                  exact ⟨by first | rfl | (simp [errW_none, errW_some] <;> rfl) | (simp (disch := omega) only [← i64_w, IntWalk.i64_in]; rfl) | (simp [*, errW_none, errW_some] <;> rfl), by repeat (first | (with_reducible first | exact HB.out | apply below_alloc | apply pw_below_drewN | apply below_drew1) | exact HB.out)⟩
                · rw [if_neg c30] at H
                  have c30b0 : (t259 == 5) = false := beq_eq_false_iff_ne.mpr c30
                  have c30b1 : (t259 != 5) = true := bne_iff_ne.mpr c30
                  obtain rfl := Option.some.inj H
                  go_wp2
                  go_ret
                  exact ⟨by first | rfl | (simp [errW_none, errW_some] <;> rfl) | (simp (disch := omega) only [← i64_w, IntWalk.i64_in]; rfl) | (simp [*, errW_none, errW_some] <;> rfl), by repeat (first | (with_reducible first | exact HB.out | apply below_alloc | apply pw_below_drewN | apply below_drew1) | exact HB.out)⟩
              · replace c29 := Bool.eq_false_iff.mpr c29
                subst c29
                have H1 : (if t254.size + t256.size ≤ 9223372036854775807 then ((frame_All.f kj17 (t254 ++ t256)).bind fun bt260 => (if t259 = 0 then (if t258.toList = (t254 ++ t256).toList then ((screelaw04_texts.f kj17 bt260.1 y250).bind fun t264 => (if t264 = true then (some (bt260.2 == (wrap64 ((t254.size : Int) + (t256.size : Int))))) else (some false))) else (some false)) else (some false))) else (none)) = some r := by rw [if_neg (show ¬ (false = true) by decide)] at H; exact H
                clear H
                have H := H1
                clear H1
                by_cases c31 : t254.size + t256.size ≤ 9223372036854775807
                · rw [if_pos c31] at H
                  have c31b0 := eq_true c31
                  have c31b1 : decide (t254.size + t256.size ≤ 9223372036854775807) = true := decide_eq_true c31
                  try have c31b2 : (9223372036854775807 < t254.size + t256.size) = False := eq_false (Nat.not_lt.2 c31)
                  try (have c31b3 := c31b2; simp only [ByteArray.size_append] at c31b3)
                  replace H := Option.bind_eq_some_iff.mp H
                  obtain ⟨⟨t260, t261⟩, A320, H⟩ := H
                  replace H : (if t259 = 0 then (if t258.toList = (t254 ++ t256).toList then ((screelaw04_texts.f kj17 t260 y250).bind fun t264 => (if t264 = true then (some (t261 == (wrap64 ((t254.size : Int) + (t256.size : Int))))) else (some false))) else (some false)) else (some false)) = some r := H
                  have A32 := Aside0.mk A320
                  clear A320
                  by_cases c33 : t259 = 0
                  · rw [if_pos c33] at H
                    have c33b0 : (t259 == 0) = true := beq_iff_eq.mpr c33
                    have c33b1 : (t259 != 0) = false := bne_eq_false_iff_eq.mpr c33
                    clear c33
                    by_cases c34 : t258.toList = (t254 ++ t256).toList
                    · rw [if_pos c34] at H
                      have c34b0 : (t258.toList == (t254 ++ t256).toList) = true := beq_iff_eq.mpr c34
                      have c34b1 : (t258.toList != (t254 ++ t256).toList) = false := bne_eq_false_iff_eq.mpr c34
                      clear c34
                      replace H := Option.bind_eq_some_iff.mp H
                      obtain ⟨t264, A350, H⟩ := H
                      replace H : (if t264 = true then (some (t261 == (wrap64 ((t254.size : Int) + (t256.size : Int))))) else (some false)) = some r := H
                      have A35 := Aside0.mk A350
                      clear A350
                      by_cases c36 : t264 = true
                      · subst c36
                        have H1 : (some (t261 == (wrap64 ((t254.size : Int) + (t256.size : Int))))) = some r := by rw [if_pos rfl] at H; exact H
                        clear H
                        have H := H1
                        clear H1
                        obtain rfl := Option.some.inj H
                        go_wp2_with (first | ((with_reducible refine gate_callee (f := 12) rfl ?_); refine goesL_ (some 54) rfl rfl Try.func12 (by kernel_rfl) rfl #[.string (t254 ++ t256)] rfl (by (try simp only [List.map_toArray, List.map_cons, List.map_nil]); first | done | rfl | (simp only [List.length_drop, List.length_take]; rfl) | (simp (disch := omega) only [IntWalk.u64_in, IntWalk.i64_in, IntWalk.u8_in]; rfl)) ?_; (with_reducible refine (frame_All.calls kj17 (t254 ++ t256) t260 t261 _ A32.out).mono ?_); rintro e w37 ⟨v262, rfl, ho0, hb⟩; refine ⟨_, rfl, ?_⟩; have n0_ := Aside0.mk (Kd.R_elder' (by (with_reducible repeat (first | apply Kd.R_alloc | apply Kd.R_drewN | apply Kd.R_drew)); exact HO_5.out) (Kd.R_base ho0) hb); have n1_ := Aside0.mk (Kd.R_lower (Kd.R_new' ho0 (Kd.R_lt (by (with_reducible repeat (first | apply Kd.R_alloc | apply Kd.R_drewN | apply Kd.R_drew)); exact HO_5.out))) (below_size (by repeat (first | (with_reducible first | exact HB.out | apply below_alloc | apply pw_below_drewN | apply below_drew1) | exact HB.out)))); have n2_ := Aside0.mk (below_step (by repeat (first | (with_reducible first | exact HB.out | apply below_alloc | apply pw_below_drewN | apply below_drew1) | exact HB.out)) hb); clear HO_5; clear HB; have HO_5 := n0_; have HO263 := n1_; have HB := n2_; clear n0_ n1_ n2_; (try clear hb); (try clear hb2); (try clear hk); (try clear hi); (try clear ho0); (try clear A32); obtain ⟨Ao38, co38, eo38⟩ := Kd.R_slice HO263.out; subst eo38) | (go_at_call 14; (with_reducible refine (screelaw04_texts.calls kj17 _ _ t260 _ _ y250 true _ ?side1 ?side2 ?side3 ?side4 A35.out).mono ?_); (case side1 => repeat (first | exact (Kd.R_reads' HO263.out).2.2 | (with_reducible refine Kd.C_alloc ?_ _) | (with_reducible refine Kd.C_drewN ?_ _) | (with_reducible refine Kd.C_drew ?_))); (case side2 => exact (Kd.R_reads' HO263.out).2.1); (case side3 => repeat (first | exact (Kd.R_reads' HO_5.out).2.2 | (with_reducible refine Kd.C_alloc ?_ _) | (with_reducible refine Kd.C_drewN ?_ _) | (with_reducible refine Kd.C_drew ?_))); (case side4 => exact (Kd.R_reads' HO_5.out).2.1); rintro e w' ⟨rfl, ⟨nd, rfl⟩⟩))
                        go_ret
                        exact ⟨by first | rfl | (simp [errW_none, errW_some] <;> rfl) | (simp (disch := omega) only [← i64_w, IntWalk.i64_in]; rfl) | (simp [*, errW_none, errW_some] <;> rfl), by repeat (first | (with_reducible first | exact HB.out | apply below_alloc | apply pw_below_drewN | apply below_drew1) | exact HB.out)⟩
                      · replace c36 := Bool.eq_false_iff.mpr c36
                        subst c36
                        have H1 : (some false) = some r := by rw [if_neg (show ¬ (false = true) by decide)] at H; exact H
                        clear H
                        have H := H1
                        clear H1
                        obtain rfl := Option.some.inj H
                        go_wp2_with (first | ((with_reducible refine gate_callee (f := 12) rfl ?_); refine goesL_ (some 54) rfl rfl Try.func12 (by kernel_rfl) rfl #[.string (t254 ++ t256)] rfl (by (try simp only [List.map_toArray, List.map_cons, List.map_nil]); first | done | rfl | (simp only [List.length_drop, List.length_take]; rfl) | (simp (disch := omega) only [IntWalk.u64_in, IntWalk.i64_in, IntWalk.u8_in]; rfl)) ?_; (with_reducible refine (frame_All.calls kj17 (t254 ++ t256) t260 t261 _ A32.out).mono ?_); rintro e w39 ⟨v262, rfl, ho0, hb⟩; refine ⟨_, rfl, ?_⟩; have n0_ := Aside0.mk (Kd.R_elder' (by (with_reducible repeat (first | apply Kd.R_alloc | apply Kd.R_drewN | apply Kd.R_drew)); exact HO_5.out) (Kd.R_base ho0) hb); have n1_ := Aside0.mk (Kd.R_lower (Kd.R_new' ho0 (Kd.R_lt (by (with_reducible repeat (first | apply Kd.R_alloc | apply Kd.R_drewN | apply Kd.R_drew)); exact HO_5.out))) (below_size (by repeat (first | (with_reducible first | exact HB.out | apply below_alloc | apply pw_below_drewN | apply below_drew1) | exact HB.out)))); have n2_ := Aside0.mk (below_step (by repeat (first | (with_reducible first | exact HB.out | apply below_alloc | apply pw_below_drewN | apply below_drew1) | exact HB.out)) hb); clear HO_5; clear HB; have HO_5 := n0_; have HO263 := n1_; have HB := n2_; clear n0_ n1_ n2_; (try clear hb); (try clear hb2); (try clear hk); (try clear hi); (try clear ho0); (try clear A32); obtain ⟨Ao40, co40, eo40⟩ := Kd.R_slice HO263.out; subst eo40) | (go_at_call 14; (with_reducible refine (screelaw04_texts.calls kj17 _ _ t260 _ _ y250 false _ ?side1 ?side2 ?side3 ?side4 A35.out).mono ?_); (case side1 => repeat (first | exact (Kd.R_reads' HO263.out).2.2 | (with_reducible refine Kd.C_alloc ?_ _) | (with_reducible refine Kd.C_drewN ?_ _) | (with_reducible refine Kd.C_drew ?_))); (case side2 => exact (Kd.R_reads' HO263.out).2.1); (case side3 => repeat (first | exact (Kd.R_reads' HO_5.out).2.2 | (with_reducible refine Kd.C_alloc ?_ _) | (with_reducible refine Kd.C_drewN ?_ _) | (with_reducible refine Kd.C_drew ?_))); (case side4 => exact (Kd.R_reads' HO_5.out).2.1); rintro e w' ⟨rfl, ⟨nd, rfl⟩⟩))
                        go_ret
                        exact ⟨by first | rfl | (simp [errW_none, errW_some] <;> rfl) | (simp (disch := omega) only [← i64_w, IntWalk.i64_in]; rfl) | (simp [*, errW_none, errW_some] <;> rfl), by repeat (first | (with_reducible first | exact HB.out | apply below_alloc | apply pw_below_drewN | apply below_drew1) | exact HB.out)⟩
                    · rw [if_neg c34] at H
                      have c34b0 : (t258.toList == (t254 ++ t256).toList) = false := beq_eq_false_iff_ne.mpr c34
                      have c34b1 : (t258.toList != (t254 ++ t256).toList) = true := bne_iff_ne.mpr c34
                      obtain rfl := Option.some.inj H
                      go_wp2_with (first | ((with_reducible refine gate_callee (f := 12) rfl ?_); refine goesL_ (some 54) rfl rfl Try.func12 (by kernel_rfl) rfl #[.string (t254 ++ t256)] rfl (by (try simp only [List.map_toArray, List.map_cons, List.map_nil]); first | done | rfl | (simp only [List.length_drop, List.length_take]; rfl) | (simp (disch := omega) only [IntWalk.u64_in, IntWalk.i64_in, IntWalk.u8_in]; rfl)) ?_; (with_reducible refine (frame_All.calls kj17 (t254 ++ t256) t260 t261 _ A32.out).mono ?_); rintro e w41 ⟨v262, rfl, ho0, hb⟩; refine ⟨_, rfl, ?_⟩; have n0_ := Aside0.mk (Kd.R_elder' (by (with_reducible repeat (first | apply Kd.R_alloc | apply Kd.R_drewN | apply Kd.R_drew)); exact HO_5.out) (Kd.R_base ho0) hb); have n1_ := Aside0.mk (Kd.R_lower (Kd.R_new' ho0 (Kd.R_lt (by (with_reducible repeat (first | apply Kd.R_alloc | apply Kd.R_drewN | apply Kd.R_drew)); exact HO_5.out))) (below_size (by repeat (first | (with_reducible first | exact HB.out | apply below_alloc | apply pw_below_drewN | apply below_drew1) | exact HB.out)))); have n2_ := Aside0.mk (below_step (by repeat (first | (with_reducible first | exact HB.out | apply below_alloc | apply pw_below_drewN | apply below_drew1) | exact HB.out)) hb); clear HO_5; clear HB; have HO_5 := n0_; have HO263 := n1_; have HB := n2_; clear n0_ n1_ n2_; (try clear hb); (try clear hb2); (try clear hk); (try clear hi); (try clear ho0); (try clear A32)))
                      go_ret
                      exact ⟨by first | rfl | (simp [errW_none, errW_some] <;> rfl) | (simp (disch := omega) only [← i64_w, IntWalk.i64_in]; rfl) | (simp [*, errW_none, errW_some] <;> rfl), by repeat (first | (with_reducible first | exact HB.out | apply below_alloc | apply pw_below_drewN | apply below_drew1) | exact HB.out)⟩
                  · rw [if_neg c33] at H
                    have c33b0 : (t259 == 0) = false := beq_eq_false_iff_ne.mpr c33
                    have c33b1 : (t259 != 0) = true := bne_iff_ne.mpr c33
                    obtain rfl := Option.some.inj H
                    go_wp2_with (first | ((with_reducible refine gate_callee (f := 12) rfl ?_); refine goesL_ (some 54) rfl rfl Try.func12 (by kernel_rfl) rfl #[.string (t254 ++ t256)] rfl (by (try simp only [List.map_toArray, List.map_cons, List.map_nil]); first | done | rfl | (simp only [List.length_drop, List.length_take]; rfl) | (simp (disch := omega) only [IntWalk.u64_in, IntWalk.i64_in, IntWalk.u8_in]; rfl)) ?_; (with_reducible refine (frame_All.calls kj17 (t254 ++ t256) t260 t261 _ A32.out).mono ?_); rintro e w42 ⟨v262, rfl, ho0, hb⟩; refine ⟨_, rfl, ?_⟩; have n0_ := Aside0.mk (Kd.R_elder' (by (with_reducible repeat (first | apply Kd.R_alloc | apply Kd.R_drewN | apply Kd.R_drew)); exact HO_5.out) (Kd.R_base ho0) hb); have n1_ := Aside0.mk (Kd.R_lower (Kd.R_new' ho0 (Kd.R_lt (by (with_reducible repeat (first | apply Kd.R_alloc | apply Kd.R_drewN | apply Kd.R_drew)); exact HO_5.out))) (below_size (by repeat (first | (with_reducible first | exact HB.out | apply below_alloc | apply pw_below_drewN | apply below_drew1) | exact HB.out)))); have n2_ := Aside0.mk (below_step (by repeat (first | (with_reducible first | exact HB.out | apply below_alloc | apply pw_below_drewN | apply below_drew1) | exact HB.out)) hb); clear HO_5; clear HB; have HO_5 := n0_; have HO263 := n1_; have HB := n2_; clear n0_ n1_ n2_; (try clear hb); (try clear hb2); (try clear hk); (try clear hi); (try clear ho0); (try clear A32)))
                    go_ret
                    exact ⟨by first | rfl | (simp [errW_none, errW_some] <;> rfl) | (simp (disch := omega) only [← i64_w, IntWalk.i64_in]; rfl) | (simp [*, errW_none, errW_some] <;> rfl), by repeat (first | (with_reducible first | exact HB.out | apply below_alloc | apply pw_below_drewN | apply below_drew1) | exact HB.out)⟩
                · rw [if_neg c31] at H
                  exact absurd H (by simp)
      · rw [if_neg c6] at H
        exact absurd H (by simp)
    · rw [if_neg c5] at H
      exact absurd H (by simp)
  · replace c4 := Bool.eq_false_iff.mpr c4
    subst c4
    have H1 : (some false) = some r := by rw [if_neg (show ¬ (false = true) by decide)] at H; exact H
    clear H
    have H := H1
    clear H1
    obtain rfl := Option.some.inj H
    go_enter Try.func8, Try.ntmps8
    go_wp2_with (first | ((with_reducible refine gate_callee (f := 10) rfl ?_); refine goesL_ (some 14) rfl rfl Try.func10 (by kernel_rfl) rfl #[] rfl (by (try simp only [List.map_toArray, List.map_cons, List.map_nil]); first | done | rfl | (simp only [List.length_drop, List.length_take]; rfl) | (simp (disch := omega) only [IntWalk.u64_in, IntWalk.i64_in, IntWalk.u8_in]; rfl)) ?_; (with_reducible refine (screelaw04_awake.calls k  false _ A3.out).mono ?_); rintro e w43 ⟨rfl, hb⟩; refine ⟨_, rfl, ?_⟩; have n0_ := Aside0.mk (below_step (by repeat (first | (with_reducible first | exact HB.out | apply below_alloc | apply pw_below_drewN | apply below_drew1) | exact HB.out)) hb); clear HB; have HB := n0_; clear n0_; (try clear hb); (try clear hb2); (try clear hk); (try clear hi); (try clear A3)))
    go_ret
    exact ⟨by first | rfl | (simp [errW_none, errW_some] <;> rfl) | (simp (disch := omega) only [← i64_w, IntWalk.i64_in]; rfl) | (simp [*, errW_none, errW_some] <;> rfl), by repeat (first | (with_reducible first | exact HB.out | apply below_alloc | apply pw_below_drewN | apply below_drew1) | exact HB.out)⟩

end Go.Proofs.Ytkdecekmnbbbhaa.P
