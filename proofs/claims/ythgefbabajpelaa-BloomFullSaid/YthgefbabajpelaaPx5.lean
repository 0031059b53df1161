-- Printed by a program of this session's own (wip/tools/pprint.sh, over the kit's print, with given contracts): not typed by hand.
import Derived.Test.YthgefbabajpelaaPx0
import Derived.Test.YthgefbabajpelaaPx1
import Derived.Test.YthgefbabajpelaaPx2
namespace Go.Proofs.Ythgefbabajpelaa.P
open Go.RowKit Go.Proofs.YthgefbabajpelaaW.PrintWords Go.Proofs.YthgefbabajpelaaW.PrintLast Go.Proofs.YthgefbabajpelaaW.PrintMore
attribute [local go_sem] max2_int min2_int max_two min_two max_three min_three max_four min_four   -- for this text's walks alone
set_option linter.unusedVariables false
set_option linter.unusedSimpArgs false

/-! ### screelaw10_BloomHas: function 4 -/
mutual
def screelaw10_BloomHas.j0 : Nat → List ByteArray → Bool → Option (Bool)
  | 0, _, _ => none
  | k + 1, x0, x14 => if x14 = true then (some true) else ((bloom_Make.f k x0).bind fun bt176 => (if bt176.2 = 0 then (screelaw10_BloomHas.j1 k x0 bt176.1 ((bt176.1.size : Int) != (wrap64 ((x0.length : Int) + 1)))) else (screelaw10_BloomHas.j1 k x0 bt176.1 true)))
def screelaw10_BloomHas.j1 : Nat → List ByteArray → ByteArray → Bool → Option (Bool)
  | 0, _, _, _ => none
  | k + 1, x0, x3, x29 => if x29 = true then (none) else (screelaw10_BloomHas.l0 k x0 x3 (x0.length : Int) 0)
def screelaw10_BloomHas.l0 : Nat → List ByteArray → ByteArray → Int → Int → Option (Bool)
  | 0, _, _, _, _ => none
  | k + 1, x0, x3, x31, x32 => if x32 < x31 then (if 0 ≤ x32 then (if x32 < (x0.length : Int) then ((bloom_May.f k x3 (rdOf ByteArray.empty x0 x32)).bind fun t179 => (if t179 = true then (screelaw10_BloomHas.l0 k x0 x3 x31 (wrap64 (x32 + 1))) else (none))) else (none)) else (none)) else ((bloom_Full.f k x3).bind fun t180 => (if t180 ≤ (wrap64 (4 * (x0.length : Int))) then ((bloom_Full.f k x3).bind fun t181 => (some (((x0.length : Int) == 0) == (t181 == 0)))) else (none)))
end
def screelaw10_BloomHas.f (k : Nat) (l0 : List ByteArray) : Option (Bool) := (screelaw10_awake.f k).bind fun t174 => (if t174 = true then ((screelaw10_large.f k l0).bind fun t175 => (if t175 = true then (screelaw10_BloomHas.j0 k l0 true) else (screelaw10_BloomHas.j0 k l0 (decide ((l0.length : Int) > 1000))))) else (none))
theorem screelaw10_BloomHas.mono_l : ∀ k, (∀ y0 y1, LeO (screelaw10_BloomHas.j0 k y0 y1) (screelaw10_BloomHas.j0 (k + 1) y0 y1)) ∧ (∀ y0 y1 y2, LeO (screelaw10_BloomHas.j1 k y0 y1 y2) (screelaw10_BloomHas.j1 (k + 1) y0 y1 y2)) ∧ (∀ y0 y1 y2 y3, LeO (screelaw10_BloomHas.l0 k y0 y1 y2 y3) (screelaw10_BloomHas.l0 (k + 1) y0 y1 y2 y3))
  | 0 => ⟨fun _ _ r h => by simp [screelaw10_BloomHas.j0] at h, fun _ _ _ r h => by simp [screelaw10_BloomHas.j1] at h, fun _ _ _ _ r h => by simp [screelaw10_BloomHas.l0] at h⟩
  | k + 1 => by
    obtain ⟨ih0, ih1, ih2⟩ := screelaw10_BloomHas.mono_l k
    refine ⟨?_, ?_, ?_⟩
    · intro y0 y1
      unfold screelaw10_BloomHas.j0
      repeat' first
      | (with_reducible exact ih0 _ _)
      | (with_reducible exact ih1 _ _ _)
      | (with_reducible exact ih2 _ _ _ _)
      | (with_reducible exact bloom_Full.mono _ _)
      | (with_reducible exact bloom_Make.mono _ _)
      | (with_reducible exact bloom_May.mono _ _ _)
      | (with_reducible exact screelaw10_awake.mono _)
      | (with_reducible exact screelaw10_large.mono _ _)
      | (with_reducible exact LeO.refl _)
      | (with_reducible exact LeO.none _)
      | (with_reducible refine LeO.ite ?_ ?_)
      | (with_reducible refine LeO.bind ?_ (fun _ => ?_))
      | exact ih0 _ _
      | exact ih1 _ _ _
      | exact ih2 _ _ _ _
      | exact bloom_Full.mono _ _
      | exact bloom_Make.mono _ _
      | exact bloom_May.mono _ _ _
      | exact screelaw10_awake.mono _
      | exact screelaw10_large.mono _ _
      | exact LeO.none _
      | refine LeO.ite ?_ ?_
      | refine LeO.bind ?_ (fun _ => ?_)
    · intro y0 y1 y2
      unfold screelaw10_BloomHas.j1
      repeat' first
      | (with_reducible exact ih0 _ _)
      | (with_reducible exact ih1 _ _ _)
      | (with_reducible exact ih2 _ _ _ _)
      | (with_reducible exact bloom_Full.mono _ _)
      | (with_reducible exact bloom_Make.mono _ _)
      | (with_reducible exact bloom_May.mono _ _ _)
      | (with_reducible exact screelaw10_awake.mono _)
      | (with_reducible exact screelaw10_large.mono _ _)
      | (with_reducible exact LeO.refl _)
      | (with_reducible exact LeO.none _)
      | (with_reducible refine LeO.ite ?_ ?_)
      | (with_reducible refine LeO.bind ?_ (fun _ => ?_))
      | exact ih0 _ _
      | exact ih1 _ _ _
      | exact ih2 _ _ _ _
      | exact bloom_Full.mono _ _
      | exact bloom_Make.mono _ _
      | exact bloom_May.mono _ _ _
      | exact screelaw10_awake.mono _
      | exact screelaw10_large.mono _ _
      | exact LeO.none _
      | refine LeO.ite ?_ ?_
      | refine LeO.bind ?_ (fun _ => ?_)
    · intro y0 y1 y2 y3
      unfold screelaw10_BloomHas.l0
      repeat' first
      | (with_reducible exact ih0 _ _)
      | (with_reducible exact ih1 _ _ _)
      | (with_reducible exact ih2 _ _ _ _)
      | (with_reducible exact bloom_Full.mono _ _)
      | (with_reducible exact bloom_Make.mono _ _)
      | (with_reducible exact bloom_May.mono _ _ _)
      | (with_reducible exact screelaw10_awake.mono _)
      | (with_reducible exact screelaw10_large.mono _ _)
      | (with_reducible exact LeO.refl _)
      | (with_reducible exact LeO.none _)
      | (with_reducible refine LeO.ite ?_ ?_)
      | (with_reducible refine LeO.bind ?_ (fun _ => ?_))
      | exact ih0 _ _
      | exact ih1 _ _ _
      | exact ih2 _ _ _ _
      | exact bloom_Full.mono _ _
      | exact bloom_Make.mono _ _
      | exact bloom_May.mono _ _ _
      | exact screelaw10_awake.mono _
      | exact screelaw10_large.mono _ _
      | exact LeO.none _
      | refine LeO.ite ?_ ?_
      | refine LeO.bind ?_ (fun _ => ?_)
theorem screelaw10_BloomHas.mono : ∀ a0 k, LeO (screelaw10_BloomHas.f k a0) (screelaw10_BloomHas.f (k + 1) a0) := by
  intro a0 k
  obtain ⟨ih0, ih1, ih2⟩ := screelaw10_BloomHas.mono_l k
  unfold screelaw10_BloomHas.f
  repeat' first
      | (with_reducible exact ih0 _ _)
      | (with_reducible exact ih1 _ _ _)
      | (with_reducible exact ih2 _ _ _ _)
      | (with_reducible exact bloom_Full.mono _ _)
      | (with_reducible exact bloom_Make.mono _ _)
      | (with_reducible exact bloom_May.mono _ _ _)
      | (with_reducible exact screelaw10_awake.mono _)
      | (with_reducible exact screelaw10_large.mono _ _)
      | (with_reducible exact LeO.refl _)
      | (with_reducible exact LeO.none _)
      | (with_reducible refine LeO.ite ?_ ?_)
      | (with_reducible refine LeO.bind ?_ (fun _ => ?_))
      | exact ih0 _ _
      | exact ih1 _ _ _
      | exact ih2 _ _ _ _
      | exact bloom_Full.mono _ _
      | exact bloom_Make.mono _ _
      | exact bloom_May.mono _ _ _
      | exact screelaw10_awake.mono _
      | exact screelaw10_large.mono _ _
      | exact LeO.none _
      | refine LeO.ite ?_ ?_
      | refine LeO.bind ?_ (fun _ => ?_)
set_option maxHeartbeats 8000000 in
set_option maxRecDepth 100000 in
theorem screelaw10_BloomHas.calls (k : Nat) (A0 : Option Addr) (c0 : Nat) (l0 : List ByteArray) (r : Bool) (w : World) (hr0 : Kd.C Kd.string w A0 l0.length l0) (hc0 : l0.length ≤ c0) (h : screelaw10_BloomHas.f k l0 = some r) :
    Calls Try.prog 4 #[.slice A0 l0.length c0] w fun e w' => e = .returned (.bool r) ∧ Below w.heap.size w w' := by
  have HR0 := Aside0.mk hr0
  have HC0 := Aside0.mk hc0
  clear hr0 hc0
  have HB := Aside0.mk (Below.refl w.heap.size w)
  have H : ((screelaw10_awake.f k).bind fun t174 => (if t174 = true then ((screelaw10_large.f k l0).bind fun t175 => (if t175 = true then (screelaw10_BloomHas.j0 k l0 true) else (screelaw10_BloomHas.j0 k l0 (decide ((l0.length : Int) > 1000))))) else (none))) = some r := h
  clear h
  replace H := Option.bind_eq_some_iff.mp H
  obtain ⟨t174, A20, H⟩ := H
  replace H : (if t174 = true then ((screelaw10_large.f k l0).bind fun t175 => (if t175 = true then (screelaw10_BloomHas.j0 k l0 true) else (screelaw10_BloomHas.j0 k l0 (decide ((l0.length : Int) > 1000))))) else (none)) = some r := H
  have A2 := Aside0.mk A20
  clear A20
  by_cases c3 : t174 = true
  · subst c3
    have H1 : ((screelaw10_large.f k l0).bind fun t175 => (if t175 = true then (screelaw10_BloomHas.j0 k l0 true) else (screelaw10_BloomHas.j0 k l0 (decide ((l0.length : Int) > 1000))))) = some r := by rw [if_pos rfl] at H; exact H
    clear H
    have H := H1
    clear H1
    have HC4 := Aside0.mk H
    clear H
    go_enter Try.func4, Try.ntmps4
    go_upto_region 3 with (first | ((with_reducible refine gate_callee (f := 10) rfl ?_); refine goesL_ (some 6) rfl rfl Try.func10 (by kernel_rfl) rfl #[] rfl (by (try simp only [List.map_toArray, List.map_cons, List.map_nil]); first | done | rfl | (simp only [List.length_drop, List.length_take]; rfl) | (simp (disch := omega) only [IntWalk.u64_in, IntWalk.i64_in, IntWalk.u8_in]; rfl)) ?_; (with_reducible refine (screelaw10_awake.calls k  true _ A2.out).mono ?_); rintro e w5 ⟨rfl, hb⟩; refine ⟨_, rfl, ?_⟩; have n0_ := Aside0.mk (below_step (by repeat (first | (with_reducible first | exact HB.out | apply below_alloc | apply pw_below_drewN | apply below_drew1) | exact HB.out)) hb); clear HB; have HB := n0_; clear n0_; (try clear hb); (try clear hb2); (try clear hk); (try clear hi); (try clear A2)))
    (try simp only [Act.put, List.setIfInBounds_toArray, List.set_cons_zero, List.set_cons_succ])
    go_cut [14] (fun v14 wc => ∃ (kq : Nat) (x14_3 : Bool), v14 = .bool x14_3 ∧ Aside0 (screelaw10_BloomHas.j0 kq l0 x14_3 = some r) ∧ Aside0 (kq ≤ k) ∧ Aside0 (Below w.heap.size w wc))
    case first =>
      have H := HC4.out
      clear HC4
      replace H := Option.bind_eq_some_iff.mp H
      obtain ⟨t175, A60, H⟩ := H
      replace H : (if t175 = true then (screelaw10_BloomHas.j0 k l0 true) else (screelaw10_BloomHas.j0 k l0 (decide ((l0.length : Int) > 1000)))) = some r := H
      have A6 := Aside0.mk A60
      clear A60
      by_cases c7 : t175 = true
      · subst c7
        have H1 : (screelaw10_BloomHas.j0 k l0 true) = some r := by rw [if_pos rfl] at H; exact H
        clear H
        have H := H1
        clear H1
        have H' := Aside0.mk H
        clear H
        go_wp2_with (first | ((with_reducible refine gate_callee (f := 11) rfl ?_); refine goesL_ (some 9) rfl rfl Try.func11 (by kernel_rfl) rfl #[.slice A0 l0.length c0] rfl (by (try simp only [List.map_toArray, List.map_cons, List.map_nil]); first | done | rfl | (simp only [List.length_drop, List.length_take]; rfl) | (simp (disch := omega) only [IntWalk.u64_in, IntWalk.i64_in, IntWalk.u8_in]; rfl)) ?_; (with_reducible refine (screelaw10_large.calls k _ _ l0 true _ ?side1 ?side2 A6.out).mono ?_); (case side1 => repeat (first | exact (Kd.C_below HR0.out HB.out) | (with_reducible refine Kd.C_alloc ?_ _) | (with_reducible refine Kd.C_drewN ?_ _) | (with_reducible refine Kd.C_drew ?_))); (case side2 => exact HC0.out); rintro e w' ⟨rfl, ⟨nd, rfl⟩⟩; refine ⟨_, rfl, ?_⟩))
        go_meet
        case rel => exact ⟨_, (true), (by first | rfl | (simp; done) | (simp [*]; done)), (by first | (with_reducible exact H') | exact H' | (subst_vars; exact H')), ⟨by first | omega | exact Nat.le_refl _⟩, ⟨by repeat (first | (with_reducible first | exact HB.out | apply below_alloc | apply pw_below_drewN | apply below_drew1) | exact HB.out)⟩⟩
      · replace c7 := Bool.eq_false_iff.mpr c7
        subst c7
        have H1 : (screelaw10_BloomHas.j0 k l0 (decide ((l0.length : Int) > 1000))) = some r := by rw [if_neg (show ¬ (false = true) by decide)] at H; exact H
        clear H
        have H := H1
        clear H1
        have H' := Aside0.mk H
        clear H
        go_wp2_with (first | ((with_reducible refine gate_callee (f := 11) rfl ?_); refine goesL_ (some 9) rfl rfl Try.func11 (by kernel_rfl) rfl #[.slice A0 l0.length c0] rfl (by (try simp only [List.map_toArray, List.map_cons, List.map_nil]); first | done | rfl | (simp only [List.length_drop, List.length_take]; rfl) | (simp (disch := omega) only [IntWalk.u64_in, IntWalk.i64_in, IntWalk.u8_in]; rfl)) ?_; (with_reducible refine (screelaw10_large.calls k _ _ l0 false _ ?side1 ?side2 A6.out).mono ?_); (case side1 => repeat (first | exact (Kd.C_below HR0.out HB.out) | (with_reducible refine Kd.C_alloc ?_ _) | (with_reducible refine Kd.C_drewN ?_ _) | (with_reducible refine Kd.C_drew ?_))); (case side2 => exact HC0.out); rintro e w' ⟨rfl, ⟨nd, rfl⟩⟩; refine ⟨_, rfl, ?_⟩))
        go_meet
        case rel => exact ⟨_, (decide ((l0.length : Int) > 1000)), (by first | rfl | (simp; done) | (simp [*]; done)), (by first | (with_reducible exact H') | exact H' | (subst_vars; exact H')), ⟨by first | omega | exact Nat.le_refl _⟩, ⟨by repeat (first | (with_reducible first | exact HB.out | apply below_alloc | apply pw_below_drewN | apply below_drew1) | exact HB.out)⟩⟩
    case rest =>
      clear HC4
      try clear c1
      try clear p2
      try clear c3
      try clear c4
      try clear c7
      obtain ⟨kq, x14_3, rfl, HA, HJ3, HB⟩ := hcut
      cases kq with
      | zero => exact absurd HA.out (by simp [screelaw10_BloomHas.j0])
      | succ kj3 =>
        have H := HA.out
        clear HA
        simp only [screelaw10_BloomHas.j0] at H
        by_cases c8 : x14_3 = true
        · subst c8
          have H1 : (some true) = some r := by rw [if_pos rfl] at H; exact H
          clear H
          have H := H1
          clear H1
          obtain rfl := Option.some.inj H
          go_wp2
          go_ret
          exact ⟨by first | rfl | (simp [errW_none, errW_some] <;> rfl) | (simp (disch := omega) only [← i64_w, IntWalk.i64_in]; rfl) | (simp [*, errW_none, errW_some] <;> rfl), by repeat (first | (with_reducible first | exact HB.out | apply below_alloc | apply pw_below_drewN | apply below_drew1) | exact HB.out)⟩
        · replace c8 := Bool.eq_false_iff.mpr c8
          subst c8
          have H1 : ((bloom_Make.f kj3 l0).bind fun bt176 => (if bt176.2 = 0 then (screelaw10_BloomHas.j1 kj3 l0 bt176.1 ((bt176.1.size : Int) != (wrap64 ((l0.length : Int) + 1)))) else (screelaw10_BloomHas.j1 kj3 l0 bt176.1 true))) = some r := by rw [if_neg (show ¬ (false = true) by decide)] at H; exact H
          clear H
          have H := H1
          clear H1
          replace H := Option.bind_eq_some_iff.mp H
          obtain ⟨⟨t176, t177⟩, A90, H⟩ := H
          replace H : (if t177 = 0 then (screelaw10_BloomHas.j1 kj3 l0 t176 ((t176.size : Int) != (wrap64 ((l0.length : Int) + 1)))) else (screelaw10_BloomHas.j1 kj3 l0 t176 true)) = some r := H
          have A9 := Aside0.mk A90
          clear A90
          have HC10 := Aside0.mk H
          clear H
          go_upto_region 6 with (first | ((with_reducible refine gate_callee (f := 12) rfl ?_); refine goesL_ (some 17) rfl rfl Try.func12 (by kernel_rfl) rfl #[.slice A0 l0.length c0] rfl (by (try simp only [List.map_toArray, List.map_cons, List.map_nil]); first | done | rfl | (simp only [List.length_drop, List.length_take]; rfl) | (simp (disch := omega) only [IntWalk.u64_in, IntWalk.i64_in, IntWalk.u8_in]; rfl)) ?_; (with_reducible refine (bloom_Make.calls kj3 _ _ l0 t176 t177 _ ?side1 ?side2 A9.out).mono ?_); (case side1 => repeat (first | exact (Kd.C_below HR0.out HB.out) | (with_reducible refine Kd.C_alloc ?_ _) | (with_reducible refine Kd.C_drewN ?_ _) | (with_reducible refine Kd.C_drew ?_))); (case side2 => exact HC0.out); rintro e w11 ⟨rfl, hb⟩; refine ⟨_, rfl, ?_⟩; have n0_ := Aside0.mk (below_step (by repeat (first | (with_reducible first | exact HB.out | apply below_alloc | apply pw_below_drewN | apply below_drew1) | exact HB.out)) hb); clear HB; have HB := n0_; clear n0_; (try clear hb); (try clear hb2); (try clear hk); (try clear hi); (try clear A9)))
          (try simp only [Act.put, List.setIfInBounds_toArray, List.set_cons_zero, List.set_cons_succ])
          go_cut [29] (fun v29 wc => ∃ (kq : Nat) (x29_9 : Bool), v29 = .bool x29_9 ∧ Aside0 (screelaw10_BloomHas.j1 kq l0 t176 x29_9 = some r) ∧ Aside0 (kq ≤ kj3) ∧ Aside0 (Below w.heap.size w wc))
          case first =>
            have H := HC10.out
            clear HC10
            by_cases c12 : t177 = 0
            · rw [if_pos c12] at H
              have c12b0 : (t177 == 0) = true := beq_iff_eq.mpr c12
              have c12b1 : (t177 != 0) = false := bne_eq_false_iff_eq.mpr c12
              clear c12
              (first | rw [c12b0] | (simp only [i64_w, i32_w]; rw [c12b0]) | skip)
              have H' := Aside0.mk H
              clear H
              go_wp2
              go_meet
              case rel => exact ⟨_, (((t176.size : Int) != (wrap64 ((l0.length : Int) + 1)))), (by first | rfl | (simp; done) | (simp [*]; done)), (by first | (with_reducible exact H') | exact H' | (subst_vars; exact H')), ⟨by have := HJ3.out; first | omega | exact Nat.le_refl _⟩, ⟨by repeat (first | (with_reducible first | exact HB.out | apply below_alloc | apply pw_below_drewN | apply below_drew1) | exact HB.out)⟩⟩
            · rw [if_neg c12] at H
              have c12b0 : (t177 == 0) = false := beq_eq_false_iff_ne.mpr c12
              have c12b1 : (t177 != 0) = true := bne_iff_ne.mpr c12
              (first | rw [c12b0] | (simp only [i64_w, i32_w]; rw [c12b0]) | skip)
              have H' := Aside0.mk H
              clear H
              go_wp2
              go_meet
              case rel => exact ⟨_, (true), (by first | rfl | (simp; done) | (simp [*]; done)), (by first | (with_reducible exact H') | exact H' | (subst_vars; exact H')), ⟨by have := HJ3.out; first | omega | exact Nat.le_refl _⟩, ⟨by repeat (first | (with_reducible first | exact HB.out | apply below_alloc | apply pw_below_drewN | apply below_drew1) | exact HB.out)⟩⟩
          case rest =>
            clear HC10
            try clear c1
            try clear p2
            try clear c3
            try clear c4
            try clear p6
            try clear c7
            try clear c8
            try clear c10
            try clear c11
            try clear c12
            try clear c12b0
            try clear c12b1
            try clear p2
            obtain ⟨kq, x29_9, rfl, HA, HJ9, HB⟩ := hcut
            cases kq with
            | zero => exact absurd HA.out (by simp [screelaw10_BloomHas.j1])
            | succ kj9 =>
              have H := HA.out
              clear HA
              simp only [screelaw10_BloomHas.j1] at H
              by_cases c13 : x29_9 = true
              · subst c13
                have H1 : (none) = some r := by rw [if_pos rfl] at H; exact H
                clear H
                have H := H1
                clear H1
                exact absurd H (by simp)
              · replace c13 := Bool.eq_false_iff.mpr c13
                subst c13
                have H1 : (screelaw10_BloomHas.l0 kj9 l0 t176 (l0.length : Int) 0) = some r := by rw [if_neg (show ¬ (false = true) by decide)] at H; exact H
                clear H
                have H := H1
                clear H1
                have H' := Aside0.mk H
                clear H
                go_wp2
                go_loopg [32] kj9 (fun kq v32 w' => ∃ (x32_3 : Int), v32 = .int .i64 x32_3 ∧ Aside0 (screelaw10_BloomHas.l0 kq l0 t176 (l0.length : Int) x32_3 = some r) ∧ Aside0 (kq ≤ kj9) ∧ Aside0 (Below w.heap.size w w'))
                case atStart => exact ⟨(0), (by first | rfl | (simp; done) | (simp [*]; done)), H', ⟨Nat.le_refl _⟩, ⟨by repeat (first | (with_reducible first | exact HB.out | apply below_alloc | apply pw_below_drewN | apply below_drew1) | exact HB.out)⟩⟩
                case round =>
                  clear H'
                  try clear c1
                  try clear p2
                  try clear c3
                  try clear c4
                  try clear p6
                  try clear c7
                  try clear c8
                  try clear c10
                  try clear c11
                  try clear c12
                  try clear c12b0
                  try clear c12b1
                  try clear c13
                  try clear p2
                  try clear p6
                  obtain ⟨x32_3, rfl, HA, HK3, HB⟩ := hrel
                  cases gk with
                  | zero => exact absurd HA.out (by simp [screelaw10_BloomHas.l0])
                  | succ k3 =>
                    have H := HA.out
                    clear HA
                    simp only [screelaw10_BloomHas.l0] at H
                    by_cases c14 : x32_3 < (l0.length : Int)
                    · rw [if_pos c14] at H
                      have c14b0 : decide (x32_3 < (l0.length : Int)) = true := decide_eq_true c14
                      clear c14
                      by_cases c15 : 0 ≤ x32_3
                      · rw [if_pos c15] at H
                        have c15b0 : decide (0 ≤ x32_3) = true := decide_eq_true c15
                        clear c15
                        by_cases c16 : x32_3 < (l0.length : Int)
                        · rw [if_pos c16] at H
                          have c16b0 : decide (x32_3 < (l0.length : Int)) = true := decide_eq_true c16
                          clear c16
                          replace H := Option.bind_eq_some_iff.mp H
                          obtain ⟨t179, A170, H⟩ := H
                          replace H : (if t179 = true then (screelaw10_BloomHas.l0 k3 l0 t176 (l0.length : Int) (wrap64 (x32_3 + 1))) else (none)) = some r := H
                          have A17 := Aside0.mk A170
                          clear A170
                          by_cases c18 : t179 = true
                          · subst c18
                            have H1 : (screelaw10_BloomHas.l0 k3 l0 t176 (l0.length : Int) (wrap64 (x32_3 + 1))) = some r := by rw [if_pos rfl] at H; exact H
                            clear H
                            have H := H1
                            clear H1
                            have H' := Aside0.mk H
                            clear H
                            have p178 : 0 ≤ (x32_3 : Int) := of_decide_eq_true (by first | (with_reducible assumption) | assumption)
                            have q178 : x32_3 < (l0.length : Int) := of_decide_eq_true (by first | (with_reducible assumption) | assumption)
                            obtain ⟨ad178, e178, hx178_0⟩ := Kd.at_string HR0.out x32_3 p178 q178
                            cases e178
                            replace hx178_0 := (HB.out.cell (World.block_lt_of_cell? w _ hx178_0)).trans hx178_0
                            replace p178 := eq_true p178
                            replace q178 := eq_true q178
                            go_wp2_with (first | ((with_reducible refine gate_callee (f := 16) rfl ?_); refine goesL_ (some 40) rfl rfl Try.func16 (by kernel_rfl) rfl #[.string t176, .string (rdOf ByteArray.empty l0 x32_3)] rfl (by (try simp only [List.map_toArray, List.map_cons, List.map_nil]); first | done | rfl | (simp only [List.length_drop, List.length_take]; rfl) | (simp (disch := omega) only [IntWalk.u64_in, IntWalk.i64_in, IntWalk.u8_in]; rfl)) ?_; (with_reducible refine (bloom_May.calls k3 t176 (rdOf ByteArray.empty l0 x32_3) true _ A17.out).mono ?_); rintro e w19 ⟨rfl, hb⟩; refine ⟨_, rfl, ?_⟩; have n0_ := Aside0.mk (below_step (by repeat (first | (with_reducible first | exact HB.out | apply below_alloc | apply pw_below_drewN | apply below_drew1) | exact HB.out)) hb); clear HB; have HB := n0_; clear n0_; (try clear hb); (try clear hb2); (try clear hk); (try clear hi); (try clear A17)))
                            go_roundg k3
                            case measure => have := HJ3.out; have := HJ9.out; have := HK3.out; omega
                            case rel => exact ⟨(wrap64 (x32_3 + 1)), (by first | rfl | (simp; done) | (simp [*]; done)), (by first | (with_reducible exact H') | exact H' | (subst_vars; exact H')), ⟨by have := HJ3.out; have := HJ9.out; have := HK3.out; omega⟩, ⟨by repeat (first | (with_reducible first | exact HB.out | apply below_alloc | apply pw_below_drewN | apply below_drew1) | exact HB.out)⟩⟩
                          · replace c18 := Bool.eq_false_iff.mpr c18
                            subst c18
                            have H1 : (none) = some r := by rw [if_neg (show ¬ (false = true) by decide)] at H; exact H
                            clear H
                            have H := H1
                            clear H1
                            exact absurd H (by simp)
                        · rw [if_neg c16] at H
                          exact absurd H (by simp)
                      · rw [if_neg c15] at H
                        exact absurd H (by simp)
                    · rw [if_neg c14] at H
                      have c14b0 : decide (x32_3 < (l0.length : Int)) = false := decide_eq_false c14
                      clear c14
                      replace H := Option.bind_eq_some_iff.mp H
                      obtain ⟨t180, A200, H⟩ := H
                      replace H : (if t180 ≤ (wrap64 (4 * (l0.length : Int))) then ((bloom_Full.f k3 t176).bind fun t181 => (some (((l0.length : Int) == 0) == (t181 == 0)))) else (none)) = some r := H
                      have A20 := Aside0.mk A200
                      clear A200
                      by_cases c21 : t180 ≤ (wrap64 (4 * (l0.length : Int)))
                      · rw [if_pos c21] at H
                        have c21b0 : decide (t180 ≤ (wrap64 (4 * (l0.length : Int)))) = true := decide_eq_true c21
                        clear c21
                        replace H := Option.bind_eq_some_iff.mp H
                        obtain ⟨t181, A220, H⟩ := H
                        replace H : (some (((l0.length : Int) == 0) == (t181 == 0))) = some r := H
                        have A22 := Aside0.mk A220
                        clear A220
                        obtain rfl := Option.some.inj H
                        go_wp2_with (first | ((with_reducible refine gate_callee (f := 18) rfl ?_); refine goesL_ (some 44) rfl rfl Try.func18 (by kernel_rfl) rfl #[.string t176] rfl (by (try simp only [List.map_toArray, List.map_cons, List.map_nil]); first | done | rfl | (simp only [List.length_drop, List.length_take]; rfl) | (simp (disch := omega) only [IntWalk.u64_in, IntWalk.i64_in, IntWalk.u8_in]; rfl)) ?_; (with_reducible refine (bloom_Full.calls k3 t176 t180 _ A20.out).mono ?_); rintro e w' ⟨rfl, ⟨nd, rfl⟩⟩; refine ⟨_, rfl, ?_⟩) | (go_at_call 18; (with_reducible refine (bloom_Full.calls k3 t176 t181 _ A22.out).mono ?_); rintro e w' ⟨rfl, ⟨nd, rfl⟩⟩))
                        go_ret
                        exact ⟨by first | rfl | (simp [errW_none, errW_some] <;> rfl) | (simp (disch := omega) only [← i64_w, IntWalk.i64_in]; rfl) | (simp [*, errW_none, errW_some] <;> rfl), by repeat (first | (with_reducible first | exact HB.out | apply below_alloc | apply pw_below_drewN | apply below_drew1) | exact HB.out)⟩
                      · rw [if_neg c21] at H
                        exact absurd H (by simp)
  · replace c3 := Bool.eq_false_iff.mpr c3
    subst c3
    have H1 : (none) = some r := by rw [if_neg (show ¬ (false = true) by decide)] at H; exact H
    clear H
    have H := H1
    clear H1
    exact absurd H (by simp)

/-! ### screelaw10_BloomFull: function 8 -/
def screelaw10_BloomFull.goB (F : ByteArray) : List Int → List Int → Option (List Int)
  | [], L => some L
  | b :: bs, L => if 0 ≤ b ∧ b < 1000000 ∧ b / 8 < (F.size : Int) ∧ bloom_May.bit F b = 1 ∧ L.length < 1000000 then screelaw10_BloomFull.goB F bs (Mp.ins L b) else none
def screelaw10_BloomFull.go (k : Nat) (F : ByteArray) (n : Int) : List ByteArray → List Int → Option (List Int)
  | [], L => some L
  | s :: l, L => (bloom_Bits.f k s n).bind fun bs => if 0 < bs.length ∧ bs.length ≤ 1000 then (screelaw10_BloomFull.goB F bs L).bind fun L' => screelaw10_BloomFull.go k F n l L' else none
def screelaw10_BloomFull.f (k : Nat) (l0 : List ByteArray) : Option Bool :=
  (screelaw10_awake.f k).bind fun t => if t = true then ((screelaw10_large.f k l0).bind fun g => if g = true then some true else if 1000 < l0.length then some true else
    (bloom_Make.f k l0).bind fun m => (screelaw10_BloomFull.go k m.1 (8 * ((l0.length : Int) + 1)) l0 []).bind fun L => if m.2 = 0 then (bloom_Full.f k m.1).bind fun c => if c = (L.length : Int) then some true else none else none) else none
theorem screelaw10_BloomFull.go_mono (k : Nat) (F : ByteArray) (n : Int) : ∀ l L, LeO (screelaw10_BloomFull.go k F n l L) (screelaw10_BloomFull.go (k + 1) F n l L)
  | [], L => LeO.refl _
  | s :: l, L => LeO.bind (bloom_Bits.mono _ _ _) (fun _ => LeO.ite (LeO.bind (LeO.refl _) (fun _ => screelaw10_BloomFull.go_mono k F n l _)) (LeO.refl _))
theorem screelaw10_BloomFull.mono : ∀ l0 k, LeO (screelaw10_BloomFull.f k l0) (screelaw10_BloomFull.f (k + 1) l0) := by
  intro l0 k
  unfold screelaw10_BloomFull.f
  exact LeO.bind (screelaw10_awake.mono _) (fun _ => LeO.ite (LeO.bind (screelaw10_large.mono _ _) (fun _ => LeO.ite (LeO.refl _) (LeO.ite (LeO.refl _) (LeO.bind (bloom_Make.mono _ _) (fun _ => LeO.bind (screelaw10_BloomFull.go_mono _ _ _ _ _) (fun _ => LeO.ite (LeO.bind (bloom_Full.mono _ _) (fun _ => LeO.refl _)) (LeO.refl _))))))) (LeO.refl _))
set_option maxHeartbeats 1600000 in
set_option maxRecDepth 100000 in
theorem screelaw10_BloomFull.calls (k : Nat) (A0 : Option Addr) (c0 : Nat) (l0 : List ByteArray) (r : Bool) (w : World) (hr0 : Kd.C Kd.string w A0 l0.length l0) (hc0 : l0.length ≤ c0) (h : screelaw10_BloomFull.f k l0 = some r) :
    Calls Try.prog 8 #[.slice A0 l0.length c0] w fun e w' => e = .returned (.bool r) ∧ Below w.heap.size w w' := by
  have HR0 := Aside0.mk hr0
  have HC0 := Aside0.mk hc0
  clear hr0 hc0
  unfold screelaw10_BloomFull.f at h
  replace h := Option.bind_eq_some_iff.mp h
  obtain ⟨t, hA, h⟩ := h
  cases t with
  | false => exact absurd h (by simp)
  | true =>
  rw [if_pos rfl] at h
  have HA := Lib.hid hA
  clear hA
  replace h := Option.bind_eq_some_iff.mp h
  obtain ⟨g, hG, h⟩ := h
  have HG := Lib.hid hG
  clear hG
  cases g with
  | true =>
    rw [if_pos rfl] at h
    obtain rfl := Option.some.inj h
    clear h
    go_enter Try.func8, Try.ntmps8
    go_wp2_with (first
      | (go_at_call 10; (refine (screelaw10_awake.calls k true _ HA.out).mono ?_); rintro e w1 ⟨rfl, hb⟩; have HB1 := Aside0.mk hb; clear hb)
      | (go_at_call 11; (refine (screelaw10_large.calls k A0 c0 l0 true _ (Kd.C_below HR0.out HB1.out) HC0.out HG.out).mono ?_); rintro e w2 ⟨rfl, hb⟩; have HB2 := Aside0.mk (below_step HB1.out hb.below); clear HB1 hb))
    go_ret
    exact ⟨rfl, HB2.out⟩
  | false =>
    rw [if_neg (by simp)] at h
    by_cases hm : 1000 < l0.length
    · rw [if_pos hm] at h
      obtain rfl := Option.some.inj h
      clear h
      have d1 : decide (1000 < (l0.length : Int)) = true := decide_eq_true (by omega)
      clear hm
      go_enter Try.func8, Try.ntmps8
      go_wp2_with (first
        | (go_at_call 10; (refine (screelaw10_awake.calls k true _ HA.out).mono ?_); rintro e w1 ⟨rfl, hb⟩; have HB1 := Aside0.mk hb; clear hb)
        | (go_at_call 11; (refine (screelaw10_large.calls k A0 c0 l0 false _ (Kd.C_below HR0.out HB1.out) HC0.out HG.out).mono ?_); rintro e w2 ⟨rfl, hb⟩; have HB2 := Aside0.mk (below_step HB1.out hb.below); clear HB1 hb))
      go_ret
      exact ⟨rfl, HB2.out⟩
    · rw [if_neg hm] at h
      have hlen : l0.length ≤ 1000 := by omega
      have d1 : decide (1000 < (l0.length : Int)) = false := decide_eq_false (by omega)
      clear hm
      replace h := Option.bind_eq_some_iff.mp h
      obtain ⟨⟨F, e2⟩, hM, h⟩ := h
      replace h := Option.bind_eq_some_iff.mp h
      obtain ⟨Lf, hGo, h⟩ := h
      by_cases he : (F, e2).2 = 0
      case neg => rw [if_neg he] at h; exact absurd h (by simp)
      rw [if_pos he] at h
      obtain rfl : e2 = 0 := he
      replace h := Option.bind_eq_some_iff.mp h
      obtain ⟨c, hF, h⟩ := h
      by_cases hc : c = (Lf.length : Int)
      case neg => rw [if_neg hc] at h; exact absurd h (by simp)
      rw [if_pos hc] at h
      obtain rfl := Option.some.inj h
      clear h
      subst hc
      have HM := Lib.hid hM
      have HGo := Lib.hid hGo
      have HF := Lib.hid hF
      clear hM hGo hF
      have hmm := @run_makeMap Try.prog
      go_enter Try.func8, Try.ntmps8
      go_wp2_with (first
        | (go_at_call 10; (refine (screelaw10_awake.calls k true _ HA.out).mono ?_); rintro e w1 ⟨rfl, hb⟩; have HB1 := Aside0.mk hb; clear hb)
        | (go_at_call 11; (refine (screelaw10_large.calls k A0 c0 l0 false _ (Kd.C_below HR0.out HB1.out) HC0.out HG.out).mono ?_); rintro e w2 ⟨rfl, hb⟩; have HB2 := Aside0.mk (below_step HB1.out hb.below); clear HB1 hb)
        | (go_at_call 12; (refine (bloom_Make.calls k A0 c0 l0 F 0 _ (Kd.C_below HR0.out HB2.out) HC0.out HM.out).mono ?_); rintro e w3 ⟨rfl, hb⟩; have HB3 := Aside0.mk (below_step HB2.out hb); clear HB2 hb))
      have HI := Aside0.mk (Mp.ISet.made Try.prog 3 4 w3)
      have HB4 := Aside0.mk (below_alloc HB3.out (.map #[] 0))
      have HWB := Lib.hid (below_size HB3.out)
      generalize w3.heap.size = b at HI HWB ⊢
      generalize w3.alloc (.map #[] 0) = w4 at HI HB4 ⊢
      clear HB3 HM HG HA hmm
      have HI0 := HI
      clear HI
      go_loopg [26] l0.length (fun kq v26 w' => ∃ (i : Nat) (L : List Int), v26 = .int .i64 (i : Int) ∧ Aside0 (kq + i = l0.length) ∧ Aside0 (screelaw10_BloomFull.go k F (8 * ((l0.length : Int) + 1)) (l0.drop i) L = some Lf) ∧ Aside0 (Mp.ISet Try.prog 3 4 w' b L) ∧ Aside0 (Below w.heap.size w w'))
      case atStart => exact ⟨0, [], rfl, ⟨by omega⟩, ⟨HGo.out⟩, HI0, HB4⟩
      case round =>
        clear HI0 HB4 HGo
        obtain ⟨i, L, rfl, HI, HGo, HS, HB⟩ := hrel
        by_cases hlt : i < l0.length
        · have hkg : ∃ k1, gk = k1 + 1 := ⟨gk - 1, by have := HI.out; omega⟩
          obtain ⟨k1, rfl⟩ := hkg
          have dl : decide ((i : Int) < (l0.length : Int)) = true := decide_eq_true (by omega)
          have hdr : l0.drop i = l0[i] :: l0.drop (i + 1) := List.drop_eq_getElem_cons hlt
          have hg := HGo.out
          rw [hdr] at hg
          clear hdr HGo
          replace hg := Option.bind_eq_some_iff.mp hg
          obtain ⟨bs, hbits, hg⟩ := hg
          by_cases hbl : 0 < bs.length ∧ bs.length ≤ 1000
          case neg => rw [if_neg hbl] at hg; exact absurd hg (by simp)
          rw [if_pos hbl] at hg
          replace hg := Option.bind_eq_some_iff.mp hg
          obtain ⟨L', hgB, hg⟩ := hg
          have HG := Lib.hid hg
          have HBI := Lib.hid hbits
          have HGB := Lib.hid hgB
          clear hg hbits hgB
          obtain ⟨ad, ead, hcell⟩ := Kd.at_string HR0.out (i : Int) (by omega) (by omega)
          subst ead
          have hrd : rdOf ByteArray.empty l0 (i : Int) = l0[i] := by simp [rdOf, hlt]
          rw [hrd] at hcell
          clear hrd
          replace hcell := (HB.out.cell (World.block_lt_of_cell? w _ hcell)).trans hcell
          have htn : ((i : Int)).toNat = i := by omega
          rw [htn] at hcell
          clear htn
          go_wp2_with (go_at_call 20; (refine (bloom_Bits.calls k l0[i] (8 * ((l0.length : Int) + 1)) bs _ HBI.out).mono ?_); rintro e w5 ⟨v0, rfl, hr, hb⟩; have HBR := Aside0.mk hr; have HS5 := Aside0.mk (HS.out.below hb); have HB5 := Aside0.mk (below_step HB.out hb); obtain ⟨gb, cc, ef, gge, glt, cells, hcel⟩ := Kd.R_form hr hbl.1; subst ef; have HGE := Lib.hid (And.intro (Nat.lt_of_lt_of_le HS.out.lt gge) glt); clear hr hb gge glt cells hcel)
          clear HS HB
          go_loopg [39] bs.length (fun kq v39 w' => ∃ (j : Nat) (L1 : List Int), v39 = .int .i64 (j : Int) ∧ Aside0 (kq + j = bs.length) ∧ Aside0 (screelaw10_BloomFull.goB F (bs.drop j) L1 = some L') ∧ Aside0 (Mp.ISet Try.prog 3 4 w' b L1) ∧ Aside0 (w'.heap[gb]? = w5.heap[gb]?) ∧ Aside0 (Below w.heap.size w w'))
          case atStart => exact ⟨0, L, rfl, ⟨by omega⟩, ⟨HGB.out⟩, HS5, ⟨rfl⟩, HB5⟩
          case round =>
            clear HS5 HB5
            obtain ⟨j, L1, rfl, HJ, HGB1, HS, HE, HB⟩ := hrel
            by_cases hjt : j < bs.length
            · have hkg2 : ∃ k2, gk = k2 + 1 := ⟨gk - 1, by have := HJ.out; omega⟩
              obtain ⟨k2, rfl⟩ := hkg2
              have dj : decide ((j : Int) < (bs.length : Int)) = true := decide_eq_true (by omega)
              obtain ⟨hc0, hf0⟩ := Kd.R_celln 0 HBR.out (j : Int) (by omega) (by omega)
              have hrb : rdOf 0 bs (j : Int) = bs[j] := by simp [rdOf, hjt]
              rw [hrb, Int.toNat_natCast] at hc0
              replace hc0 := (Mp.cell_same HE.out).trans hc0
              clear hrb hf0
              have hgB := HGB1.out
              rw [List.drop_eq_getElem_cons hjt] at hgB
              generalize bs[j] = x at hc0 hgB
              by_cases hx : 0 ≤ x ∧ x < 1000000 ∧ x / 8 < (F.size : Int) ∧ bloom_May.bit F x = 1 ∧ L1.length < 1000000
              case neg => rw [screelaw10_BloomFull.goB, if_neg hx] at hgB; exact absurd hgB (by simp)
              rw [screelaw10_BloomFull.goB, if_pos hx] at hgB
              obtain ⟨hx0, hx1, hx2, hx3, hx4⟩ := hx
              have HGB2 := Lib.hid hgB
              clear hgB HGB1
              have dx : decide (x < 0) = false := decide_eq_false (by omega)
              have dy : decide ((F.size : Int) ≤ x / 8) = false := decide_eq_false (by omega)
              have hq0 : 0 ≤ x / 8 := by omega
              have hbt := bt_at F (x / 8)
              have e0 : Go.bits .and .u8 (bt F (x / 8) / 2 ^ (x % 8).toNat) 1 = 1 := hx3
              clear hx3
              obtain ⟨D, hD1, hD2, hD3⟩ := HS.out
              have KEY : Maps.Keyed Try.prog 3 := Maps.int_keyed Try.underlying3
              obtain ⟨w7, hrun, hown7, hgrow7⟩ := hD1.update KEY Try.underlying39 (by unfold maxLen; omega) (Maps.keyOf_int_mk Try.underlying3 (Mp.wf_int (x := x) (by omega) (by omega))) (plainElem_bool Try.underlying4 true)
              have HS7 := Aside0.mk (Mp.ISet.put KEY hD1 hD2 hD3 hown7)
              have HB7 := Aside0.mk (HB.out.trans (Mp.grown_below hgrow7 HB.out.size HWB.out))
              have HE7 := Aside0.mk ((hgrow7.block gb (Mp.lt_same HE.out HGE.out.2) (by have := HGE.out.1; intro e; cases e; omega)).trans HE.out)
              clear hown7 hgrow7 HS HB HE hD1 hD2 hD3
              go_wp2
              go_roundg k2
              case measure => omega
              case rel => exact ⟨j + 1, Mp.ins L1 x, by go_num, ⟨by have := HJ.out; omega⟩, ⟨HGB2.out⟩, HS7, HE7, HB7⟩
            · have dj : decide ((j : Int) < (bs.length : Int)) = false := decide_eq_false (by omega)
              have hL : L1 = L' := by
                have := HGB1.out
                rw [List.drop_eq_nil_of_le (by omega)] at this
                simpa [screelaw10_BloomFull.goB] using this
              subst hL
              clear HGB1 HGB
              go_wp2
              go_roundg k1
              case measure => omega
              case rel => exact ⟨i + 1, L1, by go_num, ⟨by have := HI.out; omega⟩, ⟨HG.out⟩, HS, HB⟩
        · have hi : i = l0.length := by have := HI.out; omega
          have dl : decide ((i : Int) < (l0.length : Int)) = false := decide_eq_false (by omega)
          have hL : L = Lf := by
            have := HGo.out
            rw [List.drop_eq_nil_of_le (by omega)] at this
            simpa [screelaw10_BloomFull.go] using this
          subst hL
          clear hi HGo HI
          go_wp2_with (go_at_call 18; (refine (bloom_Full.calls k F (L.length : Int) _ HF.out).mono ?_); rintro e w8 ⟨rfl, hb⟩; have HB8 := Aside0.mk (below_step HB.out hb.below); have hS8 := HS.out.below hb.below; obtain ⟨D, hD1, hD2, hD3⟩ := hS8; have hln := hD1.len Try.underlying39 3; rw [hD3] at hln; clear hb hD1 hD2 hD3 HB HS)
          go_ret
          refine ⟨by simp, HB8.out⟩

end Go.Proofs.Ythgefbabajpelaa.P
