-- Printed by a program of this session's own (wip/tools/pprint.sh, over the kit's print, with given contracts): not typed by hand.
import Derived.Test.YthgefbabajpelaaPx0
import Derived.Test.YthgefbabajpelaaPx1
namespace Go.Proofs.Ythgefbabajpelaa.P
open Go.RowKit Go.Proofs.YthgefbabajpelaaW.PrintWords Go.Proofs.YthgefbabajpelaaW.PrintLast Go.Proofs.YthgefbabajpelaaW.PrintMore
attribute [local go_sem] max2_int min2_int max_two min_two max_three min_three max_four min_four   -- for this text's walks alone
set_option linter.unusedVariables false
set_option linter.unusedSimpArgs false

/-! ### screelaw10_BloomTwice: function 9 -/
mutual
def screelaw10_BloomTwice.j0 : Nat → ByteArray → ByteArray → Int → Bool → Option (Bool)
  | 0, _, _, _, _ => none
  | k + 1, x0, x1, x2, x23 => if x23 = true then (some true) else ((bloom_Make.f k (([x0, x0, x1] : List ByteArray))).bind fun bt219 => ((bloom_Make.f k (([x1, x0, x1] : List ByteArray))).bind fun bt224 => ((bloom_Bits.f k x0 (wrap64 (x2))).bind fun t226 => ((bloom_Bits.f k x0 (wrap64 (x2))).bind fun t229 => (if (t226.length : Int) = (t229.length : Int) then (screelaw10_BloomTwice.l0 k x0 x1 bt219.1 bt219.2 bt224.1 bt224.2 t226 t229 (t226.length : Int) 0) else (none))))))
def screelaw10_BloomTwice.l0 : Nat → ByteArray → ByteArray → ByteArray → Int → ByteArray → Int → List Int → List Int → Int → Int → Option (Bool)
  | 0, _, _, _, _, _, _, _, _, _, _ => none
  | k + 1, x0, x1, x7, x8, x9, x10, x11, x12, x54, x55 => if x55 < x54 then (if 0 ≤ x55 then (if x55 < (x11.length : Int) then (if x55 < (x12.length : Int) then (if (rd x11 x55) = (rd x12 x55) then (screelaw10_BloomTwice.l0 k x0 x1 x7 x8 x9 x10 x11 x12 x54 (wrap64 (x55 + 1))) else (none)) else (none)) else (none)) else (none)) else (if x8 = 0 then (if x10 = 0 then (if x7.toList = x9.toList then (if x0.toList = x1.toList then ((bloom_Mix.f k x0).bind fun t234 => ((bloom_Mix.f k x1).bind fun t235 => (some (t234 == t235)))) else (some true)) else (none)) else (none)) else (none))
end
def screelaw10_BloomTwice.f (k : Nat) (a0 : ByteArray) (a1 : ByteArray) (a2 : Int) : Option (Bool) := (screelaw10_awake.f k).bind fun t215 => (if t215 = true then (if (a0.size : Int) > 300 then (screelaw10_BloomTwice.j0 k a0 a1 a2 true) else (screelaw10_BloomTwice.j0 k a0 a1 a2 (decide ((a1.size : Int) > 300)))) else (none))
theorem screelaw10_BloomTwice.mono_l : ∀ k, (∀ y0 y1 y2 y3, LeO (screelaw10_BloomTwice.j0 k y0 y1 y2 y3) (screelaw10_BloomTwice.j0 (k + 1) y0 y1 y2 y3)) ∧ (∀ y0 y1 y2 y3 y4 y5 y6 y7 y8 y9, LeO (screelaw10_BloomTwice.l0 k y0 y1 y2 y3 y4 y5 y6 y7 y8 y9) (screelaw10_BloomTwice.l0 (k + 1) y0 y1 y2 y3 y4 y5 y6 y7 y8 y9))
  | 0 => ⟨fun _ _ _ _ r h => by simp [screelaw10_BloomTwice.j0] at h, fun _ _ _ _ _ _ _ _ _ _ r h => by simp [screelaw10_BloomTwice.l0] at h⟩
  | k + 1 => by
    obtain ⟨ih0, ih1⟩ := screelaw10_BloomTwice.mono_l k
    refine ⟨?_, ?_⟩
    · intro y0 y1 y2 y3
      unfold screelaw10_BloomTwice.j0
      repeat' first
      | (with_reducible exact ih0 _ _ _ _)
      | (with_reducible exact ih1 _ _ _ _ _ _ _ _ _ _)
      | (with_reducible exact bloom_Bits.mono _ _ _)
      | (with_reducible exact bloom_Make.mono _ _)
      | (with_reducible exact bloom_Mix.mono _ _)
      | (with_reducible exact screelaw10_awake.mono _)
      | (with_reducible exact LeO.refl _)
      | (with_reducible exact LeO.none _)
      | (with_reducible refine LeO.ite ?_ ?_)
      | (with_reducible refine LeO.bind ?_ (fun _ => ?_))
      | exact ih0 _ _ _ _
      | exact ih1 _ _ _ _ _ _ _ _ _ _
      | exact bloom_Bits.mono _ _ _
      | exact bloom_Make.mono _ _
      | exact bloom_Mix.mono _ _
      | exact screelaw10_awake.mono _
      | exact LeO.none _
      | refine LeO.ite ?_ ?_
      | refine LeO.bind ?_ (fun _ => ?_)
    · intro y0 y1 y2 y3 y4 y5 y6 y7 y8 y9
      unfold screelaw10_BloomTwice.l0
      repeat' first
      | (with_reducible exact ih0 _ _ _ _)
      | (with_reducible exact ih1 _ _ _ _ _ _ _ _ _ _)
      | (with_reducible exact bloom_Bits.mono _ _ _)
      | (with_reducible exact bloom_Make.mono _ _)
      | (with_reducible exact bloom_Mix.mono _ _)
      | (with_reducible exact screelaw10_awake.mono _)
      | (with_reducible exact LeO.refl _)
      | (with_reducible exact LeO.none _)
      | (with_reducible refine LeO.ite ?_ ?_)
      | (with_reducible refine LeO.bind ?_ (fun _ => ?_))
      | exact ih0 _ _ _ _
      | exact ih1 _ _ _ _ _ _ _ _ _ _
      | exact bloom_Bits.mono _ _ _
      | exact bloom_Make.mono _ _
      | exact bloom_Mix.mono _ _
      | exact screelaw10_awake.mono _
      | exact LeO.none _
      | refine LeO.ite ?_ ?_
      | refine LeO.bind ?_ (fun _ => ?_)
theorem screelaw10_BloomTwice.mono : ∀ a0 a1 a2 k, LeO (screelaw10_BloomTwice.f k a0 a1 a2) (screelaw10_BloomTwice.f (k + 1) a0 a1 a2) := by
  intro a0 a1 a2 k
  obtain ⟨ih0, ih1⟩ := screelaw10_BloomTwice.mono_l k
  unfold screelaw10_BloomTwice.f
  repeat' first
      | (with_reducible exact ih0 _ _ _ _)
      | (with_reducible exact ih1 _ _ _ _ _ _ _ _ _ _)
      | (with_reducible exact bloom_Bits.mono _ _ _)
      | (with_reducible exact bloom_Make.mono _ _)
      | (with_reducible exact bloom_Mix.mono _ _)
      | (with_reducible exact screelaw10_awake.mono _)
      | (with_reducible exact LeO.refl _)
      | (with_reducible exact LeO.none _)
      | (with_reducible refine LeO.ite ?_ ?_)
      | (with_reducible refine LeO.bind ?_ (fun _ => ?_))
      | exact ih0 _ _ _ _
      | exact ih1 _ _ _ _ _ _ _ _ _ _
      | exact bloom_Bits.mono _ _ _
      | exact bloom_Make.mono _ _
      | exact bloom_Mix.mono _ _
      | exact screelaw10_awake.mono _
      | exact LeO.none _
      | refine LeO.ite ?_ ?_
      | refine LeO.bind ?_ (fun _ => ?_)
set_option maxHeartbeats 8000000 in
set_option maxRecDepth 100000 in
theorem screelaw10_BloomTwice.calls (k : Nat) (a0 : ByteArray) (a1 : ByteArray) (a2 : Int) (r : Bool) (w : World) (h : screelaw10_BloomTwice.f k a0 a1 a2 = some r) :
    Calls Try.prog 9 #[.string a0, .string a1, .int .u16 a2] w fun e w' => e = .returned (.bool r) ∧ Below w.heap.size w w' := by
  have HB := Aside0.mk (Below.refl w.heap.size w)
  have H : ((screelaw10_awake.f k).bind fun t215 => (if t215 = true then (if (a0.size : Int) > 300 then (screelaw10_BloomTwice.j0 k a0 a1 a2 true) else (screelaw10_BloomTwice.j0 k a0 a1 a2 (decide ((a1.size : Int) > 300)))) else (none))) = some r := h
  clear h
  replace H := Option.bind_eq_some_iff.mp H
  obtain ⟨t215, A40, H⟩ := H
  replace H : (if t215 = true then (if (a0.size : Int) > 300 then (screelaw10_BloomTwice.j0 k a0 a1 a2 true) else (screelaw10_BloomTwice.j0 k a0 a1 a2 (decide ((a1.size : Int) > 300)))) else (none)) = some r := H
  have A4 := Aside0.mk A40
  clear A40
  by_cases c5 : t215 = true
  · subst c5
    have H1 : (if (a0.size : Int) > 300 then (screelaw10_BloomTwice.j0 k a0 a1 a2 true) else (screelaw10_BloomTwice.j0 k a0 a1 a2 (decide ((a1.size : Int) > 300)))) = some r := by rw [if_pos rfl] at H; exact H
    clear H
    have H := H1
    clear H1
    have HC6 := Aside0.mk H
    clear H
    go_enter Try.func9, Try.ntmps9
    go_upto_region 3 with (first | (go_at_call 10; (with_reducible refine (screelaw10_awake.calls k  true _ A4.out).mono ?_); rintro e w7 ⟨rfl, hb⟩; have n0_ := Aside0.mk (below_step (by repeat (first | (with_reducible first | exact HB.out | apply below_alloc | apply pw_below_drewN | apply below_drew1) | exact HB.out)) hb); clear HB; have HB := n0_; clear n0_; (try clear hb); (try clear hb2); (try clear hk); (try clear hi); (try clear A4)))
    repeat (go_quiet (first | (go_at_call 10; (with_reducible refine (screelaw10_awake.calls k  true _ A4.out).mono ?_); rintro e w7 ⟨rfl, hb⟩; have n0_ := Aside0.mk (below_step (by repeat (first | (with_reducible first | exact HB.out | apply below_alloc | apply pw_below_drewN | apply below_drew1) | exact HB.out)) hb); clear HB; have HB := n0_; clear n0_; (try clear hb); (try clear hb2); (try clear hk); (try clear hi); (try clear A4))); go_upto_region 3 with (first | (go_at_call 10; (with_reducible refine (screelaw10_awake.calls k  true _ A4.out).mono ?_); rintro e w7 ⟨rfl, hb⟩; have n0_ := Aside0.mk (below_step (by repeat (first | (with_reducible first | exact HB.out | apply below_alloc | apply pw_below_drewN | apply below_drew1) | exact HB.out)) hb); clear HB; have HB := n0_; clear n0_; (try clear hb); (try clear hb2); (try clear hk); (try clear hi); (try clear A4))))
    (try simp only [Act.put, List.setIfInBounds_toArray, List.set_cons_zero, List.set_cons_succ])
    go_cut [23] (fun v23 wc => ∃ (kq : Nat) (x23_5 : Bool), v23 = .bool x23_5 ∧ Aside0 (screelaw10_BloomTwice.j0 kq a0 a1 a2 x23_5 = some r) ∧ Aside0 (kq ≤ k) ∧ Aside0 (Below w.heap.size w wc))
    case first =>
      have H := HC6.out
      clear HC6
      by_cases c8 : (a0.size : Int) > 300
      · rw [if_pos c8] at H
        have c8b0 : decide (300 < (a0.size : Int)) = true := decide_eq_true c8
        have c8b1 : decide (300 < a0.size) = true := decide_eq_true (by omega)
        clear c8
        (first | rw [c8b0] | (simp only [i64_w, i32_w]; rw [c8b0]) | skip)
        have H' := Aside0.mk H
        clear H
        go_wp2
        repeat (go_quiet (fail); try go_wp2)
        go_meet
        case rel => exact ⟨_, (true), (by first | rfl | (simp; done) | (simp [*]; done)), (by first | (with_reducible exact H') | exact H' | (subst_vars; exact H')), ⟨by first | omega | exact Nat.le_refl _⟩, ⟨by repeat (first | (with_reducible first | exact HB.out | apply below_alloc | apply pw_below_drewN | apply below_drew1) | exact HB.out)⟩⟩
      · rw [if_neg c8] at H
        have c8b0 : decide (300 < (a0.size : Int)) = false := decide_eq_false c8
        have c8b1 : decide (300 < a0.size) = false := decide_eq_false (by omega)
        clear c8
        (first | rw [c8b0] | (simp only [i64_w, i32_w]; rw [c8b0]) | skip)
        have H' := Aside0.mk H
        clear H
        go_wp2
        repeat (go_quiet (fail); try go_wp2)
        go_meet
        case rel => exact ⟨_, (decide ((a1.size : Int) > 300)), (by first | rfl | (simp; done) | (simp [*]; done)), (by first | (with_reducible exact H') | exact H' | (subst_vars; exact H')), ⟨by first | omega | exact Nat.le_refl _⟩, ⟨by repeat (first | (with_reducible first | exact HB.out | apply below_alloc | apply pw_below_drewN | apply below_drew1) | exact HB.out)⟩⟩
    case rest =>
      clear HC6
      try clear p2
      try clear c5
      try clear c8
      try clear c8b0
      try clear c8b1
      obtain ⟨kq, x23_5, rfl, HA, HJ5, HB⟩ := hcut
      cases kq with
      | zero => exact absurd HA.out (by simp [screelaw10_BloomTwice.j0])
      | succ kj5 =>
        have H := HA.out
        clear HA
        simp only [screelaw10_BloomTwice.j0] at H
        by_cases c9 : x23_5 = true
        · subst c9
          have H1 : (some true) = some r := by rw [if_pos rfl] at H; exact H
          clear H
          have H := H1
          clear H1
          obtain rfl := Option.some.inj H
          go_wp2
          repeat (go_quiet (fail); try go_wp2)
          go_ret
          exact ⟨by first | rfl | (simp [errW_none, errW_some] <;> rfl) | (simp (disch := omega) only [← i64_w, IntWalk.i64_in]; rfl) | (simp [*, errW_none, errW_some] <;> rfl), by repeat (first | (with_reducible first | exact HB.out | apply below_alloc | apply pw_below_drewN | apply below_drew1) | exact HB.out)⟩
        · replace c9 := Bool.eq_false_iff.mpr c9
          subst c9
          have H1 : ((bloom_Make.f kj5 (([a0, a0, a1] : List ByteArray))).bind fun bt219 => ((bloom_Make.f kj5 (([a1, a0, a1] : List ByteArray))).bind fun bt224 => ((bloom_Bits.f kj5 a0 (wrap64 (a2))).bind fun t226 => ((bloom_Bits.f kj5 a0 (wrap64 (a2))).bind fun t229 => (if (t226.length : Int) = (t229.length : Int) then (screelaw10_BloomTwice.l0 kj5 a0 a1 bt219.1 bt219.2 bt224.1 bt224.2 t226 t229 (t226.length : Int) 0) else (none)))))) = some r := by rw [if_neg (show ¬ (false = true) by decide)] at H; exact H
          clear H
          have H := H1
          clear H1
          obtain ⟨y216, hy216⟩ : ∃ y_ : List ByteArray, y_ = (([a0, a0, a1] : List ByteArray)) := ⟨_, rfl⟩
          replace H : ((bloom_Make.f kj5 y216).bind fun bt219 => ((bloom_Make.f kj5 (([a1, a0, a1] : List ByteArray))).bind fun bt224 => ((bloom_Bits.f kj5 a0 (wrap64 (a2))).bind fun t226 => ((bloom_Bits.f kj5 a0 (wrap64 (a2))).bind fun t229 => (if (t226.length : Int) = (t229.length : Int) then (screelaw10_BloomTwice.l0 kj5 a0 a1 bt219.1 bt219.2 bt224.1 bt224.2 t226 t229 (t226.length : Int) 0) else (none)))))) = some r := by first | (rw [hy216]; with_reducible exact H) | (have H2_ := (Option.bind_some _ _).symm.trans H; rw [hy216]; with_reducible exact H2_) | (have H2_ := (Option.bind_some _ _).symm.trans H; with_reducible exact H2_) | with_reducible exact H | (rw [hy216]; exact H) | exact H
          have Ny216 := Aside0.mk hy216
          clear hy216
          replace H := Option.bind_eq_some_iff.mp H
          obtain ⟨⟨t219, t220⟩, A100, H⟩ := H
          replace H : ((bloom_Make.f kj5 (([a1, a0, a1] : List ByteArray))).bind fun bt224 => ((bloom_Bits.f kj5 a0 (wrap64 (a2))).bind fun t226 => ((bloom_Bits.f kj5 a0 (wrap64 (a2))).bind fun t229 => (if (t226.length : Int) = (t229.length : Int) then (screelaw10_BloomTwice.l0 kj5 a0 a1 t219 t220 bt224.1 bt224.2 t226 t229 (t226.length : Int) 0) else (none))))) = some r := H
          have A10 := Aside0.mk A100
          clear A100
          obtain ⟨y221, hy221⟩ : ∃ y_ : List ByteArray, y_ = (([a1, a0, a1] : List ByteArray)) := ⟨_, rfl⟩
          replace H : ((bloom_Make.f kj5 y221).bind fun bt224 => ((bloom_Bits.f kj5 a0 (wrap64 (a2))).bind fun t226 => ((bloom_Bits.f kj5 a0 (wrap64 (a2))).bind fun t229 => (if (t226.length : Int) = (t229.length : Int) then (screelaw10_BloomTwice.l0 kj5 a0 a1 t219 t220 bt224.1 bt224.2 t226 t229 (t226.length : Int) 0) else (none))))) = some r := by first | (rw [hy221]; with_reducible exact H) | (have H2_ := (Option.bind_some _ _).symm.trans H; rw [hy221]; with_reducible exact H2_) | (have H2_ := (Option.bind_some _ _).symm.trans H; with_reducible exact H2_) | with_reducible exact H | (rw [hy221]; exact H) | exact H
          have Ny221 := Aside0.mk hy221
          clear hy221
          replace H := Option.bind_eq_some_iff.mp H
          obtain ⟨⟨t224, t225⟩, A110, H⟩ := H
          replace H : ((bloom_Bits.f kj5 a0 (wrap64 (a2))).bind fun t226 => ((bloom_Bits.f kj5 a0 (wrap64 (a2))).bind fun t229 => (if (t226.length : Int) = (t229.length : Int) then (screelaw10_BloomTwice.l0 kj5 a0 a1 t219 t220 t224 t225 t226 t229 (t226.length : Int) 0) else (none)))) = some r := H
          have A11 := Aside0.mk A110
          clear A110
          replace H := Option.bind_eq_some_iff.mp H
          obtain ⟨t226, A120, H⟩ := H
          replace H : ((bloom_Bits.f kj5 a0 (wrap64 (a2))).bind fun t229 => (if (t226.length : Int) = (t229.length : Int) then (screelaw10_BloomTwice.l0 kj5 a0 a1 t219 t220 t224 t225 t226 t229 (t226.length : Int) 0) else (none))) = some r := H
          have A12 := Aside0.mk A120
          clear A120
          replace H := Option.bind_eq_some_iff.mp H
          obtain ⟨t229, A130, H⟩ := H
          replace H : (if (t226.length : Int) = (t229.length : Int) then (screelaw10_BloomTwice.l0 kj5 a0 a1 t219 t220 t224 t225 t226 t229 (t226.length : Int) 0) else (none)) = some r := H
          have A13 := Aside0.mk A130
          clear A130
          by_cases c14 : (t226.length : Int) = (t229.length : Int)
          · rw [if_pos c14] at H
            have c14b0 : ((t226.length : Int) == (t229.length : Int)) = true := beq_iff_eq.mpr c14
            have c14b1 : ((t226.length : Int) != (t229.length : Int)) = false := bne_eq_false_iff_eq.mpr c14
            have c14b2 : (t226.length == t229.length) = true := by first | simpa using c14 | (simp at c14 ⊢; omega)
            clear c14
            have H' := Aside0.mk H
            clear H
            go_wp2_with (first | ((with_reducible refine gate_dst (N := 28) rfl ?_); (try (refine gate_guard (by rfl) ?_; dsimp only)); refine Kd.R_lit Kd.string _ 9 ?hg (N := 28) ?hd (xs := ([a0, a0, a1] : List ByteArray)) (inner := [.string a0, .string a0, .string a1]) (ok := fun _ => True) (okp := fun _ => True) ?hr ?hp (fun _ hk => hk) trivial (Below.refl _ _) (Nat.le_refl _) (by simp) ?_; (case hd => rfl); (case hg => rfl); (case hr => first | (go_simp; done) | (go_simp; rfl)); (case hp => exact (Reps.one (show Kd.M Kd.string _ _ _ a0 [.string a0] from rfl) (Reps.one (show Kd.M Kd.string _ _ _ a0 [.string a0] from rfl) (Reps.one (show Kd.M Kd.string _ _ _ a1 [.string a1] from rfl) (Reps.none _ _))))); intro v217 w15 ho16 hb hg_ hnew_; clear hg_ hnew_; (first | rw [← Ny216.out] at ho16 | (simp only [Int.reduceToNat] at ho16; rw [← Ny216.out] at ho16)); have n0_ := Aside0.mk (Kd.R_lower ho16 (below_size (by repeat (first | (with_reducible first | exact HB.out | apply below_alloc | apply pw_below_drewN | apply below_drew1) | exact HB.out)))); have n1_ := Aside0.mk (below_step (by repeat (first | (with_reducible first | exact HB.out | apply below_alloc | apply pw_below_drewN | apply below_drew1) | exact HB.out)) hb); clear HB; have HO218 := n0_; have HB := n1_; clear n0_ n1_; clear hb ho16; obtain ⟨Ao17, co17, eo17⟩ := Kd.R_slice HO218.out; subst eo17) | (go_at_call 12; (with_reducible refine (bloom_Make.calls kj5 _ _ y216 t219 t220 _ ?side1 ?side2 A10.out).mono ?_); (case side1 => repeat (first | exact (Kd.R_reads' HO218.out).2.2 | (with_reducible refine Kd.C_alloc ?_ _) | (with_reducible refine Kd.C_drewN ?_ _) | (with_reducible refine Kd.C_drew ?_))); (case side2 => exact (Kd.R_reads' HO218.out).2.1); rintro e w18 ⟨rfl, hb⟩; have n0_ := Aside0.mk (Kd.R_below (by (with_reducible repeat (first | apply Kd.R_alloc | apply Kd.R_drewN | apply Kd.R_drew)); exact HO218.out) hb); have n1_ := Aside0.mk (below_step (by repeat (first | (with_reducible first | exact HB.out | apply below_alloc | apply pw_below_drewN | apply below_drew1) | exact HB.out)) hb); clear HO218; clear HB; have HO218 := n0_; have HB := n1_; clear n0_ n1_; (try clear hb); (try clear hb2); (try clear hk); (try clear hi); (try clear A10)) | ((with_reducible refine gate_dst (N := 36) rfl ?_); (try (refine gate_guard (by rfl) ?_; dsimp only)); refine Kd.R_lit Kd.string _ 9 ?hg (N := 36) ?hd (xs := ([a1, a0, a1] : List ByteArray)) (inner := [.string a1, .string a0, .string a1]) (ok := fun _ => True) (okp := fun _ => True) ?hr ?hp (fun _ hk => hk) trivial (Below.refl _ _) (Nat.le_refl _) (by simp) ?_; (case hd => rfl); (case hg => rfl); (case hr => first | (go_simp; done) | (go_simp; rfl)); (case hp => exact (Reps.one (show Kd.M Kd.string _ _ _ a1 [.string a1] from rfl) (Reps.one (show Kd.M Kd.string _ _ _ a0 [.string a0] from rfl) (Reps.one (show Kd.M Kd.string _ _ _ a1 [.string a1] from rfl) (Reps.none _ _))))); intro v222 w19 ho20 hb hg_ hnew_; clear hg_ hnew_; (first | rw [← Ny221.out] at ho20 | (simp only [Int.reduceToNat] at ho20; rw [← Ny221.out] at ho20)); have n0_ := Aside0.mk (Kd.R_elder' (by (with_reducible repeat (first | apply Kd.R_alloc | apply Kd.R_drewN | apply Kd.R_drew)); exact HO218.out) (Kd.R_base ho20) hb); have n1_ := Aside0.mk (Kd.R_lower (Kd.R_new' ho20 (Kd.R_lt (by (with_reducible repeat (first | apply Kd.R_alloc | apply Kd.R_drewN | apply Kd.R_drew)); exact HO218.out))) (below_size (by repeat (first | (with_reducible first | exact HB.out | apply below_alloc | apply pw_below_drewN | apply below_drew1) | exact HB.out)))); have n2_ := Aside0.mk (below_step (by repeat (first | (with_reducible first | exact HB.out | apply below_alloc | apply pw_below_drewN | apply below_drew1) | exact HB.out)) hb); clear HO218; clear HB; have HO218 := n0_; have HO223 := n1_; have HB := n2_; clear n0_ n1_ n2_; clear hb ho20; obtain ⟨Ao21, co21, eo21⟩ := Kd.R_slice HO223.out; subst eo21) | (go_at_call 12; (with_reducible refine (bloom_Make.calls kj5 _ _ y221 t224 t225 _ ?side1 ?side2 A11.out).mono ?_); (case side1 => repeat (first | exact (Kd.R_reads' HO223.out).2.2 | (with_reducible refine Kd.C_alloc ?_ _) | (with_reducible refine Kd.C_drewN ?_ _) | (with_reducible refine Kd.C_drew ?_))); (case side2 => exact (Kd.R_reads' HO223.out).2.1); rintro e w22 ⟨rfl, hb⟩; have n0_ := Aside0.mk (Kd.R_below (by (with_reducible repeat (first | apply Kd.R_alloc | apply Kd.R_drewN | apply Kd.R_drew)); exact HO218.out) hb); have n1_ := Aside0.mk (Kd.R_below (by (with_reducible repeat (first | apply Kd.R_alloc | apply Kd.R_drewN | apply Kd.R_drew)); exact HO223.out) hb); have n2_ := Aside0.mk (below_step (by repeat (first | (with_reducible first | exact HB.out | apply below_alloc | apply pw_below_drewN | apply below_drew1) | exact HB.out)) hb); clear HO218; clear HO223; clear HB; have HO218 := n0_; have HO223 := n1_; have HB := n2_; clear n0_ n1_ n2_; (try clear hb); (try clear hb2); (try clear hk); (try clear hi); (try clear A11)) | (go_at_call 20; (with_reducible refine (bloom_Bits.calls kj5 a0 (wrap64 (a2)) t226 _ A12.out).mono ?_); rintro e w23 ⟨v227, rfl, ho0, hb⟩; have n0_ := Aside0.mk (Kd.R_below (by (with_reducible repeat (first | apply Kd.R_alloc | apply Kd.R_drewN | apply Kd.R_drew)); exact HO218.out) hb); have n1_ := Aside0.mk (Kd.R_below (by (with_reducible repeat (first | apply Kd.R_alloc | apply Kd.R_drewN | apply Kd.R_drew)); exact HO223.out) hb); have n2_ := Aside0.mk (Kd.R_lower ho0 (below_size (by repeat (first | (with_reducible first | exact HB.out | apply below_alloc | apply pw_below_drewN | apply below_drew1) | exact HB.out)))); have n3_ := Aside0.mk (below_step (by repeat (first | (with_reducible first | exact HB.out | apply below_alloc | apply pw_below_drewN | apply below_drew1) | exact HB.out)) hb); clear HO218; clear HO223; clear HB; have HO218 := n0_; have HO223 := n1_; have HO228 := n2_; have HB := n3_; clear n0_ n1_ n2_ n3_; (try clear hb); (try clear hb2); (try clear hk); (try clear hi); (try clear ho0); (try clear A12)) | (go_at_call 20; (with_reducible refine (bloom_Bits.calls kj5 a0 (wrap64 (a2)) t229 _ A13.out).mono ?_); rintro e w24 ⟨v230, rfl, ho0, hb⟩; have n0_ := Aside0.mk (Kd.R_below (by (with_reducible repeat (first | apply Kd.R_alloc | apply Kd.R_drewN | apply Kd.R_drew)); exact HO218.out) hb); have n1_ := Aside0.mk (Kd.R_below (by (with_reducible repeat (first | apply Kd.R_alloc | apply Kd.R_drewN | apply Kd.R_drew)); exact HO223.out) hb); have n2_ := Aside0.mk (Kd.R_elder' (by (with_reducible repeat (first | apply Kd.R_alloc | apply Kd.R_drewN | apply Kd.R_drew)); exact HO228.out) (Kd.R_base ho0) hb); have n3_ := Aside0.mk (Kd.R_lower (Kd.R_new' ho0 (Kd.R_lt (by (with_reducible repeat (first | apply Kd.R_alloc | apply Kd.R_drewN | apply Kd.R_drew)); exact HO228.out))) (below_size (by repeat (first | (with_reducible first | exact HB.out | apply below_alloc | apply pw_below_drewN | apply below_drew1) | exact HB.out)))); have n4_ := Aside0.mk (below_step (by repeat (first | (with_reducible first | exact HB.out | apply below_alloc | apply pw_below_drewN | apply below_drew1) | exact HB.out)) hb); clear HO218; clear HO223; clear HO228; clear HB; have HO218 := n0_; have HO223 := n1_; have HO228 := n2_; have HO231 := n3_; have HB := n4_; clear n0_ n1_ n2_ n3_ n4_; (try clear hb); (try clear hb2); (try clear hk); (try clear hi); (try clear ho0); (try clear A13); obtain ⟨Ao25, co25, eo25⟩ := Kd.R_slice HO228.out; subst eo25; obtain ⟨Ao26, co26, eo26⟩ := Kd.R_slice HO231.out; subst eo26))
            repeat (go_quiet (first | ((with_reducible refine gate_dst (N := 28) rfl ?_); (try (refine gate_guard (by rfl) ?_; dsimp only)); refine Kd.R_lit Kd.string _ 9 ?hg (N := 28) ?hd (xs := ([a0, a0, a1] : List ByteArray)) (inner := [.string a0, .string a0, .string a1]) (ok := fun _ => True) (okp := fun _ => True) ?hr ?hp (fun _ hk => hk) trivial (Below.refl _ _) (Nat.le_refl _) (by simp) ?_; (case hd => rfl); (case hg => rfl); (case hr => first | (go_simp; done) | (go_simp; rfl)); (case hp => exact (Reps.one (show Kd.M Kd.string _ _ _ a0 [.string a0] from rfl) (Reps.one (show Kd.M Kd.string _ _ _ a0 [.string a0] from rfl) (Reps.one (show Kd.M Kd.string _ _ _ a1 [.string a1] from rfl) (Reps.none _ _))))); intro v217 w15 ho16 hb hg_ hnew_; clear hg_ hnew_; (first | rw [← Ny216.out] at ho16 | (simp only [Int.reduceToNat] at ho16; rw [← Ny216.out] at ho16)); have n0_ := Aside0.mk (Kd.R_lower ho16 (below_size (by repeat (first | (with_reducible first | exact HB.out | apply below_alloc | apply pw_below_drewN | apply below_drew1) | exact HB.out)))); have n1_ := Aside0.mk (below_step (by repeat (first | (with_reducible first | exact HB.out | apply below_alloc | apply pw_below_drewN | apply below_drew1) | exact HB.out)) hb); clear HB; have HO218 := n0_; have HB := n1_; clear n0_ n1_; clear hb ho16; obtain ⟨Ao17, co17, eo17⟩ := Kd.R_slice HO218.out; subst eo17) | (go_at_call 12; (with_reducible refine (bloom_Make.calls kj5 _ _ y216 t219 t220 _ ?side1 ?side2 A10.out).mono ?_); (case side1 => repeat (first | exact (Kd.R_reads' HO218.out).2.2 | (with_reducible refine Kd.C_alloc ?_ _) | (with_reducible refine Kd.C_drewN ?_ _) | (with_reducible refine Kd.C_drew ?_))); (case side2 => exact (Kd.R_reads' HO218.out).2.1); rintro e w18 ⟨rfl, hb⟩; have n0_ := Aside0.mk (Kd.R_below (by (with_reducible repeat (first | apply Kd.R_alloc | apply Kd.R_drewN | apply Kd.R_drew)); exact HO218.out) hb); have n1_ := Aside0.mk (below_step (by repeat (first | (with_reducible first | exact HB.out | apply below_alloc | apply pw_below_drewN | apply below_drew1) | exact HB.out)) hb); clear HO218; clear HB; have HO218 := n0_; have HB := n1_; clear n0_ n1_; (try clear hb); (try clear hb2); (try clear hk); (try clear hi); (try clear A10)) | ((with_reducible refine gate_dst (N := 36) rfl ?_); (try (refine gate_guard (by rfl) ?_; dsimp only)); refine Kd.R_lit Kd.string _ 9 ?hg (N := 36) ?hd (xs := ([a1, a0, a1] : List ByteArray)) (inner := [.string a1, .string a0, .string a1]) (ok := fun _ => True) (okp := fun _ => True) ?hr ?hp (fun _ hk => hk) trivial (Below.refl _ _) (Nat.le_refl _) (by simp) ?_; (case hd => rfl); (case hg => rfl); (case hr => first | (go_simp; done) | (go_simp; rfl)); (case hp => exact (Reps.one (show Kd.M Kd.string _ _ _ a1 [.string a1] from rfl) (Reps.one (show Kd.M Kd.string _ _ _ a0 [.string a0] from rfl) (Reps.one (show Kd.M Kd.string _ _ _ a1 [.string a1] from rfl) (Reps.none _ _))))); intro v222 w19 ho20 hb hg_ hnew_; clear hg_ hnew_; (first | rw [← Ny221.out] at ho20 | (simp only [Int.reduceToNat] at ho20; rw [← Ny221.out] at ho20)); have n0_ := Aside0.mk (Kd.R_elder' (by (with_reducible repeat (first | apply Kd.R_alloc | apply Kd.R_drewN | apply Kd.R_drew)); exact HO218.out) (Kd.R_base ho20) hb); have n1_ := Aside0.mk (Kd.R_lower (Kd.R_new' ho20 (Kd.R_lt (by (with_reducible repeat (first | apply Kd.R_alloc | apply Kd.R_drewN | apply Kd.R_drew)); exact HO218.out))) (below_size (by repeat (first | (with_reducible first | exact HB.out | apply below_alloc | apply pw_below_drewN | apply below_drew1) | exact HB.out)))); have n2_ := Aside0.mk (below_step (by repeat (first | (with_reducible first | exact HB.out | apply below_alloc | apply pw_below_drewN | apply below_drew1) | exact HB.out)) hb); clear HO218; clear HB; have HO218 := n0_; have HO223 := n1_; have HB := n2_; clear n0_ n1_ n2_; clear hb ho20; obtain ⟨Ao21, co21, eo21⟩ := Kd.R_slice HO223.out; subst eo21) | (go_at_call 12; (with_reducible refine (bloom_Make.calls kj5 _ _ y221 t224 t225 _ ?side1 ?side2 A11.out).mono ?_); (case side1 => repeat (first | exact (Kd.R_reads' HO223.out).2.2 | (with_reducible refine Kd.C_alloc ?_ _) | (with_reducible refine Kd.C_drewN ?_ _) | (with_reducible refine Kd.C_drew ?_))); (case side2 => exact (Kd.R_reads' HO223.out).2.1); rintro e w22 ⟨rfl, hb⟩; have n0_ := Aside0.mk (Kd.R_below (by (with_reducible repeat (first | apply Kd.R_alloc | apply Kd.R_drewN | apply Kd.R_drew)); exact HO218.out) hb); have n1_ := Aside0.mk (Kd.R_below (by (with_reducible repeat (first | apply Kd.R_alloc | apply Kd.R_drewN | apply Kd.R_drew)); exact HO223.out) hb); have n2_ := Aside0.mk (below_step (by repeat (first | (with_reducible first | exact HB.out | apply below_alloc | apply pw_below_drewN | apply below_drew1) | exact HB.out)) hb); clear HO218; clear HO223; clear HB; have HO218 := n0_; have HO223 := n1_; have HB := n2_; clear n0_ n1_ n2_; (try clear hb); (try clear hb2); (try clear hk); (try clear hi); (try clear A11)) | (go_at_call 20; (with_reducible refine (bloom_Bits.calls kj5 a0 (wrap64 (a2)) t226 _ A12.out).mono ?_); rintro e w23 ⟨v227, rfl, ho0, hb⟩; have n0_ := Aside0.mk (Kd.R_below (by (with_reducible repeat (first | apply Kd.R_alloc | apply Kd.R_drewN | apply Kd.R_drew)); exact HO218.out) hb); have n1_ := Aside0.mk (Kd.R_below (by (with_reducible repeat (first | apply Kd.R_alloc | apply Kd.R_drewN | apply Kd.R_drew)); exact HO223.out) hb); have n2_ := Aside0.mk (Kd.R_lower ho0 (below_size (by repeat (first | (with_reducible first | exact HB.out | apply below_alloc | apply pw_below_drewN | apply below_drew1) | exact HB.out)))); have n3_ := Aside0.mk (below_step (by repeat (first | (with_reducible first | exact HB.out | apply below_alloc | apply pw_below_drewN | apply below_drew1) | exact HB.out)) hb); clear HO218; clear HO223; clear HB; have HO218 := n0_; have HO223 := n1_; have HO228 := n2_; have HB := n3_; clear n0_ n1_ n2_ n3_; (try clear hb); (try clear hb2); (try clear hk); (try clear hi); (try clear ho0); (try clear A12)) | (go_at_call 20; (with_reducible refine (bloom_Bits.calls kj5 a0 (wrap64 (a2)) t229 _ A13.out).mono ?_); rintro e w24 ⟨v230, rfl, ho0, hb⟩; have n0_ := Aside0.mk (Kd.R_below (by (with_reducible repeat (first | apply Kd.R_alloc | apply Kd.R_drewN | apply Kd.R_drew)); exact HO218.out) hb); have n1_ := Aside0.mk (Kd.R_below (by (with_reducible repeat (first | apply Kd.R_alloc | apply Kd.R_drewN | apply Kd.R_drew)); exact HO223.out) hb); have n2_ := Aside0.mk (Kd.R_elder' (by (with_reducible repeat (first | apply Kd.R_alloc | apply Kd.R_drewN | apply Kd.R_drew)); exact HO228.out) (Kd.R_base ho0) hb); have n3_ := Aside0.mk (Kd.R_lower (Kd.R_new' ho0 (Kd.R_lt (by (with_reducible repeat (first | apply Kd.R_alloc | apply Kd.R_drewN | apply Kd.R_drew)); exact HO228.out))) (below_size (by repeat (first | (with_reducible first | exact HB.out | apply below_alloc | apply pw_below_drewN | apply below_drew1) | exact HB.out)))); have n4_ := Aside0.mk (below_step (by repeat (first | (with_reducible first | exact HB.out | apply below_alloc | apply pw_below_drewN | apply below_drew1) | exact HB.out)) hb); clear HO218; clear HO223; clear HO228; clear HB; have HO218 := n0_; have HO223 := n1_; have HO228 := n2_; have HO231 := n3_; have HB := n4_; clear n0_ n1_ n2_ n3_ n4_; (try clear hb); (try clear hb2); (try clear hk); (try clear hi); (try clear ho0); (try clear A13); obtain ⟨Ao25, co25, eo25⟩ := Kd.R_slice HO228.out; subst eo25; obtain ⟨Ao26, co26, eo26⟩ := Kd.R_slice HO231.out; subst eo26)); try go_wp2_with (first | ((with_reducible refine gate_dst (N := 28) rfl ?_); (try (refine gate_guard (by rfl) ?_; dsimp only)); refine Kd.R_lit Kd.string _ 9 ?hg (N := 28) ?hd (xs := ([a0, a0, a1] : List ByteArray)) (inner := [.string a0, .string a0, .string a1]) (ok := fun _ => True) (okp := fun _ => True) ?hr ?hp (fun _ hk => hk) trivial (Below.refl _ _) (Nat.le_refl _) (by simp) ?_; (case hd => rfl); (case hg => rfl); (case hr => first | (go_simp; done) | (go_simp; rfl)); (case hp => exact (Reps.one (show Kd.M Kd.string _ _ _ a0 [.string a0] from rfl) (Reps.one (show Kd.M Kd.string _ _ _ a0 [.string a0] from rfl) (Reps.one (show Kd.M Kd.string _ _ _ a1 [.string a1] from rfl) (Reps.none _ _))))); intro v217 w15 ho16 hb hg_ hnew_; clear hg_ hnew_; (first | rw [← Ny216.out] at ho16 | (simp only [Int.reduceToNat] at ho16; rw [← Ny216.out] at ho16)); have n0_ := Aside0.mk (Kd.R_lower ho16 (below_size (by repeat (first | (with_reducible first | exact HB.out | apply below_alloc | apply pw_below_drewN | apply below_drew1) | exact HB.out)))); have n1_ := Aside0.mk (below_step (by repeat (first | (with_reducible first | exact HB.out | apply below_alloc | apply pw_below_drewN | apply below_drew1) | exact HB.out)) hb); clear HB; have HO218 := n0_; have HB := n1_; clear n0_ n1_; clear hb ho16; obtain ⟨Ao17, co17, eo17⟩ := Kd.R_slice HO218.out; subst eo17) | (go_at_call 12; (with_reducible refine (bloom_Make.calls kj5 _ _ y216 t219 t220 _ ?side1 ?side2 A10.out).mono ?_); (case side1 => repeat (first | exact (Kd.R_reads' HO218.out).2.2 | (with_reducible refine Kd.C_alloc ?_ _) | (with_reducible refine Kd.C_drewN ?_ _) | (with_reducible refine Kd.C_drew ?_))); (case side2 => exact (Kd.R_reads' HO218.out).2.1); rintro e w18 ⟨rfl, hb⟩; have n0_ := Aside0.mk (Kd.R_below (by (with_reducible repeat (first | apply Kd.R_alloc | apply Kd.R_drewN | apply Kd.R_drew)); exact HO218.out) hb); have n1_ := Aside0.mk (below_step (by repeat (first | (with_reducible first | exact HB.out | apply below_alloc | apply pw_below_drewN | apply below_drew1) | exact HB.out)) hb); clear HO218; clear HB; have HO218 := n0_; have HB := n1_; clear n0_ n1_; (try clear hb); (try clear hb2); (try clear hk); (try clear hi); (try clear A10)) | ((with_reducible refine gate_dst (N := 36) rfl ?_); (try (refine gate_guard (by rfl) ?_; dsimp only)); refine Kd.R_lit Kd.string _ 9 ?hg (N := 36) ?hd (xs := ([a1, a0, a1] : List ByteArray)) (inner := [.string a1, .string a0, .string a1]) (ok := fun _ => True) (okp := fun _ => True) ?hr ?hp (fun _ hk => hk) trivial (Below.refl _ _) (Nat.le_refl _) (by simp) ?_; (case hd => rfl); (case hg => rfl); (case hr => first | (go_simp; done) | (go_simp; rfl)); (case hp => exact (Reps.one (show Kd.M Kd.string _ _ _ a1 [.string a1] from rfl) (Reps.one (show Kd.M Kd.string _ _ _ a0 [.string a0] from rfl) (Reps.one (show Kd.M Kd.string _ _ _ a1 [.string a1] from rfl) (Reps.none _ _))))); intro v222 w19 ho20 hb hg_ hnew_; clear hg_ hnew_; (first | rw [← Ny221.out] at ho20 | (simp only [Int.reduceToNat] at ho20; rw [← Ny221.out] at ho20)); have n0_ := Aside0.mk (Kd.R_elder' (by (with_reducible repeat (first | apply Kd.R_alloc | apply Kd.R_drewN | apply Kd.R_drew)); exact HO218.out) (Kd.R_base ho20) hb); have n1_ := Aside0.mk (Kd.R_lower (Kd.R_new' ho20 (Kd.R_lt (by (with_reducible repeat (first | apply Kd.R_alloc | apply Kd.R_drewN | apply Kd.R_drew)); exact HO218.out))) (below_size (by repeat (first | (with_reducible first | exact HB.out | apply below_alloc | apply pw_below_drewN | apply below_drew1) | exact HB.out)))); have n2_ := Aside0.mk (below_step (by repeat (first | (with_reducible first | exact HB.out | apply below_alloc | apply pw_below_drewN | apply below_drew1) | exact HB.out)) hb); clear HO218; clear HB; have HO218 := n0_; have HO223 := n1_; have HB := n2_; clear n0_ n1_ n2_; clear hb ho20; obtain ⟨Ao21, co21, eo21⟩ := Kd.R_slice HO223.out; subst eo21) | (go_at_call 12; (with_reducible refine (bloom_Make.calls kj5 _ _ y221 t224 t225 _ ?side1 ?side2 A11.out).mono ?_); (case side1 => repeat (first | exact (Kd.R_reads' HO223.out).2.2 | (with_reducible refine Kd.C_alloc ?_ _) | (with_reducible refine Kd.C_drewN ?_ _) | (with_reducible refine Kd.C_drew ?_))); (case side2 => exact (Kd.R_reads' HO223.out).2.1); rintro e w22 ⟨rfl, hb⟩; have n0_ := Aside0.mk (Kd.R_below (by (with_reducible repeat (first | apply Kd.R_alloc | apply Kd.R_drewN | apply Kd.R_drew)); exact HO218.out) hb); have n1_ := Aside0.mk (Kd.R_below (by (with_reducible repeat (first | apply Kd.R_alloc | apply Kd.R_drewN | apply Kd.R_drew)); exact HO223.out) hb); have n2_ := Aside0.mk (below_step (by repeat (first | (with_reducible first | exact HB.out | apply below_alloc | apply pw_below_drewN | apply below_drew1) | exact HB.out)) hb); clear HO218; clear HO223; clear HB; have HO218 := n0_; have HO223 := n1_; have HB := n2_; clear n0_ n1_ n2_; (try clear hb); (try clear hb2); (try clear hk); (try clear hi); (try clear A11)) | (go_at_call 20; (with_reducible refine (bloom_Bits.calls kj5 a0 (wrap64 (a2)) t226 _ A12.out).mono ?_); rintro e w23 ⟨v227, rfl, ho0, hb⟩; have n0_ := Aside0.mk (Kd.R_below (by (with_reducible repeat (first | apply Kd.R_alloc | apply Kd.R_drewN | apply Kd.R_drew)); exact HO218.out) hb); have n1_ := Aside0.mk (Kd.R_below (by (with_reducible repeat (first | apply Kd.R_alloc | apply Kd.R_drewN | apply Kd.R_drew)); exact HO223.out) hb); have n2_ := Aside0.mk (Kd.R_lower ho0 (below_size (by repeat (first | (with_reducible first | exact HB.out | apply below_alloc | apply pw_below_drewN | apply below_drew1) | exact HB.out)))); have n3_ := Aside0.mk (below_step (by repeat (first | (with_reducible first | exact HB.out | apply below_alloc | apply pw_below_drewN | apply below_drew1) | exact HB.out)) hb); clear HO218; clear HO223; clear HB; have HO218 := n0_; have HO223 := n1_; have HO228 := n2_; have HB := n3_; clear n0_ n1_ n2_ n3_; (try clear hb); (try clear hb2); (try clear hk); (try clear hi); (try clear ho0); (try clear A12)) | (go_at_call 20; (with_reducible refine (bloom_Bits.calls kj5 a0 (wrap64 (a2)) t229 _ A13.out).mono ?_); rintro e w24 ⟨v230, rfl, ho0, hb⟩; have n0_ := Aside0.mk (Kd.R_below (by (with_reducible repeat (first | apply Kd.R_alloc | apply Kd.R_drewN | apply Kd.R_drew)); exact HO218.out) hb); have n1_ := Aside0.mk (Kd.R_below (by (with_reducible repeat (first | apply Kd.R_alloc | apply Kd.R_drewN | apply Kd.R_drew)); exact HO223.out) hb); have n2_ := Aside0.mk (Kd.R_elder' (by (with_reducible repeat (first | apply Kd.R_alloc | apply Kd.R_drewN | apply Kd.R_drew)); exact HO228.out) (Kd.R_base ho0) hb); have n3_ := Aside0.mk (Kd.R_lower (Kd.R_new' ho0 (Kd.R_lt (by (with_reducible repeat (first | apply Kd.R_alloc | apply Kd.R_drewN | apply Kd.R_drew)); exact HO228.out))) (below_size (by repeat (first | (with_reducible first | exact HB.out | apply below_alloc | apply pw_below_drewN | apply below_drew1) | exact HB.out)))); have n4_ := Aside0.mk (below_step (by repeat (first | (with_reducible first | exact HB.out | apply below_alloc | apply pw_below_drewN | apply below_drew1) | exact HB.out)) hb); clear HO218; clear HO223; clear HO228; clear HB; have HO218 := n0_; have HO223 := n1_; have HO228 := n2_; have HO231 := n3_; have HB := n4_; clear n0_ n1_ n2_ n3_ n4_; (try clear hb); (try clear hb2); (try clear hk); (try clear hi); (try clear ho0); (try clear A13); obtain ⟨Ao25, co25, eo25⟩ := Kd.R_slice HO228.out; subst eo25; obtain ⟨Ao26, co26, eo26⟩ := Kd.R_slice HO231.out; subst eo26)))
            go_loopg [55] kj5 (fun kq v55 w' => ∃ (x55_2 : Int), v55 = .int .i64 x55_2 ∧ Aside0 (screelaw10_BloomTwice.l0 kq a0 a1 t219 t220 t224 t225 t226 t229 (t226.length : Int) x55_2 = some r) ∧ Aside0 (kq ≤ kj5) ∧ Aside0 (Kd.R (Kd.int .i64) 3 w' w.heap.size (fun k_ => some k_ ≠ ((.slice Ao26 t229.length co26) : Value).ownBlock) (.slice Ao25 t226.length co25) t226) ∧ Aside0 (Kd.R (Kd.int .i64) 3 w' w.heap.size (fun k_ => some k_ ≠ ((.slice Ao25 t226.length co25) : Value).ownBlock) (.slice Ao26 t229.length co26) t229) ∧ Aside0 (Below w.heap.size w w'))
            case atStart => exact ⟨(0), (by first | rfl | (simp; done) | (simp [*]; done)), H', ⟨Nat.le_refl _⟩, ⟨by (with_reducible repeat (first | apply Kd.R_alloc | apply Kd.R_drewN | apply Kd.R_drew)); exact Kd.R_mono HO228.out (fun _ hk => hk.2)⟩, ⟨by (with_reducible repeat (first | apply Kd.R_alloc | apply Kd.R_drewN | apply Kd.R_drew)); exact Kd.R_mono HO231.out (fun _ hk => hk.2)⟩, ⟨by repeat (first | (with_reducible first | exact HB.out | apply below_alloc | apply pw_below_drewN | apply below_drew1) | exact HB.out)⟩⟩
            case round =>
              clear H'
              try clear c1
              try clear p2
              try clear c5
              try clear p6
              try clear c8
              try clear c8b0
              try clear c8b1
              try clear c9
              try clear c14
              try clear c14b0
              try clear c14b1
              try clear c14b2
              try clear p2
              obtain ⟨x55_2, rfl, HA, HK2, HO_11, HO_12, HB⟩ := hrel
              cases gk with
              | zero => exact absurd HA.out (by simp [screelaw10_BloomTwice.l0])
              | succ k2 =>
                have H := HA.out
                clear HA
                simp only [screelaw10_BloomTwice.l0] at H
                by_cases c27 : x55_2 < (t226.length : Int)
                · rw [if_pos c27] at H
                  have c27b0 : decide (x55_2 < (t226.length : Int)) = true := decide_eq_true c27
                  clear c27
                  by_cases c28 : 0 ≤ x55_2
                  · rw [if_pos c28] at H
                    have c28b0 : decide (0 ≤ x55_2) = true := decide_eq_true c28
                    clear c28
                    by_cases c29 : x55_2 < (t226.length : Int)
                    · rw [if_pos c29] at H
                      have c29b0 : decide (x55_2 < (t226.length : Int)) = true := decide_eq_true c29
                      clear c29
                      by_cases c30 : x55_2 < (t229.length : Int)
                      · rw [if_pos c30] at H
                        have c30b0 : decide (x55_2 < (t229.length : Int)) = true := decide_eq_true c30
                        clear c30
                        by_cases c31 : (rd t226 x55_2) = (rd t229 x55_2)
                        · rw [if_pos c31] at H
                          have c31b0 : ((rd t226 x55_2) == (rd t229 x55_2)) = true := beq_iff_eq.mpr c31
                          have c31b1 : ((rd t226 x55_2) != (rd t229 x55_2)) = false := bne_eq_false_iff_eq.mpr c31
                          clear c31
                          have H' := Aside0.mk H
                          clear H
                          have p232 : 0 ≤ (x55_2 : Int) := of_decide_eq_true (by first | (with_reducible assumption) | assumption)
                          have q232 : x55_2 < (t226.length : Int) := of_decide_eq_true (by first | (with_reducible assumption) | assumption)
                          obtain ⟨ad232, e232, hx232_0⟩ := Kd.at_int (Kd.R_reads' HO_11.out).2.2 x55_2 p232 q232
                          cases e232
                          replace p232 := eq_true p232
                          replace q232 := eq_true q232
                          have p233 : 0 ≤ (x55_2 : Int) := of_decide_eq_true (by first | (with_reducible assumption) | assumption)
                          have q233 : x55_2 < (t229.length : Int) := of_decide_eq_true (by first | (with_reducible assumption) | assumption)
                          obtain ⟨ad233, e233, hx233_0⟩ := Kd.at_int (Kd.R_reads' HO_12.out).2.2 x55_2 p233 q233
                          cases e233
                          replace p233 := eq_true p233
                          replace q233 := eq_true q233
                          go_wp2
                          repeat (go_quiet (fail); try go_wp2)
                          go_roundg k2
                          case measure => have := HJ5.out; have := HK2.out; omega
                          case rel => exact ⟨(wrap64 (x55_2 + 1)), (by first | rfl | (simp; done) | (simp [*]; done)), (by first | (with_reducible exact H') | exact H' | (subst_vars; exact H')), ⟨by have := HJ5.out; have := HK2.out; omega⟩, ⟨by (with_reducible repeat (first | apply Kd.R_alloc | apply Kd.R_drewN | apply Kd.R_drew)); exact HO_11.out⟩, ⟨by (with_reducible repeat (first | apply Kd.R_alloc | apply Kd.R_drewN | apply Kd.R_drew)); exact HO_12.out⟩, ⟨by repeat (first | (with_reducible first | exact HB.out | apply below_alloc | apply pw_below_drewN | apply below_drew1) | exact HB.out)⟩⟩
                        · rw [if_neg c31] at H
                          exact absurd H (by simp)
                      · rw [if_neg c30] at H
                        exact absurd H (by simp)
                    · rw [if_neg c29] at H
                      exact absurd H (by simp)
                  · rw [if_neg c28] at H
                    exact absurd H (by simp)
                · rw [if_neg c27] at H
                  have c27b0 : decide (x55_2 < (t226.length : Int)) = false := decide_eq_false c27
                  clear c27
                  by_cases c32 : t220 = 0
                  · rw [if_pos c32] at H
                    have c32b0 : (t220 == 0) = true := beq_iff_eq.mpr c32
                    have c32b1 : (t220 != 0) = false := bne_eq_false_iff_eq.mpr c32
                    clear c32
                    by_cases c33 : t225 = 0
                    · rw [if_pos c33] at H
                      have c33b0 : (t225 == 0) = true := beq_iff_eq.mpr c33
                      have c33b1 : (t225 != 0) = false := bne_eq_false_iff_eq.mpr c33
                      clear c33
                      by_cases c34 : t219.toList = t224.toList
                      · rw [if_pos c34] at H
                        have c34b0 : (t219.toList == t224.toList) = true := beq_iff_eq.mpr c34
                        have c34b1 : (t219.toList != t224.toList) = false := bne_eq_false_iff_eq.mpr c34
                        clear c34
                        by_cases c35 : a0.toList = a1.toList
                        · rw [if_pos c35] at H
                          have c35b0 : (a0.toList == a1.toList) = true := beq_iff_eq.mpr c35
                          have c35b1 : (a0.toList != a1.toList) = false := bne_eq_false_iff_eq.mpr c35
                          clear c35
                          replace H := Option.bind_eq_some_iff.mp H
                          obtain ⟨t234, A360, H⟩ := H
                          replace H : ((bloom_Mix.f k2 a1).bind fun t235 => (some (t234 == t235))) = some r := H
                          have A36 := Aside0.mk A360
                          clear A360
                          replace H := Option.bind_eq_some_iff.mp H
                          obtain ⟨t235, A370, H⟩ := H
                          replace H : (some (t234 == t235)) = some r := H
                          have A37 := Aside0.mk A370
                          clear A370
                          obtain rfl := Option.some.inj H
                          go_wp2_with (first | (go_at_call 14; (with_reducible refine (bloom_Mix.calls k2 a0 t234 _ A36.out).mono ?_); rintro e w' ⟨rfl, ⟨nd, rfl⟩⟩; (try first | exact ⟨rfl, _, World.drewN_drewN _ _ _⟩ | exact ⟨rfl, _, Eq.trans (World.drewN_drewN _ _ _) (congrArg (World.drewN _) (Nat.add_assoc _ _ _))⟩)) | (go_at_call 14; (with_reducible refine (bloom_Mix.calls k2 a1 t235 _ A37.out).mono ?_); rintro e w' ⟨rfl, ⟨nd, rfl⟩⟩; (try first | exact ⟨rfl, _, World.drewN_drewN _ _ _⟩ | exact ⟨rfl, _, Eq.trans (World.drewN_drewN _ _ _) (congrArg (World.drewN _) (Nat.add_assoc _ _ _))⟩)))
                          repeat (go_quiet (first | (go_at_call 14; (with_reducible refine (bloom_Mix.calls k2 a0 t234 _ A36.out).mono ?_); rintro e w' ⟨rfl, ⟨nd, rfl⟩⟩; (try first | exact ⟨rfl, _, World.drewN_drewN _ _ _⟩ | exact ⟨rfl, _, Eq.trans (World.drewN_drewN _ _ _) (congrArg (World.drewN _) (Nat.add_assoc _ _ _))⟩)) | (go_at_call 14; (with_reducible refine (bloom_Mix.calls k2 a1 t235 _ A37.out).mono ?_); rintro e w' ⟨rfl, ⟨nd, rfl⟩⟩; (try first | exact ⟨rfl, _, World.drewN_drewN _ _ _⟩ | exact ⟨rfl, _, Eq.trans (World.drewN_drewN _ _ _) (congrArg (World.drewN _) (Nat.add_assoc _ _ _))⟩))); try go_wp2_with (first | (go_at_call 14; (with_reducible refine (bloom_Mix.calls k2 a0 t234 _ A36.out).mono ?_); rintro e w' ⟨rfl, ⟨nd, rfl⟩⟩; (try first | exact ⟨rfl, _, World.drewN_drewN _ _ _⟩ | exact ⟨rfl, _, Eq.trans (World.drewN_drewN _ _ _) (congrArg (World.drewN _) (Nat.add_assoc _ _ _))⟩)) | (go_at_call 14; (with_reducible refine (bloom_Mix.calls k2 a1 t235 _ A37.out).mono ?_); rintro e w' ⟨rfl, ⟨nd, rfl⟩⟩; (try first | exact ⟨rfl, _, World.drewN_drewN _ _ _⟩ | exact ⟨rfl, _, Eq.trans (World.drewN_drewN _ _ _) (congrArg (World.drewN _) (Nat.add_assoc _ _ _))⟩))))
                          go_ret
                          exact ⟨by first | rfl | (simp [errW_none, errW_some] <;> rfl) | (simp (disch := omega) only [← i64_w, IntWalk.i64_in]; rfl) | (simp [*, errW_none, errW_some] <;> rfl), by repeat (first | (with_reducible first | exact HB.out | apply below_alloc | apply pw_below_drewN | apply below_drew1) | exact HB.out)⟩
                        · rw [if_neg c35] at H
                          have c35b0 : (a0.toList == a1.toList) = false := beq_eq_false_iff_ne.mpr c35
                          have c35b1 : (a0.toList != a1.toList) = true := bne_iff_ne.mpr c35
                          obtain rfl := Option.some.inj H
                          go_wp2
                          repeat (go_quiet (fail); try go_wp2)
                          go_ret
                          exact ⟨by first | rfl | (simp [errW_none, errW_some] <;> rfl) | (simp (disch := omega) only [← i64_w, IntWalk.i64_in]; rfl) | (simp [*, errW_none, errW_some] <;> rfl), by repeat (first | (with_reducible first | exact HB.out | apply below_alloc | apply pw_below_drewN | apply below_drew1) | exact HB.out)⟩
                      · rw [if_neg c34] at H
                        exact absurd H (by simp)
                    · rw [if_neg c33] at H
                      exact absurd H (by simp)
                  · rw [if_neg c32] at H
                    exact absurd H (by simp)
          · rw [if_neg c14] at H
            exact absurd H (by simp)
  · replace c5 := Bool.eq_false_iff.mpr c5
    subst c5
    have H1 : (none) = some r := by rw [if_neg (show ¬ (false = true) by decide)] at H; exact H
    clear H
    have H := H1
    clear H1
    exact absurd H (by simp)

/-- THE ONE PURE STATEMENT of screelaw10_BloomTwice: yours. -/
def screelaw10_BloomTwice.Pure : Prop := ∀ (a0 : ByteArray) (a1 : ByteArray) (a2 : Int), a0.size ≤ 140737488351232 → a1.size ≤ 140737488351232 → (Lit.int .u16 a2).wf = true → ∃ k, screelaw10_BloomTwice.f k a0 a1 a2 = some true
theorem screelaw10_BloomTwice.walk (P : screelaw10_BloomTwice.Pure) (a0 : ByteArray) (a1 : ByteArray) (a2 : Int) (w : World) (w0 : a0.size ≤ 140737488351232) (w1 : a1.size ≤ 140737488351232) (w2 : (Lit.int .u16 a2).wf = true) :
    Calls Try.prog 9 #[.string a0, .string a1, .int .u16 a2] w fun e w' => e = .returned (.bool true) ∧ Below w.heap.size w w' := by
  obtain ⟨k, h⟩ := P a0 a1 a2 w0 w1 w2
  refine (screelaw10_BloomTwice.calls k a0 a1 a2 true w h).mono ?_
  rintro e w' ⟨rfl, hd⟩
  exact ⟨rfl, hd⟩

end Go.Proofs.Ythgefbabajpelaa.P
