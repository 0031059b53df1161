-- Printed by a program of this session's own (wip/tools/pprint.sh, over the kit's print, with given contracts): not typed by hand.
import Derived.Test.YtfgelbkhjiajfaaPx0
import Derived.Test.YtfgelbkhjiajfaaPx4
import Derived.Test.YtfgelbkhjiajfaaPx5
import Derived.Test.YtfgelbkhjiajfaaPx7
import Derived.Test.YtfgelbkhjiajfaaPx9
namespace Go.Proofs.Ytfgelbkhjiajfaa.P
open Go.RowKit Go.Proofs.YtfgelbkhjiajfaaW.PrintWords Go.Proofs.YtfgelbkhjiajfaaW.PrintLast Go.Proofs.YtfgelbkhjiajfaaW.PrintMore
attribute [local go_sem] max2_int min2_int max_two min_two max_three min_three max_four min_four   -- for this text's walks alone
set_option linter.unusedVariables false
set_option linter.unusedSimpArgs false

/-! ### screeref05_Decode: function 21 -/
mutual
def screeref05_Decode.j0 : Nat → ByteArray → Int → Int → ByteArray → Bool → Option (Int × (List (S34)) × Int)
  | 0, _, _, _, _, _ => none
  | k + 1, x5, x6, x9, x10, x40 => if x40 = true then (some (0, ([] : List (S34)), 2)) else (screeref05_Decode.l0 k x10 x5 x6 x9 (([] : List (S34))) 0)
def screeref05_Decode.l0 : Nat → ByteArray → ByteArray → Int → Int → List (S34) → Int → Option (Int × (List (S34)) × Int)
  | 0, _, _, _, _, _, _ => none
  | k + 1, x0, x5, x6, x9, x12, x13 => if x13 < x9 then (if (x0.size : Int) = 0 then (some (0, ([] : List (S34)), 2)) else (if 0 < (x0.size : Int) then (if 1 ≤ (x0.size : Int) then ((screeref05_taken.f k (x0.extract 1 x0.size)).bind fun bt223 => (if bt223.2.2 = true then (screeref05_Decode.j2 k bt223.2.1 x5 x6 x9 x12 x13 bt223.2.2 (!((bt x0 0) == 1)) ((bt x0 0) == 1) bt223.1 (⟨#[]⟩ : ByteArray)) else (screeref05_Decode.j2 k bt223.2.1 x5 x6 x9 x12 x13 bt223.2.2 false ((bt x0 0) == 1) bt223.1 (⟨#[]⟩ : ByteArray)))) else (none)) else (none))) else ((screeref05_Encode.f k x6 x12).bind fun bt220 => (if bt220.2 = 0 then (if bt220.1.toList = x5.toList then (some (x6, x12, 0)) else (some (0, ([] : List (S34)), 2))) else (some (0, ([] : List (S34)), 2))))
def screeref05_Decode.j2 : Nat → ByteArray → ByteArray → Int → Int → List (S34) → Int → Bool → Bool → Bool → ByteArray → ByteArray → Option (Int × (List (S34)) × Int)
  | 0, _, _, _, _, _, _, _, _, _, _, _ => none
  | k + 1, x0, x5, x6, x9, x12, x13, x15, x68, x223000, x223001, x223002 => if x68 = true then ((screeref05_taken.f k x0).bind fun bt226 => (if bt226.2.2 = true then (if x12.length < 3518437208883 then (screeref05_Decode.l0 k bt226.2.1 x5 x6 x9 (x12 ++ [(⟨x223000, x223001, bt226.1⟩ : S34)]) (IntKind.u64.wrap (x13 + 1))) else (none)) else (some (0, ([] : List (S34)), 2)))) else (if x15 = true then (if x12.length < 3518437208883 then (screeref05_Decode.l0 k x0 x5 x6 x9 (x12 ++ [(⟨x223000, x223001, x223002⟩ : S34)]) (IntKind.u64.wrap (x13 + 1))) else (none)) else (some (0, ([] : List (S34)), 2)))
end
def screeref05_Decode.f (k : Nat) (a0 : ByteArray) : Option (Int × (List (S34)) × Int) := (screeref01_Take.f k a0).bind fun bt211 => ((screeref01_Take.f k bt211.2.1).bind fun bt214 => (if bt211.2.2 = true then (if bt214.2.2 = true then (screeref05_Decode.j0 k a0 bt211.1 bt214.1 bt214.2.1 (decide (bt214.1 > 16))) else (screeref05_Decode.j0 k a0 bt211.1 bt214.1 bt214.2.1 true)) else (screeref05_Decode.j0 k a0 bt211.1 bt214.1 bt214.2.1 true)))
theorem screeref05_Decode.mono_l : ∀ k, (∀ y0 y1 y2 y3 y4, LeO (screeref05_Decode.j0 k y0 y1 y2 y3 y4) (screeref05_Decode.j0 (k + 1) y0 y1 y2 y3 y4)) ∧ (∀ y0 y1 y2 y3 y4 y5, LeO (screeref05_Decode.l0 k y0 y1 y2 y3 y4 y5) (screeref05_Decode.l0 (k + 1) y0 y1 y2 y3 y4 y5)) ∧ (∀ y0 y1 y2 y3 y4 y5 y6 y7 y8 y9 y10, LeO (screeref05_Decode.j2 k y0 y1 y2 y3 y4 y5 y6 y7 y8 y9 y10) (screeref05_Decode.j2 (k + 1) y0 y1 y2 y3 y4 y5 y6 y7 y8 y9 y10))
  | 0 => ⟨fun _ _ _ _ _ r h => by simp [screeref05_Decode.j0] at h, fun _ _ _ _ _ _ r h => by simp [screeref05_Decode.l0] at h, fun _ _ _ _ _ _ _ _ _ _ _ r h => by simp [screeref05_Decode.j2] at h⟩
  | k + 1 => by
    obtain ⟨ih0, ih1, ih2⟩ := screeref05_Decode.mono_l k
    refine ⟨?_, ?_, ?_⟩
    · intro y0 y1 y2 y3 y4
      unfold screeref05_Decode.j0
      repeat' first
      | (with_reducible exact ih0 _ _ _ _ _)
      | (with_reducible exact ih1 _ _ _ _ _ _)
      | (with_reducible exact ih2 _ _ _ _ _ _ _ _ _ _ _)
      | (with_reducible exact screeref01_Take.mono _ _)
      | (with_reducible exact screeref05_Encode.mono _ _ _)
      | (with_reducible exact screeref05_taken.mono _ _)
      | (with_reducible exact LeO.refl _)
      | (with_reducible exact LeO.none _)
      | (with_reducible refine LeO.ite ?_ ?_)
      | (with_reducible refine LeO.bind ?_ (fun _ => ?_))
      | exact ih0 _ _ _ _ _
      | exact ih1 _ _ _ _ _ _
      | exact ih2 _ _ _ _ _ _ _ _ _ _ _
      | exact screeref01_Take.mono _ _
      | exact screeref05_Encode.mono _ _ _
      | exact screeref05_taken.mono _ _
      | exact LeO.none _
      | refine LeO.ite ?_ ?_
      | refine LeO.bind ?_ (fun _ => ?_)
    · intro y0 y1 y2 y3 y4 y5
      unfold screeref05_Decode.l0
      repeat' first
      | (with_reducible exact ih0 _ _ _ _ _)
      | (with_reducible exact ih1 _ _ _ _ _ _)
      | (with_reducible exact ih2 _ _ _ _ _ _ _ _ _ _ _)
      | (with_reducible exact screeref01_Take.mono _ _)
      | (with_reducible exact screeref05_Encode.mono _ _ _)
      | (with_reducible exact screeref05_taken.mono _ _)
      | (with_reducible exact LeO.refl _)
      | (with_reducible exact LeO.none _)
      | (with_reducible refine LeO.ite ?_ ?_)
      | (with_reducible refine LeO.bind ?_ (fun _ => ?_))
      | exact ih0 _ _ _ _ _
      | exact ih1 _ _ _ _ _ _
      | exact ih2 _ _ _ _ _ _ _ _ _ _ _
      | exact screeref01_Take.mono _ _
      | exact screeref05_Encode.mono _ _ _
      | exact screeref05_taken.mono _ _
      | exact LeO.none _
      | refine LeO.ite ?_ ?_
      | refine LeO.bind ?_ (fun _ => ?_)
    · intro y0 y1 y2 y3 y4 y5 y6 y7 y8 y9 y10
      unfold screeref05_Decode.j2
      repeat' first
      | (with_reducible exact ih0 _ _ _ _ _)
      | (with_reducible exact ih1 _ _ _ _ _ _)
      | (with_reducible exact ih2 _ _ _ _ _ _ _ _ _ _ _)
      | (with_reducible exact screeref01_Take.mono _ _)
      | (with_reducible exact screeref05_Encode.mono _ _ _)
      | (with_reducible exact screeref05_taken.mono _ _)
      | (with_reducible exact LeO.refl _)
      | (with_reducible exact LeO.none _)
      | (with_reducible refine LeO.ite ?_ ?_)
      | (with_reducible refine LeO.bind ?_ (fun _ => ?_))
      | exact ih0 _ _ _ _ _
      | exact ih1 _ _ _ _ _ _
      | exact ih2 _ _ _ _ _ _ _ _ _ _ _
      | exact screeref01_Take.mono _ _
      | exact screeref05_Encode.mono _ _ _
      | exact screeref05_taken.mono _ _
      | exact LeO.none _
      | refine LeO.ite ?_ ?_
      | refine LeO.bind ?_ (fun _ => ?_)
theorem screeref05_Decode.mono : ∀ a0 k, LeO (screeref05_Decode.f k a0) (screeref05_Decode.f (k + 1) a0) := by
  intro a0 k
  obtain ⟨ih0, ih1, ih2⟩ := screeref05_Decode.mono_l k
  unfold screeref05_Decode.f
  repeat' first
      | (with_reducible exact ih0 _ _ _ _ _)
      | (with_reducible exact ih1 _ _ _ _ _ _)
      | (with_reducible exact ih2 _ _ _ _ _ _ _ _ _ _ _)
      | (with_reducible exact screeref01_Take.mono _ _)
      | (with_reducible exact screeref05_Encode.mono _ _ _)
      | (with_reducible exact screeref05_taken.mono _ _)
      | (with_reducible exact LeO.refl _)
      | (with_reducible exact LeO.none _)
      | (with_reducible refine LeO.ite ?_ ?_)
      | (with_reducible refine LeO.bind ?_ (fun _ => ?_))
      | exact ih0 _ _ _ _ _
      | exact ih1 _ _ _ _ _ _
      | exact ih2 _ _ _ _ _ _ _ _ _ _ _
      | exact screeref01_Take.mono _ _
      | exact screeref05_Encode.mono _ _ _
      | exact screeref05_taken.mono _ _
      | exact LeO.none _
      | refine LeO.ite ?_ ?_
      | refine LeO.bind ?_ (fun _ => ?_)
set_option maxHeartbeats 8000000 in
set_option maxRecDepth 100000 in
theorem screeref05_Decode.calls (k : Nat) (a0 : ByteArray) (r1 : Int) (r2 : List (S34)) (r3 : Int) (w : World) (h : screeref05_Decode.f k a0 = some (r1, r2, r3)) :
    Calls Try.prog 21 #[.string a0] w fun e w' => ∃ v1_ : Value, e = .returned (.tuple #[.int .u64 r1, v1_, .int .i64 r3]) ∧ Kd.R k34 34 w' w.heap.size (fun _ => True) v1_ r2 ∧ Below w.heap.size w w' := by
  have hu34 := Try.underlying34
  have HB := Aside0.mk (Below.refl w.heap.size w)
  have H : ((screeref01_Take.f k a0).bind fun bt211 => ((screeref01_Take.f k bt211.2.1).bind fun bt214 => (if bt211.2.2 = true then (if bt214.2.2 = true then (screeref05_Decode.j0 k a0 bt211.1 bt214.1 bt214.2.1 (decide (bt214.1 > 16))) else (screeref05_Decode.j0 k a0 bt211.1 bt214.1 bt214.2.1 true)) else (screeref05_Decode.j0 k a0 bt211.1 bt214.1 bt214.2.1 true)))) = some (r1, r2, r3) := h
  clear h
  replace H := Option.bind_eq_some_iff.mp H
  obtain ⟨⟨t211, t212, t213⟩, A20, H⟩ := H
  replace H : ((screeref01_Take.f k t212).bind fun bt214 => (if t213 = true then (if bt214.2.2 = true then (screeref05_Decode.j0 k a0 t211 bt214.1 bt214.2.1 (decide (bt214.1 > 16))) else (screeref05_Decode.j0 k a0 t211 bt214.1 bt214.2.1 true)) else (screeref05_Decode.j0 k a0 t211 bt214.1 bt214.2.1 true))) = some (r1, r2, r3) := H
  have A2 := Aside0.mk A20
  clear A20
  replace H := Option.bind_eq_some_iff.mp H
  obtain ⟨⟨t214, t215, t216⟩, A30, H⟩ := H
  replace H : (if t213 = true then (if t216 = true then (screeref05_Decode.j0 k a0 t211 t214 t215 (decide (t214 > 16))) else (screeref05_Decode.j0 k a0 t211 t214 t215 true)) else (screeref05_Decode.j0 k a0 t211 t214 t215 true)) = some (r1, r2, r3) := H
  have A3 := Aside0.mk A30
  clear A30
  have HC4 := Aside0.mk H
  clear H
  go_enter Try.func21, Try.ntmps21
  go_upto_region 4 with (first | ((with_reducible refine gate_callee (f := 36) rfl ?_); refine goesL_ (some 21) rfl rfl Try.func36 (by kernel_rfl) rfl #[.string a0] rfl (by (try simp only [List.map_toArray, List.map_cons, List.map_nil]); first | done | rfl | (simp only [List.length_drop, List.length_take]; rfl) | (simp (disch := omega) only [IntWalk.u64_in, IntWalk.i64_in, IntWalk.u8_in]; rfl)) ?_; (with_reducible refine (screeref01_Take.calls k a0 t211 t212 t213 _ A2.out).mono ?_); rintro e w5 ⟨rfl, hb⟩; refine ⟨_, rfl, ?_⟩; have n0_ := Aside0.mk (below_step (by repeat (first | (with_reducible first | exact HB.out | apply below_alloc | apply pw_below_drewN | apply below_drew1) | exact HB.out)) hb); clear HB; have HB := n0_; clear n0_; (try clear hb); (try clear hb2); (try clear hk); (try clear hi); (try clear A2)) | ((with_reducible refine gate_callee (f := 36) rfl ?_); refine goesL_ (some 27) rfl rfl Try.func36 (by kernel_rfl) rfl #[.string t212] rfl (by (try simp only [List.map_toArray, List.map_cons, List.map_nil]); first | done | rfl | (simp only [List.length_drop, List.length_take]; rfl) | (simp (disch := omega) only [IntWalk.u64_in, IntWalk.i64_in, IntWalk.u8_in]; rfl)) ?_; (with_reducible refine (screeref01_Take.calls k t212 t214 t215 t216 _ A3.out).mono ?_); rintro e w6 ⟨rfl, hb⟩; refine ⟨_, rfl, ?_⟩; have n0_ := Aside0.mk (below_step (by repeat (first | (with_reducible first | exact HB.out | apply below_alloc | apply pw_below_drewN | apply below_drew1) | exact HB.out)) hb); clear HB; have HB := n0_; clear n0_; (try clear hb); (try clear hb2); (try clear hk); (try clear hi); (try clear A3)))
  (try simp only [Act.put, List.setIfInBounds_toArray, List.set_cons_zero, List.set_cons_succ])
  go_cut [40] (fun v40 wc => ∃ (kq : Nat) (x40_3 : Bool), v40 = .bool x40_3 ∧ Aside0 (screeref05_Decode.j0 kq a0 t211 t214 t215 x40_3 = some (r1, r2, r3)) ∧ Aside0 (kq ≤ k) ∧ Aside0 (Below w.heap.size w wc))
  case first =>
    have H := HC4.out
    clear HC4
    by_cases c7 : t213 = true
    · subst c7
      have H1 : (if t216 = true then (screeref05_Decode.j0 k a0 t211 t214 t215 (decide (t214 > 16))) else (screeref05_Decode.j0 k a0 t211 t214 t215 true)) = some (r1, r2, r3) := by rw [if_pos rfl] at H; exact H
      clear H
      have H := H1
      clear H1
      by_cases c8 : t216 = true
      · subst c8
        have H1 : (screeref05_Decode.j0 k a0 t211 t214 t215 (decide (t214 > 16))) = some (r1, r2, r3) := by rw [if_pos rfl] at H; exact H
        clear H
        have H := H1
        clear H1
        have H' := Aside0.mk H
        clear H
        go_wp2
        go_meet
        case rel => exact ⟨_, (decide (t214 > 16)), (by first | rfl | (simp; done) | (simp [*]; done)), (by first | (with_reducible exact H') | exact H' | (subst_vars; exact H')), ⟨by first | omega | exact Nat.le_refl _⟩, ⟨by repeat (first | (with_reducible first | exact HB.out | apply below_alloc | apply pw_below_drewN | apply below_drew1) | exact HB.out)⟩⟩
      · replace c8 := Bool.eq_false_iff.mpr c8
        subst c8
        have H1 : (screeref05_Decode.j0 k a0 t211 t214 t215 true) = some (r1, r2, r3) := by rw [if_neg (show ¬ (false = true) by decide)] at H; exact H
        clear H
        have H := H1
        clear H1
        have H' := Aside0.mk H
        clear H
        go_wp2
        go_meet
        case rel => exact ⟨_, (true), (by first | rfl | (simp; done) | (simp [*]; done)), (by first | (with_reducible exact H') | exact H' | (subst_vars; exact H')), ⟨by first | omega | exact Nat.le_refl _⟩, ⟨by repeat (first | (with_reducible first | exact HB.out | apply below_alloc | apply pw_below_drewN | apply below_drew1) | exact HB.out)⟩⟩
    · replace c7 := Bool.eq_false_iff.mpr c7
      subst c7
      have H1 : (screeref05_Decode.j0 k a0 t211 t214 t215 true) = some (r1, r2, r3) := by rw [if_neg (show ¬ (false = true) by decide)] at H; exact H
      clear H
      have H := H1
      clear H1
      have H' := Aside0.mk H
      clear H
      go_wp2
      go_meet
      case rel => exact ⟨_, (true), (by first | rfl | (simp; done) | (simp [*]; done)), (by first | (with_reducible exact H') | exact H' | (subst_vars; exact H')), ⟨by first | omega | exact Nat.le_refl _⟩, ⟨by repeat (first | (with_reducible first | exact HB.out | apply below_alloc | apply pw_below_drewN | apply below_drew1) | exact HB.out)⟩⟩
  case rest =>
    clear HC4
    try clear c2
    try clear p2
    try clear c3
    try clear c7
    try clear c8
    obtain ⟨kq, x40_3, rfl, HA, HJ3, HB⟩ := hcut
    cases kq with
    | zero => exact absurd HA.out (by simp [screeref05_Decode.j0])
    | succ kj3 =>
      have H := HA.out
      clear HA
      simp only [screeref05_Decode.j0] at H
      by_cases c9 : x40_3 = true
      · subst c9
        have H1 : (some (0, ([] : List (S34)), 2)) = some (r1, r2, r3) := by rw [if_pos rfl] at H; exact H
        clear H
        have H := H1
        clear H1
        simp only [Option.some.injEq, Prod.mk.injEq] at H
        obtain ⟨rfl, rfl, rfl⟩ := H
        go_wp2
        go_ret3
        exact ⟨_, by first | rfl | (simp [errW_none, errW_some] <;> rfl) | (simp (disch := omega) only [← i64_w, IntWalk.i64_in]; rfl) | (simp [*, errW_none, errW_some] <;> rfl), by first | exact Kd.R_nil _ _ _ _ _ | exact Kd.N_nil _ _ _ _ _ | exact Kd.V_nil _ _ _ _ _ | exact Kd.Q_nil _ _ _ _ _ | exact Kd.S_nil _ _ _ _ _, by repeat (first | (with_reducible first | exact HB.out | apply below_alloc | apply pw_below_drewN | apply below_drew1) | exact HB.out)⟩
      · replace c9 := Bool.eq_false_iff.mpr c9
        subst c9
        have H1 : (screeref05_Decode.l0 kj3 t215 a0 t211 t214 (([] : List (S34))) 0) = some (r1, r2, r3) := by rw [if_neg (show ¬ (false = true) by decide)] at H; exact H
        clear H
        have H := H1
        clear H1
        obtain ⟨y217, hy217⟩ : ∃ y_ : List (S34), y_ = (([] : List (S34))) := ⟨_, rfl⟩
        replace H : (screeref05_Decode.l0 kj3 t215 a0 t211 t214 y217 0) = some (r1, r2, r3) := by first | (rw [hy217]; with_reducible exact H) | (have H2_ := (Option.bind_some _ _).symm.trans H; rw [hy217]; with_reducible exact H2_) | (have H2_ := (Option.bind_some _ _).symm.trans H; with_reducible exact H2_) | with_reducible exact H | (rw [hy217]; exact H) | exact H
        have Ny217 := Aside0.mk hy217
        clear hy217
        have H' := Aside0.mk H
        clear H
        go_wp2_with (first | ((with_reducible refine gate_dst (N := 41) rfl ?_); refine Kd.R_lit k34 _ 34 ?hg (N := 41) ?hd (xs := ([] : List (S34))) (inner := []) (ok := fun _ => True) (okp := fun _ => True) ?hr ?hp (fun _ hk => hk) trivial (Below.refl _ _) (Nat.le_refl _) (by simp) ?_; (case hd => rfl); (case hg => rfl); (case hr => first | (go_simp; done) | (go_simp; rfl)); (case hp => exact (Reps.none _ _)); intro v218 w10 ho11 hb hg_ hnew_; clear hg_ hnew_; (first | rw [← Ny217.out] at ho11 | (simp only [Int.reduceToNat] at ho11; rw [← Ny217.out] at ho11)); have n0_ := Aside0.mk (Kd.R_lower ho11 (below_size (by repeat (first | (with_reducible first | exact HB.out | apply below_alloc | apply pw_below_drewN | apply below_drew1) | exact HB.out)))); have n1_ := Aside0.mk (below_step (by repeat (first | (with_reducible first | exact HB.out | apply below_alloc | apply pw_below_drewN | apply below_drew1) | exact HB.out)) hb); clear HB; have HO219 := n0_; have HB := n1_; clear n0_ n1_; clear hb ho11))
        go_loopg [0, 12, 13] kj3 (fun kq v0 v12 v13 w' => ∃ (x0_2 : ByteArray) (x12_2 : List (S34)) (x13_2 : Int), v0 = .string x0_2 ∧ v13 = .int .u64 x13_2 ∧ Aside0 (screeref05_Decode.l0 kq x0_2 a0 t211 t214 x12_2 x13_2 = some (r1, r2, r3)) ∧ Aside0 (kq ≤ kj3) ∧ Aside0 (Kd.R k34 34 w' w.heap.size (fun _ => True) v12 x12_2) ∧ Aside0 (Below w.heap.size w w'))
        case atStart => exact ⟨(t215), (y217), (0), (by first | rfl | (simp; done) | (simp [*]; done)), (by first | rfl | (simp; done) | (simp [*]; done)), H', ⟨Nat.le_refl _⟩, ⟨by (with_reducible repeat (first | apply Kd.R_alloc | apply Kd.R_drewN | apply Kd.R_drew)); exact HO219.out⟩, ⟨by repeat (first | (with_reducible first | exact HB.out | apply below_alloc | apply pw_below_drewN | apply below_drew1) | exact HB.out)⟩⟩
        case round =>
          clear H'
          try clear c2
          try clear p2
          try clear c3
          try clear c7
          try clear c8
          try clear c9
          try clear p2
          obtain ⟨x0_2, x12_2, x13_2, rfl, rfl, HA, HK2, HO_12, HB⟩ := hrel
          cases gk with
          | zero => exact absurd HA.out (by simp [screeref05_Decode.l0])
          | succ k2 =>
            have H := HA.out
            clear HA
            simp only [screeref05_Decode.l0] at H
            by_cases c12 : x13_2 < t214
            · rw [if_pos c12] at H
              have c12b0 : decide (x13_2 < t214) = true := decide_eq_true c12
              clear c12
              by_cases c13 : (x0_2.size : Int) = 0
              · rw [if_pos c13] at H
                have c13b0 : ((x0_2.size : Int) == 0) = true := beq_iff_eq.mpr c13
                have c13b1 : ((x0_2.size : Int) != 0) = false := bne_eq_false_iff_eq.mpr c13
                clear c13
                simp only [Option.some.injEq, Prod.mk.injEq] at H
                obtain ⟨rfl, rfl, rfl⟩ := H
                go_wp2
                go_ret3
                exact ⟨_, by first | rfl | (simp [errW_none, errW_some] <;> rfl) | (simp (disch := omega) only [← i64_w, IntWalk.i64_in]; rfl) | (simp [*, errW_none, errW_some] <;> rfl), by first | exact Kd.R_nil _ _ _ _ _ | exact Kd.N_nil _ _ _ _ _ | exact Kd.V_nil _ _ _ _ _ | exact Kd.Q_nil _ _ _ _ _ | exact Kd.S_nil _ _ _ _ _, by repeat (first | (with_reducible first | exact HB.out | apply below_alloc | apply pw_below_drewN | apply below_drew1) | exact HB.out)⟩
              · rw [if_neg c13] at H
                have c13b0 : ((x0_2.size : Int) == 0) = false := beq_eq_false_iff_ne.mpr c13
                have c13b1 : ((x0_2.size : Int) != 0) = true := bne_iff_ne.mpr c13
                by_cases c14 : 0 < (x0_2.size : Int)
                · rw [if_pos c14] at H
                  have c14b0 : decide (0 < (x0_2.size : Int)) = true := decide_eq_true c14
                  have c14b1 : decide (0 < x0_2.size) = true := decide_eq_true (by omega)
                  clear c14
                  by_cases c16 : 1 ≤ (x0_2.size : Int)
                  · rw [if_pos c16] at H
                    have c16b0 := eq_true c16
                    have c16b1 : decide (1 ≤ (x0_2.size : Int)) = true := decide_eq_true c16
                    clear c16
                    replace H := Option.bind_eq_some_iff.mp H
                    obtain ⟨⟨t223, t224, t225⟩, A170, H⟩ := H
                    replace H : (if t225 = true then (screeref05_Decode.j2 k2 t224 a0 t211 t214 x12_2 x13_2 t225 (!((bt x0_2 0) == 1)) ((bt x0_2 0) == 1) t223 (⟨#[]⟩ : ByteArray)) else (screeref05_Decode.j2 k2 t224 a0 t211 t214 x12_2 x13_2 t225 false ((bt x0_2 0) == 1) t223 (⟨#[]⟩ : ByteArray))) = some (r1, r2, r3) := H
                    have A17 := Aside0.mk A170
                    clear A170
                    have HC18 := Aside0.mk H
                    clear H
                    have p15 : 0 ≤ (0 : Int) := (by omega)
                    have q15 : 0 < x0_2.size := (by have : (0 : Int) < (x0_2.size : Int) := of_decide_eq_true (by first | (with_reducible assumption) | assumption); omega)
                    have hx15 : ∀ h : 0 < x0_2.size, ((x0_2[0]'h).toNat : Int) = bt x0_2 0 := bt_at x0_2 0
                    clear p15
                    have qi15 : (0 < (x0_2.size : Int)) = True := eq_true (of_decide_eq_true (by first | (with_reducible assumption) | assumption))
                    replace q15 := eq_true q15
                    go_upto_region 16 with (first | ((with_reducible refine gate_dst (N := 14) rfl ?_); refine box_event ?hg (N := 14) ?hd (cs := #[.bool false, .string (⟨#[]⟩ : ByteArray), .string (⟨#[]⟩ : ByteArray)]) (t := 34) ?hr ?_; (case hd => rfl); (case hg => rfl); (case hr => first | (go_simp; done) | (go_simp; rfl)); intro gb222 hg w19 hbox hb; have n0_ := Aside0.mk (Kd.R_below (Kd.R_elderB (by (with_reducible repeat (first | apply Kd.R_alloc | apply Kd.R_drewN | apply Kd.R_drew)); exact HO_12.out) gb222 (Nat.le_of_eq hg.symm)) hb); have n1_ := Aside0.mk (below_step (by repeat (first | (with_reducible first | exact HB.out | apply below_alloc | apply pw_below_drewN | apply below_drew1) | exact HB.out)) hb); have n2_ := Aside0.mk (hbox); have n3_ := Aside0.mk ((by rw [hg]; exact (below_size (by repeat (first | (with_reducible first | exact HB.out | apply below_alloc | apply pw_below_drewN | apply below_drew1) | exact HB.out))) : w.heap.size ≤ gb222)); have n4_ := Aside0.mk ((by rw [hg]; exact (below_size (by repeat (first | (with_reducible first | exact HB.out | apply below_alloc | apply pw_below_drewN | apply below_drew1) | exact HB.out))) : w.heap.size ≤ gb222)); clear HO_12; clear HB; have HO_12 := n0_; have HB := n1_; have BK222 := n2_; have GW222 := n3_; have GE222 := n4_; clear n0_ n1_ n2_ n3_ n4_; clear hb hbox hg; have hcz20_0 : w19.cell? ⟨gb222, 0, none⟩ = some (.bool false) := (blk_cell BK222.out 0).trans rfl; have hcz20_1 : w19.cell? ⟨gb222, 1, none⟩ = some (.string (⟨#[]⟩ : ByteArray)) := (blk_cell BK222.out 1).trans rfl; have hcz20_2 : w19.cell? ⟨gb222, 2, none⟩ = some (.string (⟨#[]⟩ : ByteArray)) := (blk_cell BK222.out 2).trans rfl; have hfz20_0 := blk_frozen BK222.out 0; have hfz20_1 := blk_frozen BK222.out 1; have hfz20_2 := blk_frozen BK222.out 2) | ((with_reducible refine gate_callee (f := 37) rfl ?_); refine goesL_ (some 58) rfl rfl Try.func37 (by kernel_rfl) rfl #[.string (x0_2.extract 1 x0_2.size)] rfl (by (try simp only [List.map_toArray, List.map_cons, List.map_nil]); first | done | rfl | (simp only [List.length_drop, List.length_take]; rfl) | (simp (disch := omega) only [IntWalk.u64_in, IntWalk.i64_in, IntWalk.u8_in]; rfl)) ?_; (with_reducible refine (screeref05_taken.calls k2 (x0_2.extract 1 x0_2.size) t223 t224 t225 _ A17.out).mono ?_); rintro e w21 ⟨rfl, hb⟩; refine ⟨_, rfl, ?_⟩; have n0_ := Aside0.mk (Kd.R_below (by (with_reducible repeat (first | apply Kd.R_alloc | apply Kd.R_drewN | apply Kd.R_drew)); exact (Kd.R_mono (Kd.R_far (p := ⟨gb222, 2, none⟩) (Kd.R_far (p := ⟨gb222, 1, none⟩) (Kd.R_far (p := ⟨gb222, 0, none⟩) (Kd.R_mono HO_12.out (fun k_ hk => (⟨hk, hk.2⟩ : _ ∧ k_ ≠ gb222))) (fun _ hk => hk.2) (.bool ((bt x0_2 0) == 1))) (fun _ hk => hk.2) (.string (⟨#[]⟩ : ByteArray))) (fun _ hk => hk.2) (.string (⟨#[]⟩ : ByteArray))) (fun _ h_ => h_.1))) hb); have n1_ := Aside0.mk (blk_below (g := gb222) (o := .cells #[.bool ((bt x0_2 0) == 1), .string (⟨#[]⟩ : ByteArray), .string (⟨#[]⟩ : ByteArray)] 34 (0, 0)) (by (with_reducible repeat (first | refine blk_drewN ?_ _ | refine blk_drew ?_ | refine blk_alloc ?_ _)); refine blk_put (cs := #[.bool ((bt x0_2 0) == 1), .string (⟨#[]⟩ : ByteArray), .string (⟨#[]⟩ : ByteArray)]) ?_ 2 _ rfl; (with_reducible repeat (first | refine blk_drewN ?_ _ | refine blk_drew ?_ | refine blk_alloc ?_ _)); refine blk_put (cs := #[.bool ((bt x0_2 0) == 1), .string (⟨#[]⟩ : ByteArray), .string (⟨#[]⟩ : ByteArray)]) ?_ 1 _ rfl; (with_reducible repeat (first | refine blk_drewN ?_ _ | refine blk_drew ?_ | refine blk_alloc ?_ _)); refine blk_put (cs := #[.bool false, .string (⟨#[]⟩ : ByteArray), .string (⟨#[]⟩ : ByteArray)]) ?_ 0 _ rfl; (with_reducible repeat (first | refine blk_drewN ?_ _ | refine blk_drew ?_ | refine blk_alloc ?_ _)); exact BK222.out) hb); have n2_ := Aside0.mk (below_step (by repeat (first | (with_reducible first | exact HB.out | apply below_alloc | apply pw_below_drewN | apply below_drew1 | refine below_set ?_ GE222.out) | exact HB.out)) hb); clear HO_12; clear BK222; clear HB; have HO_12 := n0_; have BK222 := n1_; have HB := n2_; clear n0_ n1_ n2_; (try clear hb); (try clear hb2); (try clear hk); (try clear hi); (try clear A17); have hcz22_0 : w21.cell? ⟨gb222, 0, none⟩ = some (.bool ((bt x0_2 0) == 1)) := (blk_cell BK222.out 0).trans rfl; have hcz22_1 : w21.cell? ⟨gb222, 1, none⟩ = some (.string (⟨#[]⟩ : ByteArray)) := (blk_cell BK222.out 1).trans rfl; have hcz22_2 : w21.cell? ⟨gb222, 2, none⟩ = some (.string (⟨#[]⟩ : ByteArray)) := (blk_cell BK222.out 2).trans rfl; have hfz22_0 := blk_frozen BK222.out 0; have hfz22_1 := blk_frozen BK222.out 1; have hfz22_2 := blk_frozen BK222.out 2))
                    (try simp only [Act.put, List.setIfInBounds_toArray, List.set_cons_zero, List.set_cons_succ])
                    go_cut [68] (fun v68 wc => ∃ (kq : Nat) (x68_17 : Bool), v68 = .bool x68_17 ∧ Aside0 (screeref05_Decode.j2 kq t224 a0 t211 t214 x12_2 x13_2 t225 x68_17 ((bt x0_2 0) == 1) t223 (⟨#[]⟩ : ByteArray) = some (r1, r2, r3)) ∧ Aside0 (kq ≤ k2) ∧ Aside0 (Kd.R k34 34 wc w.heap.size (fun k_ => k_ ≠ gb222) u12 x12_2) ∧ Aside0 (wc.heap[gb222]? = some (.cells #[.bool ((bt x0_2 0) == 1), .string t223, .string (⟨#[]⟩ : ByteArray)] 34 (0, 0))) ∧ Aside0 (Below w.heap.size w wc))
                    case first =>
                      have H := HC18.out
                      clear HC18
                      by_cases c23 : t225 = true
                      · subst c23
                        have H1 : (screeref05_Decode.j2 k2 t224 a0 t211 t214 x12_2 x13_2 true (!((bt x0_2 0) == 1)) ((bt x0_2 0) == 1) t223 (⟨#[]⟩ : ByteArray)) = some (r1, r2, r3) := by rw [if_pos rfl] at H; exact H
                        clear H
                        have H := H1
                        clear H1
                        have H' := Aside0.mk H
                        clear H
                        have hcz24_0 : w21.cell? ⟨gb222, 0, none⟩ = some (.bool ((bt x0_2 0) == 1)) := (blk_cell BK222.out 0).trans rfl
                        have hcz24_1 : w21.cell? ⟨gb222, 1, none⟩ = some (.string (⟨#[]⟩ : ByteArray)) := (blk_cell BK222.out 1).trans rfl
                        have hcz24_2 : w21.cell? ⟨gb222, 2, none⟩ = some (.string (⟨#[]⟩ : ByteArray)) := (blk_cell BK222.out 2).trans rfl
                        have hfz24_0 := blk_frozen BK222.out 0
                        have hfz24_1 := blk_frozen BK222.out 1
                        have hfz24_2 := blk_frozen BK222.out 2
                        go_wp2
                        go_meet
                        case rel => exact ⟨_, (!((bt x0_2 0) == 1)), (by first | rfl | (simp; done) | (simp [*]; done)), (by first | (with_reducible exact H') | exact H' | (subst_vars; exact H')), ⟨by have := HJ3.out; have := HK2.out; first | omega | exact Nat.le_refl _⟩, ⟨by (with_reducible repeat (first | apply Kd.R_alloc | apply Kd.R_drewN | apply Kd.R_drew)); exact Kd.R_mono (Kd.R_far (p := ⟨gb222, 1, none⟩) (Kd.R_mono HO_12.out (fun k_ hk => (⟨hk, hk.2⟩ : _ ∧ k_ ≠ gb222))) (fun _ hk => hk.2) (.string t223)) (fun _ hk => hk.1.2)⟩, ⟨by (with_reducible repeat (first | refine blk_drewN ?_ _ | refine blk_drew ?_ | refine blk_alloc ?_ _)); refine blk_put (cs := #[.bool ((bt x0_2 0) == 1), .string (⟨#[]⟩ : ByteArray), .string (⟨#[]⟩ : ByteArray)]) ?_ 1 _ rfl; (with_reducible repeat (first | refine blk_drewN ?_ _ | refine blk_drew ?_ | refine blk_alloc ?_ _)); exact BK222.out⟩, ⟨by repeat (first | (with_reducible first | exact HB.out | apply below_alloc | apply pw_below_drewN | apply below_drew1 | refine below_set ?_ GE222.out) | exact HB.out)⟩⟩
                      · replace c23 := Bool.eq_false_iff.mpr c23
                        subst c23
                        have H1 : (screeref05_Decode.j2 k2 t224 a0 t211 t214 x12_2 x13_2 false false ((bt x0_2 0) == 1) t223 (⟨#[]⟩ : ByteArray)) = some (r1, r2, r3) := by rw [if_neg (show ¬ (false = true) by decide)] at H; exact H
                        clear H
                        have H := H1
                        clear H1
                        have H' := Aside0.mk H
                        clear H
                        go_wp2
                        go_meet
                        case rel => exact ⟨_, (false), (by first | rfl | (simp; done) | (simp [*]; done)), (by first | (with_reducible exact H') | exact H' | (subst_vars; exact H')), ⟨by have := HJ3.out; have := HK2.out; first | omega | exact Nat.le_refl _⟩, ⟨by (with_reducible repeat (first | apply Kd.R_alloc | apply Kd.R_drewN | apply Kd.R_drew)); exact Kd.R_mono (Kd.R_far (p := ⟨gb222, 1, none⟩) (Kd.R_mono HO_12.out (fun k_ hk => (⟨hk, hk.2⟩ : _ ∧ k_ ≠ gb222))) (fun _ hk => hk.2) (.string t223)) (fun _ hk => hk.1.2)⟩, ⟨by (with_reducible repeat (first | refine blk_drewN ?_ _ | refine blk_drew ?_ | refine blk_alloc ?_ _)); refine blk_put (cs := #[.bool ((bt x0_2 0) == 1), .string (⟨#[]⟩ : ByteArray), .string (⟨#[]⟩ : ByteArray)]) ?_ 1 _ rfl; (with_reducible repeat (first | refine blk_drewN ?_ _ | refine blk_drew ?_ | refine blk_alloc ?_ _)); exact BK222.out⟩, ⟨by repeat (first | (with_reducible first | exact HB.out | apply below_alloc | apply pw_below_drewN | apply below_drew1 | refine below_set ?_ GE222.out) | exact HB.out)⟩⟩
                    case rest =>
                      clear HC18
                      try clear c1
                      try clear p1
                      try clear q1
                      try clear hx1
                      try clear qi1
                      try clear c2
                      try clear p2
                      try clear c3
                      try clear c7
                      try clear c8
                      try clear c9
                      try clear c12
                      try clear c12b0
                      try clear c13
                      try clear c13b0
                      try clear c13b1
                      try clear c14
                      try clear c14b0
                      try clear c14b1
                      try clear p15
                      try clear q15
                      try clear hx15
                      try clear qi15
                      try clear c16
                      try clear c16b0
                      try clear c16b1
                      try clear c21
                      try clear c23
                      try clear hcz20_0
                      try clear hcz20_1
                      try clear hcz20_2
                      try clear hcz22_0
                      try clear hcz22_1
                      try clear hcz22_2
                      try clear hcz24_0
                      try clear hcz24_1
                      try clear hcz24_2
                      try clear hfz20_0
                      try clear hfz20_1
                      try clear hfz20_2
                      try clear hfz22_0
                      try clear hfz22_1
                      try clear hfz22_2
                      try clear hfz24_0
                      try clear hfz24_1
                      try clear hfz24_2
                      try clear p15
                      try clear p2
                      try clear q15
                      obtain ⟨kq, x68_17, rfl, HA, HJ17, HO_12, BK222, HB⟩ := hcut
                      cases kq with
                      | zero => exact absurd HA.out (by simp [screeref05_Decode.j2])
                      | succ kj17 =>
                        have H := HA.out
                        clear HA
                        simp only [screeref05_Decode.j2] at H
                        by_cases c25 : x68_17 = true
                        · subst c25
                          have H1 : ((screeref05_taken.f kj17 t224).bind fun bt226 => (if bt226.2.2 = true then (if x12_2.length < 3518437208883 then (screeref05_Decode.l0 kj17 bt226.2.1 a0 t211 t214 (x12_2 ++ [(⟨((bt x0_2 0) == 1), t223, bt226.1⟩ : S34)]) (IntKind.u64.wrap (x13_2 + 1))) else (none)) else (some (0, ([] : List (S34)), 2)))) = some (r1, r2, r3) := by rw [if_pos rfl] at H; exact H
                          clear H
                          have H := H1
                          clear H1
                          replace H := Option.bind_eq_some_iff.mp H
                          obtain ⟨⟨t226, t227, t228⟩, A260, H⟩ := H
                          replace H : (if t228 = true then (if x12_2.length < 3518437208883 then (screeref05_Decode.l0 kj17 t227 a0 t211 t214 (x12_2 ++ [(⟨((bt x0_2 0) == 1), t223, t226⟩ : S34)]) (IntKind.u64.wrap (x13_2 + 1))) else (none)) else (some (0, ([] : List (S34)), 2))) = some (r1, r2, r3) := H
                          have A26 := Aside0.mk A260
                          clear A260
                          by_cases c27 : t228 = true
                          · subst c27
                            have H1 : (if x12_2.length < 3518437208883 then (screeref05_Decode.l0 kj17 t227 a0 t211 t214 (x12_2 ++ [(⟨((bt x0_2 0) == 1), t223, t226⟩ : S34)]) (IntKind.u64.wrap (x13_2 + 1))) else (none)) = some (r1, r2, r3) := by rw [if_pos rfl] at H; exact H
                            clear H
                            have H := H1
                            clear H1
                            by_cases c28 : x12_2.length < 3518437208883
                            · rw [if_pos c28] at H
                              have LMc28 := Aside0.mk c28
                              clear c28
                              obtain ⟨y229, hy229⟩ : ∃ y_ : List (S34), y_ = (x12_2 ++ [(⟨((bt x0_2 0) == 1), t223, t226⟩ : S34)]) := ⟨_, rfl⟩
                              replace H : (screeref05_Decode.l0 kj17 t227 a0 t211 t214 y229 (IntKind.u64.wrap (x13_2 + 1))) = some (r1, r2, r3) := by first | (rw [hy229]; with_reducible exact H) | (have H2_ := (Option.bind_some _ _).symm.trans H; rw [hy229]; with_reducible exact H2_) | (have H2_ := (Option.bind_some _ _).symm.trans H; with_reducible exact H2_) | with_reducible exact H | (rw [hy229]; exact H) | exact H
                              have Ny229 := Aside0.mk hy229
                              clear hy229
                              have H' := Aside0.mk H
                              clear H
                              go_wp2_with (first | ((with_reducible refine gate_callee (f := 37) rfl ?_); refine goesL_ (some 71) rfl rfl Try.func37 (by kernel_rfl) rfl #[.string t224] rfl (by (try simp only [List.map_toArray, List.map_cons, List.map_nil]); first | done | rfl | (simp only [List.length_drop, List.length_take]; rfl) | (simp (disch := omega) only [IntWalk.u64_in, IntWalk.i64_in, IntWalk.u8_in]; rfl)) ?_; (with_reducible refine (screeref05_taken.calls kj17 t224 t226 t227 true _ A26.out).mono ?_); rintro e w29 ⟨rfl, hb⟩; refine ⟨_, rfl, ?_⟩; have n0_ := Aside0.mk (Kd.R_below (by (with_reducible repeat (first | apply Kd.R_alloc | apply Kd.R_drewN | apply Kd.R_drew)); exact HO_12.out) hb); have n1_ := Aside0.mk (blk_below (g := gb222) (o := .cells #[.bool ((bt x0_2 0) == 1), .string t223, .string (⟨#[]⟩ : ByteArray)] 34 (0, 0)) (by (with_reducible repeat (first | refine blk_drewN ?_ _ | refine blk_drew ?_ | refine blk_alloc ?_ _)); exact BK222.out) hb); have n2_ := Aside0.mk (below_step (by repeat (first | (with_reducible first | exact HB.out | apply below_alloc | apply pw_below_drewN | apply below_drew1 | refine below_set ?_ GE222.out) | exact HB.out)) hb); clear HO_12; clear BK222; clear HB; have HO_12 := n0_; have BK222 := n1_; have HB := n2_; clear n0_ n1_ n2_; (try clear hb); (try clear hb2); (try clear hk); (try clear hi); (try clear A26); have hcz30_0 : w29.cell? ⟨gb222, 0, none⟩ = some (.bool ((bt x0_2 0) == 1)) := (blk_cell BK222.out 0).trans rfl; have hcz30_1 : w29.cell? ⟨gb222, 1, none⟩ = some (.string t223) := (blk_cell BK222.out 1).trans rfl; have hcz30_2 : w29.cell? ⟨gb222, 2, none⟩ = some (.string (⟨#[]⟩ : ByteArray)) := (blk_cell BK222.out 2).trans rfl; have hfz30_0 := blk_frozen BK222.out 0; have hfz30_1 := blk_frozen BK222.out 1; have hfz30_2 := blk_frozen BK222.out 2) | ((with_reducible refine gate_builtin (b := .append) (xs := #[.tmp 78, .tmp 80]) rfl ?_); at_builtin; refine Kd.R_append k34 (w0 := w) w.heap.size rfl (.tmp 78) (.tmp 80) 23 34 (.agg #[(.bool false), (.string ⟨#[]⟩), (.string ⟨#[]⟩)]) 40 rfl Try.underlying23 info34 rfl (by decide) (by omega) u12 x12_2 (⟨((bt x0_2 0) == 1), t223, t226⟩ : S34) [.bool ((bt x0_2 0) == 1), .string t223, .string t226] (fun k_ => k_ ≠ gb222) (fun _ => False) rfl (by first | (go_simp; done) | (go_simp; rfl)) ?aP (fun _ hk => hk.elim) ?aF ?aO ?aB ?aS ?aL ?_; (case aP => exact k34_mkM _ _ _ (⟨((bt x0_2 0) == 1), t223, t226⟩ : S34)); (case aB => exact (by repeat (first | (with_reducible first | exact HB.out | apply below_alloc | apply pw_below_drewN | apply below_drew1 | refine below_set ?_ GE222.out) | exact HB.out))); (case aF => exact (fun k_ hk => Kd.freshB (g := gb222) (o := .cells #[.bool ((bt x0_2 0) == 1), .string t223, .string t226] 34 (0, 0)) (by (with_reducible repeat (first | refine blk_drewN ?_ _ | refine blk_drew ?_ | refine blk_alloc ?_ _)); refine blk_put (cs := #[.bool ((bt x0_2 0) == 1), .string t223, .string (⟨#[]⟩ : ByteArray)]) ?_ 2 _ rfl; (with_reducible repeat (first | refine blk_drewN ?_ _ | refine blk_drew ?_ | refine blk_alloc ?_ _)); exact BK222.out) k_ hk)); (case aO => exact (by (with_reducible repeat (first | apply Kd.R_alloc | apply Kd.R_drewN | apply Kd.R_drew)); exact Kd.R_mono (Kd.R_far (p := ⟨gb222, 2, none⟩) (Kd.R_mono HO_12.out (fun k_ hk => (⟨hk, hk⟩ : _ ∧ k_ ≠ gb222))) (fun _ hk => hk.2) (.string t226)) (fun _ hk => hk.1))); (case aS => exact (below_size (by repeat (first | (with_reducible first | exact HB.out | apply below_alloc | apply pw_below_drewN | apply below_drew1 | refine below_set ?_ GE222.out) | exact HB.out)))); (case aL => have := LMc28.out; omega); intro v230 w31 ho hb hg hat; rw [← Ny229.out] at ho; have n0_ := Aside0.mk (blk_grown (g := gb222) (o := .cells #[.bool ((bt x0_2 0) == 1), .string t223, .string t226] 34 (0, 0)) (by (with_reducible repeat (first | refine blk_drewN ?_ _ | refine blk_drew ?_ | refine blk_alloc ?_ _)); refine blk_put (cs := #[.bool ((bt x0_2 0) == 1), .string t223, .string (⟨#[]⟩ : ByteArray)]) ?_ 2 _ rfl; (with_reducible repeat (first | refine blk_drewN ?_ _ | refine blk_drew ?_ | refine blk_alloc ?_ _)); exact BK222.out) hg (Kd.R_away HO_12.out (fun _ hk => hk))); have n1_ := Aside0.mk (hb); have n2_ := Aside0.mk (ho); clear BK222; clear HB; clear HO_12; have BK222 := n0_; have HB := n1_; have HO231 := n2_; clear n0_ n1_ n2_; clear ho hb hg hat))
                              go_roundg kj17
                              case measure => have := HJ3.out; have := HK2.out; have := HJ17.out; omega
                              case rel => exact ⟨(t227), (y229), (IntKind.u64.wrap (x13_2 + 1)), (by first | rfl | (simp; done) | (simp [*]; done)), (by first | rfl | (simp; done) | (simp [*]; done)), (by first | (with_reducible exact H') | exact H' | (subst_vars; exact H')), ⟨by have := HJ3.out; have := HK2.out; have := HJ17.out; omega⟩, ⟨by (with_reducible repeat (first | apply Kd.R_alloc | apply Kd.R_drewN | apply Kd.R_drew)); exact Kd.R_mono HO231.out (fun _ hk => trivial)⟩, ⟨by repeat (first | (with_reducible first | exact HB.out | apply below_alloc | apply pw_below_drewN | apply below_drew1 | refine below_set ?_ GE222.out) | exact HB.out)⟩⟩
                            · rw [if_neg c28] at H
                              exact absurd H (by simp)
                          · replace c27 := Bool.eq_false_iff.mpr c27
                            subst c27
                            have H1 : (some (0, ([] : List (S34)), 2)) = some (r1, r2, r3) := by rw [if_neg (show ¬ (false = true) by decide)] at H; exact H
                            clear H
                            have H := H1
                            clear H1
                            simp only [Option.some.injEq, Prod.mk.injEq] at H
                            obtain ⟨rfl, rfl, rfl⟩ := H
                            go_wp2_with (first | ((with_reducible refine gate_callee (f := 37) rfl ?_); refine goesL_ (some 71) rfl rfl Try.func37 (by kernel_rfl) rfl #[.string t224] rfl (by (try simp only [List.map_toArray, List.map_cons, List.map_nil]); first | done | rfl | (simp only [List.length_drop, List.length_take]; rfl) | (simp (disch := omega) only [IntWalk.u64_in, IntWalk.i64_in, IntWalk.u8_in]; rfl)) ?_; (with_reducible refine (screeref05_taken.calls kj17 t224 t226 t227 false _ A26.out).mono ?_); rintro e w32 ⟨rfl, hb⟩; refine ⟨_, rfl, ?_⟩; have n0_ := Aside0.mk (Kd.R_below (by (with_reducible repeat (first | apply Kd.R_alloc | apply Kd.R_drewN | apply Kd.R_drew)); exact HO_12.out) hb); have n1_ := Aside0.mk (blk_below (g := gb222) (o := .cells #[.bool ((bt x0_2 0) == 1), .string t223, .string (⟨#[]⟩ : ByteArray)] 34 (0, 0)) (by (with_reducible repeat (first | refine blk_drewN ?_ _ | refine blk_drew ?_ | refine blk_alloc ?_ _)); exact BK222.out) hb); have n2_ := Aside0.mk (below_step (by repeat (first | (with_reducible first | exact HB.out | apply below_alloc | apply pw_below_drewN | apply below_drew1 | refine below_set ?_ GE222.out) | exact HB.out)) hb); clear HO_12; clear BK222; clear HB; have HO_12 := n0_; have BK222 := n1_; have HB := n2_; clear n0_ n1_ n2_; (try clear hb); (try clear hb2); (try clear hk); (try clear hi); (try clear A26); have hcz33_0 : w32.cell? ⟨gb222, 0, none⟩ = some (.bool ((bt x0_2 0) == 1)) := (blk_cell BK222.out 0).trans rfl; have hcz33_1 : w32.cell? ⟨gb222, 1, none⟩ = some (.string t223) := (blk_cell BK222.out 1).trans rfl; have hcz33_2 : w32.cell? ⟨gb222, 2, none⟩ = some (.string (⟨#[]⟩ : ByteArray)) := (blk_cell BK222.out 2).trans rfl; have hfz33_0 := blk_frozen BK222.out 0; have hfz33_1 := blk_frozen BK222.out 1; have hfz33_2 := blk_frozen BK222.out 2))
                            go_ret3
                            exact ⟨_, by first | rfl | (simp [errW_none, errW_some] <;> rfl) | (simp (disch := omega) only [← i64_w, IntWalk.i64_in]; rfl) | (simp [*, errW_none, errW_some] <;> rfl), by first | exact Kd.R_nil _ _ _ _ _ | exact Kd.N_nil _ _ _ _ _ | exact Kd.V_nil _ _ _ _ _ | exact Kd.Q_nil _ _ _ _ _ | exact Kd.S_nil _ _ _ _ _, by repeat (first | (with_reducible first | exact HB.out | apply below_alloc | apply pw_below_drewN | apply below_drew1 | refine below_set ?_ GE222.out) | exact HB.out)⟩
                        · replace c25 := Bool.eq_false_iff.mpr c25
                          subst c25
                          have H1 : (if t225 = true then (if x12_2.length < 3518437208883 then (screeref05_Decode.l0 kj17 t224 a0 t211 t214 (x12_2 ++ [(⟨((bt x0_2 0) == 1), t223, (⟨#[]⟩ : ByteArray)⟩ : S34)]) (IntKind.u64.wrap (x13_2 + 1))) else (none)) else (some (0, ([] : List (S34)), 2))) = some (r1, r2, r3) := by rw [if_neg (show ¬ (false = true) by decide)] at H; exact H
                          clear H
                          have H := H1
                          clear H1
                          by_cases c34 : t225 = true
                          · subst c34
                            have H1 : (if x12_2.length < 3518437208883 then (screeref05_Decode.l0 kj17 t224 a0 t211 t214 (x12_2 ++ [(⟨((bt x0_2 0) == 1), t223, (⟨#[]⟩ : ByteArray)⟩ : S34)]) (IntKind.u64.wrap (x13_2 + 1))) else (none)) = some (r1, r2, r3) := by rw [if_pos rfl] at H; exact H
                            clear H
                            have H := H1
                            clear H1
                            by_cases c35 : x12_2.length < 3518437208883
                            · rw [if_pos c35] at H
                              have LMc35 := Aside0.mk c35
                              clear c35
                              obtain ⟨y232, hy232⟩ : ∃ y_ : List (S34), y_ = (x12_2 ++ [(⟨((bt x0_2 0) == 1), t223, (⟨#[]⟩ : ByteArray)⟩ : S34)]) := ⟨_, rfl⟩
                              replace H : (screeref05_Decode.l0 kj17 t224 a0 t211 t214 y232 (IntKind.u64.wrap (x13_2 + 1))) = some (r1, r2, r3) := by first | (rw [hy232]; with_reducible exact H) | (have H2_ := (Option.bind_some _ _).symm.trans H; rw [hy232]; with_reducible exact H2_) | (have H2_ := (Option.bind_some _ _).symm.trans H; with_reducible exact H2_) | with_reducible exact H | (rw [hy232]; exact H) | exact H
                              have Ny232 := Aside0.mk hy232
                              clear hy232
                              have H' := Aside0.mk H
                              clear H
                              have hcz36_0 : wc.cell? ⟨gb222, 0, none⟩ = some (.bool ((bt x0_2 0) == 1)) := (blk_cell BK222.out 0).trans rfl
                              have hcz36_1 : wc.cell? ⟨gb222, 1, none⟩ = some (.string t223) := (blk_cell BK222.out 1).trans rfl
                              have hcz36_2 : wc.cell? ⟨gb222, 2, none⟩ = some (.string (⟨#[]⟩ : ByteArray)) := (blk_cell BK222.out 2).trans rfl
                              have hfz36_0 := blk_frozen BK222.out 0
                              have hfz36_1 := blk_frozen BK222.out 1
                              have hfz36_2 := blk_frozen BK222.out 2
                              go_wp2_with (first | ((with_reducible refine gate_builtin (b := .append) (xs := #[.tmp 78, .tmp 80]) rfl ?_); at_builtin; refine Kd.R_append k34 (w0 := w) w.heap.size rfl (.tmp 78) (.tmp 80) 23 34 (.agg #[(.bool false), (.string ⟨#[]⟩), (.string ⟨#[]⟩)]) 40 rfl Try.underlying23 info34 rfl (by decide) (by omega) u12 x12_2 (⟨((bt x0_2 0) == 1), t223, (⟨#[]⟩ : ByteArray)⟩ : S34) [.bool ((bt x0_2 0) == 1), .string t223, .string (⟨#[]⟩ : ByteArray)] (fun k_ => k_ ≠ gb222) (fun _ => False) rfl rfl ?aP (fun _ hk => hk.elim) ?aF ?aO ?aB ?aS ?aL ?_; (case aP => exact k34_mkM _ _ _ (⟨((bt x0_2 0) == 1), t223, (⟨#[]⟩ : ByteArray)⟩ : S34)); (case aB => exact (by repeat (first | (with_reducible first | exact HB.out | apply below_alloc | apply pw_below_drewN | apply below_drew1 | refine below_set ?_ GE222.out) | exact HB.out))); (case aF => exact (fun k_ hk => Kd.freshB (g := gb222) (o := .cells #[.bool ((bt x0_2 0) == 1), .string t223, .string (⟨#[]⟩ : ByteArray)] 34 (0, 0)) (by (with_reducible repeat (first | refine blk_drewN ?_ _ | refine blk_drew ?_ | refine blk_alloc ?_ _)); exact BK222.out) k_ hk)); (case aO => exact (by (with_reducible repeat (first | apply Kd.R_alloc | apply Kd.R_drewN | apply Kd.R_drew)); exact HO_12.out)); (case aS => exact (below_size (by repeat (first | (with_reducible first | exact HB.out | apply below_alloc | apply pw_below_drewN | apply below_drew1 | refine below_set ?_ GE222.out) | exact HB.out)))); (case aL => have := LMc35.out; omega); intro v233 w37 ho hb hg hat; rw [← Ny232.out] at ho; have n0_ := Aside0.mk (blk_grown (g := gb222) (o := .cells #[.bool ((bt x0_2 0) == 1), .string t223, .string (⟨#[]⟩ : ByteArray)] 34 (0, 0)) (by (with_reducible repeat (first | refine blk_drewN ?_ _ | refine blk_drew ?_ | refine blk_alloc ?_ _)); exact BK222.out) hg (Kd.R_away HO_12.out (fun _ hk => hk))); have n1_ := Aside0.mk (hb); have n2_ := Aside0.mk (ho); clear BK222; clear HB; clear HO_12; have BK222 := n0_; have HB := n1_; have HO234 := n2_; clear n0_ n1_ n2_; clear ho hb hg hat))
                              go_roundg kj17
                              case measure => have := HJ3.out; have := HK2.out; have := HJ17.out; omega
                              case rel => exact ⟨(t224), (y232), (IntKind.u64.wrap (x13_2 + 1)), (by first | rfl | (simp; done) | (simp [*]; done)), (by first | rfl | (simp; done) | (simp [*]; done)), (by first | (with_reducible exact H') | exact H' | (subst_vars; exact H')), ⟨by have := HJ3.out; have := HK2.out; have := HJ17.out; omega⟩, ⟨by (with_reducible repeat (first | apply Kd.R_alloc | apply Kd.R_drewN | apply Kd.R_drew)); exact Kd.R_mono HO234.out (fun _ hk => trivial)⟩, ⟨by repeat (first | (with_reducible first | exact HB.out | apply below_alloc | apply pw_below_drewN | apply below_drew1 | refine below_set ?_ GE222.out) | exact HB.out)⟩⟩
                            · rw [if_neg c35] at H
                              exact absurd H (by simp)
                          · replace c34 := Bool.eq_false_iff.mpr c34
                            subst c34
                            have H1 : (some (0, ([] : List (S34)), 2)) = some (r1, r2, r3) := by rw [if_neg (show ¬ (false = true) by decide)] at H; exact H
                            clear H
                            have H := H1
                            clear H1
                            simp only [Option.some.injEq, Prod.mk.injEq] at H
                            obtain ⟨rfl, rfl, rfl⟩ := H
                            go_wp2
                            go_ret3
                            exact ⟨_, by first | rfl | (simp [errW_none, errW_some] <;> rfl) | (simp (disch := omega) only [← i64_w, IntWalk.i64_in]; rfl) | (simp [*, errW_none, errW_some] <;> rfl), by first | exact Kd.R_nil _ _ _ _ _ | exact Kd.N_nil _ _ _ _ _ | exact Kd.V_nil _ _ _ _ _ | exact Kd.Q_nil _ _ _ _ _ | exact Kd.S_nil _ _ _ _ _, by repeat (first | (with_reducible first | exact HB.out | apply below_alloc | apply pw_below_drewN | apply below_drew1 | refine below_set ?_ GE222.out) | exact HB.out)⟩
                  · rw [if_neg c16] at H
                    exact absurd H (by simp)
                · rw [if_neg c14] at H
                  exact absurd H (by simp)
            · rw [if_neg c12] at H
              have c12b0 : decide (x13_2 < t214) = false := decide_eq_false c12
              clear c12
              replace H := Option.bind_eq_some_iff.mp H
              obtain ⟨⟨t220, t221⟩, A380, H⟩ := H
              replace H : (if t221 = 0 then (if t220.toList = a0.toList then (some (t211, x12_2, 0)) else (some (0, ([] : List (S34)), 2))) else (some (0, ([] : List (S34)), 2))) = some (r1, r2, r3) := H
              have A38 := Aside0.mk A380
              clear A380
              by_cases c39 : t221 = 0
              · rw [if_pos c39] at H
                have c39b0 : (t221 == 0) = true := beq_iff_eq.mpr c39
                have c39b1 : (t221 != 0) = false := bne_eq_false_iff_eq.mpr c39
                clear c39
                by_cases c40 : t220.toList = a0.toList
                · rw [if_pos c40] at H
                  have c40b0 : (t220.toList == a0.toList) = true := beq_iff_eq.mpr c40
                  have c40b1 : (t220.toList != a0.toList) = false := bne_eq_false_iff_eq.mpr c40
                  clear c40
                  simp only [Option.some.injEq, Prod.mk.injEq] at H
                  obtain ⟨rfl, rfl, rfl⟩ := H
                  obtain ⟨Ao41, co41, eo41⟩ := Kd.R_slice HO_12.out
                  subst eo41
                  go_wp2_with (first | ((with_reducible refine gate_callee (f := 13) rfl ?_); refine goesL_ (some 85) rfl rfl Try.func13 (by kernel_rfl) rfl #[.int .u64 t211, .slice Ao41 x12_2.length co41] rfl (by (try simp only [List.map_toArray, List.map_cons, List.map_nil]); first | done | rfl | (simp only [List.length_drop, List.length_take]; rfl) | (simp (disch := omega) only [IntWalk.u64_in, IntWalk.i64_in, IntWalk.u8_in]; rfl)) ?_; (with_reducible refine (screeref05_Encode.calls k2 t211 _ _ x12_2 t220 t221 _ ?side1 ?side2 A38.out).mono ?_); (case side1 => repeat (first | exact (Kd.R_reads' HO_12.out).2.2 | (with_reducible refine Kd.C_alloc ?_ _) | (with_reducible refine Kd.C_drewN ?_ _) | (with_reducible refine Kd.C_drew ?_))); (case side2 => exact (Kd.R_reads' HO_12.out).2.1); rintro e w42 ⟨rfl, hb⟩; refine ⟨_, rfl, ?_⟩; have n0_ := Aside0.mk (Kd.R_below (by (with_reducible repeat (first | apply Kd.R_alloc | apply Kd.R_drewN | apply Kd.R_drew)); exact HO_12.out) hb); have n1_ := Aside0.mk (below_step (by repeat (first | (with_reducible first | exact HB.out | apply below_alloc | apply pw_below_drewN | apply below_drew1) | exact HB.out)) hb); clear HO_12; clear HB; have HO_12 := n0_; have HB := n1_; clear n0_ n1_; (try clear hb); (try clear hb2); (try clear hk); (try clear hi); (try clear A38)))
                  go_ret3
                  exact ⟨_, by first | rfl | (simp [errW_none, errW_some] <;> rfl) | (simp (disch := omega) only [← i64_w, IntWalk.i64_in]; rfl) | (simp [*, errW_none, errW_some] <;> rfl), by (with_reducible repeat (first | apply Kd.R_alloc | apply Kd.R_drewN | apply Kd.R_drew)); exact HO_12.out, by repeat (first | (with_reducible first | exact HB.out | apply below_alloc | apply pw_below_drewN | apply below_drew1) | exact HB.out)⟩
                · rw [if_neg c40] at H
                  have c40b0 : (t220.toList == a0.toList) = false := beq_eq_false_iff_ne.mpr c40
                  have c40b1 : (t220.toList != a0.toList) = true := bne_iff_ne.mpr c40
                  simp only [Option.some.injEq, Prod.mk.injEq] at H
                  obtain ⟨rfl, rfl, rfl⟩ := H
                  obtain ⟨Ao43, co43, eo43⟩ := Kd.R_slice HO_12.out
                  subst eo43
                  go_wp2_with (first | ((with_reducible refine gate_callee (f := 13) rfl ?_); refine goesL_ (some 85) rfl rfl Try.func13 (by kernel_rfl) rfl #[.int .u64 t211, .slice Ao43 x12_2.length co43] rfl (by (try simp only [List.map_toArray, List.map_cons, List.map_nil]); first | done | rfl | (simp only [List.length_drop, List.length_take]; rfl) | (simp (disch := omega) only [IntWalk.u64_in, IntWalk.i64_in, IntWalk.u8_in]; rfl)) ?_; (with_reducible refine (screeref05_Encode.calls k2 t211 _ _ x12_2 t220 t221 _ ?side1 ?side2 A38.out).mono ?_); (case side1 => repeat (first | exact (Kd.R_reads' HO_12.out).2.2 | (with_reducible refine Kd.C_alloc ?_ _) | (with_reducible refine Kd.C_drewN ?_ _) | (with_reducible refine Kd.C_drew ?_))); (case side2 => exact (Kd.R_reads' HO_12.out).2.1); rintro e w44 ⟨rfl, hb⟩; refine ⟨_, rfl, ?_⟩; have n0_ := Aside0.mk (Kd.R_below (by (with_reducible repeat (first | apply Kd.R_alloc | apply Kd.R_drewN | apply Kd.R_drew)); exact HO_12.out) hb); have n1_ := Aside0.mk (below_step (by repeat (first | (with_reducible first | exact HB.out | apply below_alloc | apply pw_below_drewN | apply below_drew1) | exact HB.out)) hb); clear HO_12; clear HB; have HO_12 := n0_; have HB := n1_; clear n0_ n1_; (try clear hb); (try clear hb2); (try clear hk); (try clear hi); (try clear A38)))
                  go_ret3
                  exact ⟨_, by first | rfl | (simp [errW_none, errW_some] <;> rfl) | (simp (disch := omega) only [← i64_w, IntWalk.i64_in]; rfl) | (simp [*, errW_none, errW_some] <;> rfl), by first | exact Kd.R_nil _ _ _ _ _ | exact Kd.N_nil _ _ _ _ _ | exact Kd.V_nil _ _ _ _ _ | exact Kd.Q_nil _ _ _ _ _ | exact Kd.S_nil _ _ _ _ _, by repeat (first | (with_reducible first | exact HB.out | apply below_alloc | apply pw_below_drewN | apply below_drew1) | exact HB.out)⟩
              · rw [if_neg c39] at H
                have c39b0 : (t221 == 0) = false := beq_eq_false_iff_ne.mpr c39
                have c39b1 : (t221 != 0) = true := bne_iff_ne.mpr c39
                simp only [Option.some.injEq, Prod.mk.injEq] at H
                obtain ⟨rfl, rfl, rfl⟩ := H
                obtain ⟨Ao45, co45, eo45⟩ := Kd.R_slice HO_12.out
                subst eo45
                go_wp2_with (first | ((with_reducible refine gate_callee (f := 13) rfl ?_); refine goesL_ (some 85) rfl rfl Try.func13 (by kernel_rfl) rfl #[.int .u64 t211, .slice Ao45 x12_2.length co45] rfl (by (try simp only [List.map_toArray, List.map_cons, List.map_nil]); first | done | rfl | (simp only [List.length_drop, List.length_take]; rfl) | (simp (disch := omega) only [IntWalk.u64_in, IntWalk.i64_in, IntWalk.u8_in]; rfl)) ?_; (with_reducible refine (screeref05_Encode.calls k2 t211 _ _ x12_2 t220 t221 _ ?side1 ?side2 A38.out).mono ?_); (case side1 => repeat (first | exact (Kd.R_reads' HO_12.out).2.2 | (with_reducible refine Kd.C_alloc ?_ _) | (with_reducible refine Kd.C_drewN ?_ _) | (with_reducible refine Kd.C_drew ?_))); (case side2 => exact (Kd.R_reads' HO_12.out).2.1); rintro e w46 ⟨rfl, hb⟩; refine ⟨_, rfl, ?_⟩; have n0_ := Aside0.mk (Kd.R_below (by (with_reducible repeat (first | apply Kd.R_alloc | apply Kd.R_drewN | apply Kd.R_drew)); exact HO_12.out) hb); have n1_ := Aside0.mk (below_step (by repeat (first | (with_reducible first | exact HB.out | apply below_alloc | apply pw_below_drewN | apply below_drew1) | exact HB.out)) hb); clear HO_12; clear HB; have HO_12 := n0_; have HB := n1_; clear n0_ n1_; (try clear hb); (try clear hb2); (try clear hk); (try clear hi); (try clear A38)))
                go_ret3
                exact ⟨_, by first | rfl | (simp [errW_none, errW_some] <;> rfl) | (simp (disch := omega) only [← i64_w, IntWalk.i64_in]; rfl) | (simp [*, errW_none, errW_some] <;> rfl), by first | exact Kd.R_nil _ _ _ _ _ | exact Kd.N_nil _ _ _ _ _ | exact Kd.V_nil _ _ _ _ _ | exact Kd.Q_nil _ _ _ _ _ | exact Kd.S_nil _ _ _ _ _, by repeat (first | (with_reducible first | exact HB.out | apply below_alloc | apply pw_below_drewN | apply below_drew1) | exact HB.out)⟩

/-! ### screelaw05_BatchReads: function 4 -/
def screelaw05_BatchReads.f (k : Nat) (a0 : ByteArray) : Option (Bool) := (screelaw05_awake.f k).bind fun t235 => (if t235 = true then (if (a0.size : Int) > 8192 then (some true) else ((batch_Decode.f k a0).bind fun bt236 => ((screeref05_Decode.f k a0).bind fun bt241 => (if bt236.1 = bt241.1 then ((screeref05_Same.f k bt236.2.1 bt241.2.1).bind fun t246 => (if t246 = true then (some (bt236.2.2 == bt241.2.2)) else (none))) else (none))))) else (none))
theorem screelaw05_BatchReads.mono : ∀ a0 k, LeO (screelaw05_BatchReads.f k a0) (screelaw05_BatchReads.f (k + 1) a0) := by
  intro a0 k
  unfold screelaw05_BatchReads.f
  repeat' first
      | (with_reducible exact batch_Decode.mono _ _)
      | (with_reducible exact screelaw05_awake.mono _)
      | (with_reducible exact screeref05_Decode.mono _ _)
      | (with_reducible exact screeref05_Same.mono _ _ _)
      | (with_reducible exact LeO.refl _)
      | (with_reducible exact LeO.none _)
      | (with_reducible refine LeO.ite ?_ ?_)
      | (with_reducible refine LeO.bind ?_ (fun _ => ?_))
      | exact batch_Decode.mono _ _
      | exact screelaw05_awake.mono _
      | exact screeref05_Decode.mono _ _
      | exact screeref05_Same.mono _ _ _
      | exact LeO.none _
      | refine LeO.ite ?_ ?_
      | refine LeO.bind ?_ (fun _ => ?_)
set_option maxHeartbeats 8000000 in
set_option maxRecDepth 100000 in
theorem screelaw05_BatchReads.calls (k : Nat) (a0 : ByteArray) (r : Bool) (w : World) (h : screelaw05_BatchReads.f k a0 = some r) :
    Calls Try.prog 4 #[.string a0] w fun e w' => e = .returned (.bool r) ∧ Below w.heap.size w w' := by
  have HB := Aside0.mk (Below.refl w.heap.size w)
  have H : ((screelaw05_awake.f k).bind fun t235 => (if t235 = true then (if (a0.size : Int) > 8192 then (some true) else ((batch_Decode.f k a0).bind fun bt236 => ((screeref05_Decode.f k a0).bind fun bt241 => (if bt236.1 = bt241.1 then ((screeref05_Same.f k bt236.2.1 bt241.2.1).bind fun t246 => (if t246 = true then (some (bt236.2.2 == bt241.2.2)) else (none))) else (none))))) else (none))) = some r := h
  clear h
  replace H := Option.bind_eq_some_iff.mp H
  obtain ⟨t235, A20, H⟩ := H
  replace H : (if t235 = true then (if (a0.size : Int) > 8192 then (some true) else ((batch_Decode.f k a0).bind fun bt236 => ((screeref05_Decode.f k a0).bind fun bt241 => (if bt236.1 = bt241.1 then ((screeref05_Same.f k bt236.2.1 bt241.2.1).bind fun t246 => (if t246 = true then (some (bt236.2.2 == bt241.2.2)) else (none))) else (none))))) else (none)) = some r := H
  have A2 := Aside0.mk A20
  clear A20
  by_cases c3 : t235 = true
  · subst c3
    have H1 : (if (a0.size : Int) > 8192 then (some true) else ((batch_Decode.f k a0).bind fun bt236 => ((screeref05_Decode.f k a0).bind fun bt241 => (if bt236.1 = bt241.1 then ((screeref05_Same.f k bt236.2.1 bt241.2.1).bind fun t246 => (if t246 = true then (some (bt236.2.2 == bt241.2.2)) else (none))) else (none))))) = some r := by rw [if_pos rfl] at H; exact H
    clear H
    have H := H1
    clear H1
    by_cases c4 : (a0.size : Int) > 8192
    · rw [if_pos c4] at H
      have c4b0 : decide (8192 < (a0.size : Int)) = true := decide_eq_true c4
      have c4b1 : decide (8192 < a0.size) = true := decide_eq_true (by omega)
      clear c4
      obtain rfl := Option.some.inj H
      go_enter Try.func4, Try.ntmps4
      go_wp2_with (first | ((with_reducible refine gate_callee (f := 10) rfl ?_); refine goesL_ (some 9) rfl rfl Try.func10 (by kernel_rfl) rfl #[] rfl (by (try simp only [List.map_toArray, List.map_cons, List.map_nil]); first | done | rfl | (simp only [List.length_drop, List.length_take]; rfl) | (simp (disch := omega) only [IntWalk.u64_in, IntWalk.i64_in, IntWalk.u8_in]; rfl)) ?_; (with_reducible refine (screelaw05_awake.calls k  true _ A2.out).mono ?_); rintro e w5 ⟨rfl, hb⟩; refine ⟨_, rfl, ?_⟩; have n0_ := Aside0.mk (below_step (by repeat (first | (with_reducible first | exact HB.out | apply below_alloc | apply pw_below_drewN | apply below_drew1) | exact HB.out)) hb); clear HB; have HB := n0_; clear n0_; (try clear hb); (try clear hb2); (try clear hk); (try clear hi); (try clear A2)))
      go_ret
      exact ⟨by first | rfl | (simp [errW_none, errW_some] <;> rfl) | (simp (disch := omega) only [← i64_w, IntWalk.i64_in]; rfl) | (simp [*, errW_none, errW_some] <;> rfl), by repeat (first | (with_reducible first | exact HB.out | apply below_alloc | apply pw_below_drewN | apply below_drew1) | exact HB.out)⟩
    · rw [if_neg c4] at H
      have c4b0 : decide (8192 < (a0.size : Int)) = false := decide_eq_false c4
      have c4b1 : decide (8192 < a0.size) = false := decide_eq_false (by omega)
      clear c4
      replace H := Option.bind_eq_some_iff.mp H
      obtain ⟨⟨t236, t237, t238⟩, A60, H⟩ := H
      replace H : ((screeref05_Decode.f k a0).bind fun bt241 => (if t236 = bt241.1 then ((screeref05_Same.f k t237 bt241.2.1).bind fun t246 => (if t246 = true then (some (t238 == bt241.2.2)) else (none))) else (none))) = some r := H
      have A6 := Aside0.mk A60
      clear A60
      replace H := Option.bind_eq_some_iff.mp H
      obtain ⟨⟨t241, t242, t243⟩, A70, H⟩ := H
      replace H : (if t236 = t241 then ((screeref05_Same.f k t237 t242).bind fun t246 => (if t246 = true then (some (t238 == t243)) else (none))) else (none)) = some r := H
      have A7 := Aside0.mk A70
      clear A70
      by_cases c8 : t236 = t241
      · rw [if_pos c8] at H
        have c8b0 : (t236 == t241) = true := beq_iff_eq.mpr c8
        have c8b1 : (t236 != t241) = false := bne_eq_false_iff_eq.mpr c8
        clear c8
        replace H := Option.bind_eq_some_iff.mp H
        obtain ⟨t246, A90, H⟩ := H
        replace H : (if t246 = true then (some (t238 == t243)) else (none)) = some r := H
        have A9 := Aside0.mk A90
        clear A90
        by_cases c10 : t246 = true
        · subst c10
          have H1 : (some (t238 == t243)) = some r := by rw [if_pos rfl] at H; exact H
          clear H
          have H := H1
          clear H1
          obtain rfl := Option.some.inj H
          go_enter Try.func4, Try.ntmps4
          go_wp2_with (first | ((with_reducible refine gate_callee (f := 10) rfl ?_); refine goesL_ (some 9) rfl rfl Try.func10 (by kernel_rfl) rfl #[] rfl (by (try simp only [List.map_toArray, List.map_cons, List.map_nil]); first | done | rfl | (simp only [List.length_drop, List.length_take]; rfl) | (simp (disch := omega) only [IntWalk.u64_in, IntWalk.i64_in, IntWalk.u8_in]; rfl)) ?_; (with_reducible refine (screelaw05_awake.calls k  true _ A2.out).mono ?_); rintro e w11 ⟨rfl, hb⟩; refine ⟨_, rfl, ?_⟩; have n0_ := Aside0.mk (below_step (by repeat (first | (with_reducible first | exact HB.out | apply below_alloc | apply pw_below_drewN | apply below_drew1) | exact HB.out)) hb); clear HB; have HB := n0_; clear n0_; (try clear hb); (try clear hb2); (try clear hk); (try clear hi); (try clear A2)) | ((with_reducible refine gate_callee (f := 20) rfl ?_); refine goesL_ (some 16) rfl rfl Try.func20 (by kernel_rfl) rfl #[.string a0] rfl (by (try simp only [List.map_toArray, List.map_cons, List.map_nil]); first | done | rfl | (simp only [List.length_drop, List.length_take]; rfl) | (simp (disch := omega) only [IntWalk.u64_in, IntWalk.i64_in, IntWalk.u8_in]; rfl)) ?_; (with_reducible refine (batch_Decode.calls k a0 t236 t237 t238 _ A6.out).mono ?_); rintro e w12 ⟨v239, rfl, ho0, hb⟩; refine ⟨_, rfl, ?_⟩; have n0_ := Aside0.mk (Kd.R_lower ho0 (below_size (by repeat (first | (with_reducible first | exact HB.out | apply below_alloc | apply pw_below_drewN | apply below_drew1) | exact HB.out)))); have n1_ := Aside0.mk (below_step (by repeat (first | (with_reducible first | exact HB.out | apply below_alloc | apply pw_below_drewN | apply below_drew1) | exact HB.out)) hb); clear HB; have HO240 := n0_; have HB := n1_; clear n0_ n1_; (try clear hb); (try clear hb2); (try clear hk); (try clear hi); (try clear ho0); (try clear A6)) | ((with_reducible refine gate_callee (f := 21) rfl ?_); refine goesL_ (some 22) rfl rfl Try.func21 (by kernel_rfl) rfl #[.string a0] rfl (by (try simp only [List.map_toArray, List.map_cons, List.map_nil]); first | done | rfl | (simp only [List.length_drop, List.length_take]; rfl) | (simp (disch := omega) only [IntWalk.u64_in, IntWalk.i64_in, IntWalk.u8_in]; rfl)) ?_; (with_reducible refine (screeref05_Decode.calls k a0 t241 t242 t243 _ A7.out).mono ?_); rintro e w13 ⟨v244, rfl, ho0, hb⟩; refine ⟨_, rfl, ?_⟩; have n0_ := Aside0.mk (Kd.R_elder' (by (with_reducible repeat (first | apply Kd.R_alloc | apply Kd.R_drewN | apply Kd.R_drew)); exact HO240.out) (Kd.R_base ho0) hb); have n1_ := Aside0.mk (Kd.R_lower (Kd.R_new' ho0 (Kd.R_lt (by (with_reducible repeat (first | apply Kd.R_alloc | apply Kd.R_drewN | apply Kd.R_drew)); exact HO240.out))) (below_size (by repeat (first | (with_reducible first | exact HB.out | apply below_alloc | apply pw_below_drewN | apply below_drew1) | exact HB.out)))); have n2_ := Aside0.mk (below_step (by repeat (first | (with_reducible first | exact HB.out | apply below_alloc | apply pw_below_drewN | apply below_drew1) | exact HB.out)) hb); clear HO240; clear HB; have HO240 := n0_; have HO245 := n1_; have HB := n2_; clear n0_ n1_ n2_; (try clear hb); (try clear hb2); (try clear hk); (try clear hi); (try clear ho0); (try clear A7); obtain ⟨Ao14, co14, eo14⟩ := Kd.R_slice HO240.out; subst eo14; obtain ⟨Ao15, co15, eo15⟩ := Kd.R_slice HO245.out; subst eo15) | (go_at_call 19; (with_reducible refine (screeref05_Same.calls k _ _ t237 _ _ t242 true _ ?side1 ?side2 ?side3 ?side4 A9.out).mono ?_); (case side1 => repeat (first | exact (Kd.R_reads' HO240.out).2.2 | (with_reducible refine Kd.C_alloc ?_ _) | (with_reducible refine Kd.C_drewN ?_ _) | (with_reducible refine Kd.C_drew ?_))); (case side2 => exact (Kd.R_reads' HO240.out).2.1); (case side3 => repeat (first | exact (Kd.R_reads' HO245.out).2.2 | (with_reducible refine Kd.C_alloc ?_ _) | (with_reducible refine Kd.C_drewN ?_ _) | (with_reducible refine Kd.C_drew ?_))); (case side4 => exact (Kd.R_reads' HO245.out).2.1); rintro e w' ⟨rfl, ⟨nd, rfl⟩⟩))
          go_ret
          exact ⟨by first | rfl | (simp [errW_none, errW_some] <;> rfl) | (simp (disch := omega) only [← i64_w, IntWalk.i64_in]; rfl) | (simp [*, errW_none, errW_some] <;> rfl), by repeat (first | (with_reducible first | exact HB.out | apply below_alloc | apply pw_below_drewN | apply below_drew1) | exact HB.out)⟩
        · replace c10 := Bool.eq_false_iff.mpr c10
          subst c10
          have H1 : (none) = some r := by rw [if_neg (show ¬ (false = true) by decide)] at H; exact H
          clear H
          have H := H1
          clear H1
          exact absurd H (by simp)
      · rw [if_neg c8] at H
        exact absurd H (by simp)
  · replace c3 := Bool.eq_false_iff.mpr c3
    subst c3
    have H1 : (none) = some r := by rw [if_neg (show ¬ (false = true) by decide)] at H; exact H
    clear H
    have H := H1
    clear H1
    exact absurd H (by simp)

/-- THE ONE PURE STATEMENT of screelaw05_BatchReads: yours. -/
def screelaw05_BatchReads.Pure : Prop := ∀ (a0 : ByteArray), a0.size ≤ 140737488351232 → ∃ k, screelaw05_BatchReads.f k a0 = some true
theorem screelaw05_BatchReads.walk (P : screelaw05_BatchReads.Pure) (a0 : ByteArray) (w : World) (w0 : a0.size ≤ 140737488351232) :
    Calls Try.prog 4 #[.string a0] w fun e w' => e = .returned (.bool true) ∧ Below w.heap.size w w' := by
  obtain ⟨k, h⟩ := P a0 w0
  refine (screelaw05_BatchReads.calls k a0 true w h).mono ?_
  rintro e w' ⟨rfl, hd⟩
  exact ⟨rfl, hd⟩

end Go.Proofs.Ytfgelbkhjiajfaa.P
