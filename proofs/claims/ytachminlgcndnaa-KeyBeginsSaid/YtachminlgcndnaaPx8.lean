-- Printed by a program of this session's own (wip/tools/pprint.sh, over the kit's print, with given contracts): not typed by hand.
import Derived.Test.YtachminlgcndnaaPx0
import Derived.Test.YtachminlgcndnaaPx5
import Derived.Test.YtachminlgcndnaaPx6
namespace Go.Proofs.Ytachminlgcndnaa.P
open Go.RowKit Go.Proofs.YtachminlgcndnaaW.PrintWords Go.Proofs.YtachminlgcndnaaW.PrintLast Go.Proofs.YtachminlgcndnaaW.PrintMore
attribute [local go_sem] max2_int min2_int max_two min_two max_three min_three max_four min_four   -- for this text's walks alone
set_option linter.unusedVariables false
set_option linter.unusedSimpArgs false

/-! ### screeref02_Unescape: function 25 -/
mutual
def screeref02_Unescape.l0 : Nat → ByteArray → Int → Option (ByteArray × ByteArray × Int)
  | 0, _, _ => none
  | k + 1, x0, x5 => if x5 ≤ (x0.size : Int) then (if 0 ≤ (wrap64 (x5 - 2)) then (if (wrap64 (x5 - 2)) < (x0.size : Int) then (if (bt x0 (wrap64 (x5 - 2))) = 0 then (if 0 ≤ (wrap64 (x5 - 1)) then (if (wrap64 (x5 - 1)) < (x0.size : Int) then (screeref02_Unescape.j1 k x0 x5 ((bt x0 (wrap64 (x5 - 1))) != 1)) else (none)) else (none)) else (screeref02_Unescape.j1 k x0 x5 true)) else (none)) else (none)) else (some ((⟨#[]⟩ : ByteArray), (⟨#[]⟩ : ByteArray), 2))
def screeref02_Unescape.j1 : Nat → ByteArray → Int → Bool → Option (ByteArray × ByteArray × Int)
  | 0, _, _, _ => none
  | k + 1, x0, x5, x27 => if x27 = true then (screeref02_Unescape.l0 k x0 (wrap64 (x5 + 1))) else (screeref02_Unescape.l1 k x0 x5 (([] : List Int)) 0)
def screeref02_Unescape.l1 : Nat → ByteArray → Int → List Int → Int → Option (ByteArray × ByteArray × Int)
  | 0, _, _, _, _ => none
  | k + 1, x0, x5, x6, x7 => if x7 < (wrap64 (x5 - 2)) then (if 0 ≤ x7 then (if x7 < (x0.size : Int) then (if x6.length < 140737488355328 then ((some (x6 ++ [bt x0 x7] : List Int)).bind fun y215 => (if (bt x0 x7) = 0 then (screeref02_Unescape.l1 k x0 x5 y215 (wrap64 ((wrap64 (x7 + 1)) + 1))) else (screeref02_Unescape.l1 k x0 x5 y215 (wrap64 (x7 + 1))))) else (none)) else (none)) else (none)) else ((screeref02_Escape.f k (strOfNums x6)).bind fun bt218 => (if bt218.2 = 0 then (if 0 ≤ x5 then (if x5 ≤ (x0.size : Int) then (if bt218.1.toList = (x0.extract 0 (x5 : Int).toNat).toList then (some (strOfNums x6, x0.extract (x5 : Int).toNat x0.size, 0)) else (screeref02_Unescape.l0 k x0 (wrap64 (x5 + 1)))) else (none)) else (none)) else (screeref02_Unescape.l0 k x0 (wrap64 (x5 + 1)))))
end
def screeref02_Unescape.f (k : Nat) (a0 : ByteArray) : Option (ByteArray × ByteArray × Int) := screeref02_Unescape.l0 k a0 2
theorem screeref02_Unescape.mono_l : ∀ k, (∀ y0 y1, LeO (screeref02_Unescape.l0 k y0 y1) (screeref02_Unescape.l0 (k + 1) y0 y1)) ∧ (∀ y0 y1 y2, LeO (screeref02_Unescape.j1 k y0 y1 y2) (screeref02_Unescape.j1 (k + 1) y0 y1 y2)) ∧ (∀ y0 y1 y2 y3, LeO (screeref02_Unescape.l1 k y0 y1 y2 y3) (screeref02_Unescape.l1 (k + 1) y0 y1 y2 y3))
  | 0 => ⟨fun _ _ r h => by simp [screeref02_Unescape.l0] at h, fun _ _ _ r h => by simp [screeref02_Unescape.j1] at h, fun _ _ _ _ r h => by simp [screeref02_Unescape.l1] at h⟩
  | k + 1 => by
    obtain ⟨ih0, ih1, ih2⟩ := screeref02_Unescape.mono_l k
    refine ⟨?_, ?_, ?_⟩
    · intro y0 y1
      unfold screeref02_Unescape.l0
      repeat' first
      | (with_reducible exact ih0 _ _)
      | (with_reducible exact ih1 _ _ _)
      | (with_reducible exact ih2 _ _ _ _)
      | (with_reducible exact screeref02_Escape.mono _ _)
      | (with_reducible exact LeO.refl _)
      | (with_reducible exact LeO.none _)
      | (with_reducible refine LeO.ite ?_ ?_)
      | (with_reducible refine LeO.bind ?_ (fun _ => ?_))
      | exact ih0 _ _
      | exact ih1 _ _ _
      | exact ih2 _ _ _ _
      | exact screeref02_Escape.mono _ _
      | exact LeO.none _
      | refine LeO.ite ?_ ?_
      | refine LeO.bind ?_ (fun _ => ?_)
    · intro y0 y1 y2
      unfold screeref02_Unescape.j1
      repeat' first
      | (with_reducible exact ih0 _ _)
      | (with_reducible exact ih1 _ _ _)
      | (with_reducible exact ih2 _ _ _ _)
      | (with_reducible exact screeref02_Escape.mono _ _)
      | (with_reducible exact LeO.refl _)
      | (with_reducible exact LeO.none _)
      | (with_reducible refine LeO.ite ?_ ?_)
      | (with_reducible refine LeO.bind ?_ (fun _ => ?_))
      | exact ih0 _ _
      | exact ih1 _ _ _
      | exact ih2 _ _ _ _
      | exact screeref02_Escape.mono _ _
      | exact LeO.none _
      | refine LeO.ite ?_ ?_
      | refine LeO.bind ?_ (fun _ => ?_)
    · intro y0 y1 y2 y3
      unfold screeref02_Unescape.l1
      repeat' first
      | (with_reducible exact ih0 _ _)
      | (with_reducible exact ih1 _ _ _)
      | (with_reducible exact ih2 _ _ _ _)
      | (with_reducible exact screeref02_Escape.mono _ _)
      | (with_reducible exact LeO.refl _)
      | (with_reducible exact LeO.none _)
      | (with_reducible refine LeO.ite ?_ ?_)
      | (with_reducible refine LeO.bind ?_ (fun _ => ?_))
      | exact ih0 _ _
      | exact ih1 _ _ _
      | exact ih2 _ _ _ _
      | exact screeref02_Escape.mono _ _
      | exact LeO.none _
      | refine LeO.ite ?_ ?_
      | refine LeO.bind ?_ (fun _ => ?_)
theorem screeref02_Unescape.mono : ∀ a0 k, LeO (screeref02_Unescape.f k a0) (screeref02_Unescape.f (k + 1) a0) := by
  intro a0 k
  obtain ⟨ih0, ih1, ih2⟩ := screeref02_Unescape.mono_l k
  unfold screeref02_Unescape.f
  repeat' first
      | (with_reducible exact ih0 _ _)
      | (with_reducible exact ih1 _ _ _)
      | (with_reducible exact ih2 _ _ _ _)
      | (with_reducible exact screeref02_Escape.mono _ _)
      | (with_reducible exact LeO.refl _)
      | (with_reducible exact LeO.none _)
      | (with_reducible refine LeO.ite ?_ ?_)
      | (with_reducible refine LeO.bind ?_ (fun _ => ?_))
      | exact ih0 _ _
      | exact ih1 _ _ _
      | exact ih2 _ _ _ _
      | exact screeref02_Escape.mono _ _
      | exact LeO.none _
      | refine LeO.ite ?_ ?_
      | refine LeO.bind ?_ (fun _ => ?_)
set_option maxHeartbeats 8000000 in
set_option maxRecDepth 100000 in
theorem screeref02_Unescape.calls (k : Nat) (a0 : ByteArray) (r1 : ByteArray) (r2 : ByteArray) (r3 : Int) (w : World) (h : screeref02_Unescape.f k a0 = some (r1, r2, r3)) :
    Calls Try.prog 25 #[.string a0] w fun e w' => e = .returned (.tuple #[.string r1, .string r2, .int .i64 r3]) ∧ Below w.heap.size w w' := by
  have HB := Aside0.mk (Below.refl w.heap.size w)
  have H : (screeref02_Unescape.l0 k a0 2) = some (r1, r2, r3) := h
  clear h
  have H' := Aside0.mk H
  clear H
  go_enter Try.func25, Try.ntmps25
  go_wp2
  repeat (go_quiet (fail); try go_wp2)
  go_loopg [5] k (fun kq v5 w' => ∃ (x5_1 : Int), v5 = .int .i64 x5_1 ∧ Aside0 (screeref02_Unescape.l0 kq a0 x5_1 = some (r1, r2, r3)) ∧ Aside0 (kq ≤ k) ∧ Aside0 (Below w.heap.size w w'))
  case atStart => exact ⟨(2), (by first | rfl | (simp; done) | (simp [*]; done)), H', ⟨Nat.le_refl _⟩, ⟨by repeat (first | (with_reducible first | exact HB.out | apply below_alloc | apply pw_below_drewN | apply below_drew1) | exact HB.out)⟩⟩
  case round =>
    clear H'
    obtain ⟨x5_1, rfl, HA, HK1, HB⟩ := hrel
    cases gk with
    | zero => exact absurd HA.out (by simp [screeref02_Unescape.l0])
    | succ k1 =>
      have H := HA.out
      clear HA
      simp only [screeref02_Unescape.l0] at H
      by_cases c2 : x5_1 ≤ (a0.size : Int)
      · rw [if_pos c2] at H
        have c2b0 : decide (x5_1 ≤ (a0.size : Int)) = true := decide_eq_true c2
        clear c2
        have HC3 := Aside0.mk H
        clear H
        go_upto_region 4 with (fail)
        repeat (go_quiet (fail); go_upto_region 4 with (fail))
        go_cut [27] (fun v27 wc => ∃ (kq : Nat) (x27_2 : Bool), v27 = .bool x27_2 ∧ Aside0 (screeref02_Unescape.j1 kq a0 x5_1 x27_2 = some (r1, r2, r3)) ∧ Aside0 (kq ≤ k1) ∧ Aside0 (Below w.heap.size w wc))
        case first =>
          have H := HC3.out
          clear HC3
          obtain ⟨ji4, hji4⟩ : ∃ j_ : Int, (wrap64 (x5_1 - 2)) = j_ := ⟨_, rfl⟩
          replace H : (if 0 ≤ (ji4) then (if (ji4) < (a0.size : Int) then (if (bt a0 (ji4)) = 0 then (if 0 ≤ (wrap64 (x5_1 - 1)) then (if (wrap64 (x5_1 - 1)) < (a0.size : Int) then (screeref02_Unescape.j1 k1 a0 x5_1 ((bt a0 (wrap64 (x5_1 - 1))) != 1)) else (none)) else (none)) else (screeref02_Unescape.j1 k1 a0 x5_1 true)) else (none)) else (none)) = some (r1, r2, r3) := by first | (rw [hji4] at H; exact H) | (simp only [hji4] at H ⊢; exact H)
          have hji4w : (IntKind.i64.wrap (x5_1 - 2)) = ji4 := (i64_w _).trans hji4
          by_cases c5 : 0 ≤ (ji4)
          · rw [if_pos c5] at H
            have c5b0 : decide (0 ≤ (ji4)) = true := decide_eq_true c5
            clear c5
            (first | rw [c5b0] | (simp only [i64_w, i32_w]; rw [c5b0]) | skip)
            by_cases c6 : (ji4) < (a0.size : Int)
            · rw [if_pos c6] at H
              have c6b0 : decide ((ji4) < (a0.size : Int)) = true := decide_eq_true c6
              clear c6
              by_cases c8 : (bt a0 (ji4)) = 0
              · rw [if_pos c8] at H
                have c8b0 : ((bt a0 (ji4)) == 0) = true := beq_iff_eq.mpr c8
                have c8b1 : ((bt a0 (ji4)) != 0) = false := bne_eq_false_iff_eq.mpr c8
                clear c8
                obtain ⟨ji9, hji9⟩ : ∃ j_ : Int, (wrap64 (x5_1 - 1)) = j_ := ⟨_, rfl⟩
                replace H : (if 0 ≤ (ji9) then (if (ji9) < (a0.size : Int) then (screeref02_Unescape.j1 k1 a0 x5_1 ((bt a0 (ji9)) != 1)) else (none)) else (none)) = some (r1, r2, r3) := by first | (rw [hji9] at H; exact H) | (simp only [hji9] at H ⊢; exact H)
                have hji9w : (IntKind.i64.wrap (x5_1 - 1)) = ji9 := (i64_w _).trans hji9
                by_cases c10 : 0 ≤ (ji9)
                · rw [if_pos c10] at H
                  have c10b0 : decide (0 ≤ (ji9)) = true := decide_eq_true c10
                  clear c10
                  by_cases c11 : (ji9) < (a0.size : Int)
                  · rw [if_pos c11] at H
                    have c11b0 : decide ((ji9) < (a0.size : Int)) = true := decide_eq_true c11
                    clear c11
                    have H' := Aside0.mk H
                    clear H
                    have p7 : 0 ≤ ((ji4) : Int) := of_decide_eq_true (by first | (with_reducible assumption) | assumption)
                    have q7 : (ji4) < (a0.size : Int) := of_decide_eq_true (by first | (with_reducible assumption) | assumption)
                    have hx7 := bt_at a0 (ji4)
                    replace p7 := eq_true p7
                    replace q7 := eq_true q7
                    have p12 : 0 ≤ ((ji9) : Int) := of_decide_eq_true (by first | (with_reducible assumption) | assumption)
                    have q12 : (ji9) < (a0.size : Int) := of_decide_eq_true (by first | (with_reducible assumption) | assumption)
                    have hx12 := bt_at a0 (ji9)
                    replace p12 := eq_true p12
                    replace q12 := eq_true q12
                    go_wp2
                    repeat (go_quiet (fail); try go_wp2)
                    go_meet
                    case rel => exact ⟨_, (((bt a0 (ji9)) != 1)), (by first | rfl | (simp; done) | (simp only [← hji9] <;> (first | rfl | simp)) | (simp [*]; done)), (by first | (with_reducible exact H') | exact H' | (subst_vars; exact H')), ⟨by have := HK1.out; first | omega | exact Nat.le_refl _⟩, ⟨by repeat (first | (with_reducible first | exact HB.out | apply below_alloc | apply pw_below_drewN | apply below_drew1) | exact HB.out)⟩⟩
                  · rw [if_neg c11] at H
                    exact absurd H (by simp)
                · rw [if_neg c10] at H
                  exact absurd H (by simp)
              · rw [if_neg c8] at H
                have c8b0 : ((bt a0 (ji4)) == 0) = false := beq_eq_false_iff_ne.mpr c8
                have c8b1 : ((bt a0 (ji4)) != 0) = true := bne_iff_ne.mpr c8
                have H' := Aside0.mk H
                clear H
                have p7 : 0 ≤ ((ji4) : Int) := of_decide_eq_true (by first | (with_reducible assumption) | assumption)
                have q7 : (ji4) < (a0.size : Int) := of_decide_eq_true (by first | (with_reducible assumption) | assumption)
                have hx7 := bt_at a0 (ji4)
                replace p7 := eq_true p7
                replace q7 := eq_true q7
                go_wp2
                repeat (go_quiet (fail); try go_wp2)
                go_meet
                case rel => exact ⟨_, (true), (by first | rfl | (simp; done) | (simp [*]; done)), (by first | (with_reducible exact H') | exact H' | (subst_vars; exact H')), ⟨by have := HK1.out; first | omega | exact Nat.le_refl _⟩, ⟨by repeat (first | (with_reducible first | exact HB.out | apply below_alloc | apply pw_below_drewN | apply below_drew1) | exact HB.out)⟩⟩
            · rw [if_neg c6] at H
              exact absurd H (by simp)
          · rw [if_neg c5] at H
            exact absurd H (by simp)
        case rest =>
          clear HC3
          try clear c1
          try clear p1
          try clear q1
          try clear hx1
          try clear c2
          try clear c2b0
          try clear p2
          try clear c5
          try clear c5b0
          try clear c6
          try clear c6b0
          try clear p6
          try clear p7
          try clear q7
          try clear hx7
          try clear c8
          try clear c8b0
          try clear c8b1
          try clear c10
          try clear c10b0
          try clear c11
          try clear c11b0
          try clear p12
          try clear q12
          try clear hx12
          try clear p12
          try clear p7
          try clear q12
          try clear q7
          obtain ⟨kq, x27_2, rfl, HA, HJ2, HB⟩ := hcut
          cases kq with
          | zero => exact absurd HA.out (by simp [screeref02_Unescape.j1])
          | succ kj2 =>
            have H := HA.out
            clear HA
            simp only [screeref02_Unescape.j1] at H
            by_cases c13 : x27_2 = true
            · subst c13
              have H1 : (screeref02_Unescape.l0 kj2 a0 (wrap64 (x5_1 + 1))) = some (r1, r2, r3) := by rw [if_pos rfl] at H; exact H
              clear H
              have H := H1
              clear H1
              have H' := Aside0.mk H
              clear H
              go_wp2
              repeat (go_quiet (fail); try go_wp2)
              go_roundg kj2
              case measure => have := HK1.out; have := HJ2.out; omega
              case rel => exact ⟨(wrap64 (x5_1 + 1)), (by first | rfl | (simp; done) | (simp [*]; done)), (by first | (with_reducible exact H') | exact H' | (subst_vars; exact H')), ⟨by have := HK1.out; have := HJ2.out; omega⟩, ⟨by repeat (first | (with_reducible first | exact HB.out | apply below_alloc | apply pw_below_drewN | apply below_drew1) | exact HB.out)⟩⟩
            · replace c13 := Bool.eq_false_iff.mpr c13
              subst c13
              have H1 : (screeref02_Unescape.l1 kj2 a0 x5_1 (([] : List Int)) 0) = some (r1, r2, r3) := by rw [if_neg (show ¬ (false = true) by decide)] at H; exact H
              clear H
              have H := H1
              clear H1
              obtain ⟨y212, hy212⟩ : ∃ y_ : List Int, y_ = (([] : List Int)) := ⟨_, rfl⟩
              replace H : (screeref02_Unescape.l1 kj2 a0 x5_1 y212 0) = some (r1, r2, r3) := by first | (rw [hy212]; with_reducible exact H) | (have H2_ := (Option.bind_some _ _).symm.trans H; rw [hy212]; with_reducible exact H2_) | (have H2_ := (Option.bind_some _ _).symm.trans H; with_reducible exact H2_) | with_reducible exact H | (rw [hy212]; exact H) | exact H
              have Ny212 := Aside0.mk hy212
              clear hy212
              have H' := Aside0.mk H
              clear H
              go_wp2_with (first | ((with_reducible refine gate_dst (N := 28) rfl ?_); refine Kd.R_lit (Kd.int .u8) _ 5 ?hg (N := 28) ?hd (xs := ([] : List Int)) (inner := []) (ok := fun _ => True) (okp := fun _ => True) ?hr ?hp (fun _ hk => hk) trivial (Below.refl _ _) (Nat.le_refl _) (by simp) ?_; (case hd => rfl); (case hg => rfl); (case hr => first | (go_simp; done) | (go_simp; rfl)); (case hp => exact (Reps.none _ _)); intro v213 w14 ho15 hb hg_ hnew_; clear hg_ hnew_; (first | rw [← Ny212.out] at ho15 | (simp only [Int.reduceToNat] at ho15; rw [← Ny212.out] at ho15)); have n0_ := Aside0.mk (Kd.R_lower ho15 (below_size (by repeat (first | (with_reducible first | exact HB.out | apply below_alloc | apply pw_below_drewN | apply below_drew1) | exact HB.out)))); have n1_ := Aside0.mk (below_step (by repeat (first | (with_reducible first | exact HB.out | apply below_alloc | apply pw_below_drewN | apply below_drew1) | exact HB.out)) hb); clear HB; have HO214 := n0_; have HB := n1_; clear n0_ n1_; clear hb ho15))
              repeat (go_quiet (first | ((with_reducible refine gate_dst (N := 28) rfl ?_); refine Kd.R_lit (Kd.int .u8) _ 5 ?hg (N := 28) ?hd (xs := ([] : List Int)) (inner := []) (ok := fun _ => True) (okp := fun _ => True) ?hr ?hp (fun _ hk => hk) trivial (Below.refl _ _) (Nat.le_refl _) (by simp) ?_; (case hd => rfl); (case hg => rfl); (case hr => first | (go_simp; done) | (go_simp; rfl)); (case hp => exact (Reps.none _ _)); intro v213 w14 ho15 hb hg_ hnew_; clear hg_ hnew_; (first | rw [← Ny212.out] at ho15 | (simp only [Int.reduceToNat] at ho15; rw [← Ny212.out] at ho15)); have n0_ := Aside0.mk (Kd.R_lower ho15 (below_size (by repeat (first | (with_reducible first | exact HB.out | apply below_alloc | apply pw_below_drewN | apply below_drew1) | exact HB.out)))); have n1_ := Aside0.mk (below_step (by repeat (first | (with_reducible first | exact HB.out | apply below_alloc | apply pw_below_drewN | apply below_drew1) | exact HB.out)) hb); clear HB; have HO214 := n0_; have HB := n1_; clear n0_ n1_; clear hb ho15)); try go_wp2_with (first | ((with_reducible refine gate_dst (N := 28) rfl ?_); refine Kd.R_lit (Kd.int .u8) _ 5 ?hg (N := 28) ?hd (xs := ([] : List Int)) (inner := []) (ok := fun _ => True) (okp := fun _ => True) ?hr ?hp (fun _ hk => hk) trivial (Below.refl _ _) (Nat.le_refl _) (by simp) ?_; (case hd => rfl); (case hg => rfl); (case hr => first | (go_simp; done) | (go_simp; rfl)); (case hp => exact (Reps.none _ _)); intro v213 w14 ho15 hb hg_ hnew_; clear hg_ hnew_; (first | rw [← Ny212.out] at ho15 | (simp only [Int.reduceToNat] at ho15; rw [← Ny212.out] at ho15)); have n0_ := Aside0.mk (Kd.R_lower ho15 (below_size (by repeat (first | (with_reducible first | exact HB.out | apply below_alloc | apply pw_below_drewN | apply below_drew1) | exact HB.out)))); have n1_ := Aside0.mk (below_step (by repeat (first | (with_reducible first | exact HB.out | apply below_alloc | apply pw_below_drewN | apply below_drew1) | exact HB.out)) hb); clear HB; have HO214 := n0_; have HB := n1_; clear n0_ n1_; clear hb ho15)))
              go_loopg [6, 7] kj2 (fun kq v6 v7 w' => ∃ (x6_3 : List Int) (x7_3 : Int), v7 = .int .i64 x7_3 ∧ Aside0 (screeref02_Unescape.l1 kq a0 x5_1 x6_3 x7_3 = some (r1, r2, r3)) ∧ Aside0 (kq ≤ kj2) ∧ Aside0 (Kd.R (Kd.int .u8) 5 w' w.heap.size (fun _ => True) v6 x6_3) ∧ Aside0 (Below w.heap.size w w'))
              case atStart => exact ⟨(y212), (0), (by first | rfl | (simp; done) | (simp [*]; done)), H', ⟨Nat.le_refl _⟩, ⟨by (with_reducible repeat (first | apply Kd.R_alloc | apply Kd.R_drewN | apply Kd.R_drew)); exact HO214.out⟩, ⟨by repeat (first | (with_reducible first | exact HB.out | apply below_alloc | apply pw_below_drewN | apply below_drew1) | exact HB.out)⟩⟩
              case round =>
                clear H'
                try clear c1
                try clear p1
                try clear q1
                try clear hx1
                try clear c2
                try clear c2b0
                try clear p2
                try clear c5
                try clear c5b0
                try clear c6
                try clear c6b0
                try clear p6
                try clear p7
                try clear q7
                try clear hx7
                try clear c8
                try clear c8b0
                try clear c8b1
                try clear c10
                try clear c10b0
                try clear c11
                try clear c11b0
                try clear p12
                try clear q12
                try clear hx12
                try clear c13
                try clear p1
                try clear p12
                try clear p2
                try clear p6
                try clear p7
                try clear q1
                try clear q12
                try clear q7
                obtain ⟨x6_3, x7_3, rfl, HA, HK3, HO_6, HB⟩ := hrel
                cases gk with
                | zero => exact absurd HA.out (by simp [screeref02_Unescape.l1])
                | succ k3 =>
                  have H := HA.out
                  clear HA
                  simp only [screeref02_Unescape.l1] at H
                  by_cases c16 : x7_3 < (wrap64 (x5_1 - 2))
                  · rw [if_pos c16] at H
                    have c16b0 : decide (x7_3 < (wrap64 (x5_1 - 2))) = true := decide_eq_true c16
                    clear c16
                    by_cases c17 : 0 ≤ x7_3
                    · rw [if_pos c17] at H
                      have c17b0 : decide (0 ≤ x7_3) = true := decide_eq_true c17
                      clear c17
                      by_cases c18 : x7_3 < (a0.size : Int)
                      · rw [if_pos c18] at H
                        have c18b0 : decide (x7_3 < (a0.size : Int)) = true := decide_eq_true c18
                        clear c18
                        by_cases c20 : x6_3.length < 140737488355328
                        · rw [if_pos c20] at H
                          have LMc20 := Aside0.mk c20
                          clear c20
                          obtain ⟨y215, hy215⟩ : ∃ y_ : List Int, y_ = (x6_3 ++ [bt a0 x7_3]) := ⟨_, rfl⟩
                          replace H : (if (bt a0 x7_3) = 0 then (screeref02_Unescape.l1 k3 a0 x5_1 y215 (wrap64 ((wrap64 (x7_3 + 1)) + 1))) else (screeref02_Unescape.l1 k3 a0 x5_1 y215 (wrap64 (x7_3 + 1)))) = some (r1, r2, r3) := by first | (rw [hy215]; with_reducible exact H) | (have H2_ := (Option.bind_some _ _).symm.trans H; rw [hy215]; with_reducible exact H2_) | (have H2_ := (Option.bind_some _ _).symm.trans H; with_reducible exact H2_) | with_reducible exact H | (rw [hy215]; exact H) | exact H
                          have Ny215 := Aside0.mk hy215
                          clear hy215
                          by_cases c22 : (bt a0 x7_3) = 0
                          · rw [if_pos c22] at H
                            have c22b0 : ((bt a0 x7_3) == 0) = true := beq_iff_eq.mpr c22
                            have c22b1 : ((bt a0 x7_3) != 0) = false := bne_eq_false_iff_eq.mpr c22
                            clear c22
                            have H' := Aside0.mk H
                            clear H
                            have p19 : 0 ≤ (x7_3 : Int) := of_decide_eq_true (by first | (with_reducible assumption) | assumption)
                            have q19 : x7_3 < (a0.size : Int) := of_decide_eq_true (by first | (with_reducible assumption) | assumption)
                            have hx19 := bt_at a0 x7_3
                            replace p19 := eq_true p19
                            replace q19 := eq_true q19
                            go_wp2_with (first | ((with_reducible refine gate_builtin (b := .append) (xs := #[.tmp 35, .tmp 39]) rfl ?_); at_builtin; refine Kd.R_append (Kd.int .u8) (w0 := w) w.heap.size rfl (.tmp 35) (.tmp 39) 48 5 (.int .u8 0) 1 rfl Try.underlying48 info5 rfl (by decide) (by omega) u6 x6_3 (bt a0 x7_3) [.int .u8 (bt a0 x7_3)] (fun _ => True) (fun _ => False) rfl rfl ?aP (fun _ hk => hk.elim) ?aF ?aO ?aB ?aS ?aL ?_; (case aP => exact rfl); (case aB => exact (by repeat (first | (with_reducible first | exact HB.out | apply below_alloc | apply pw_below_drewN | apply below_drew1) | exact HB.out))); (case aF => exact (fun _ _ => trivial)); (case aO => exact (by (with_reducible repeat (first | apply Kd.R_alloc | apply Kd.R_drewN | apply Kd.R_drew)); exact HO_6.out)); (case aS => exact (below_size (by repeat (first | (with_reducible first | exact HB.out | apply below_alloc | apply pw_below_drewN | apply below_drew1) | exact HB.out)))); (case aL => have := LMc20.out; omega); intro v216 w23 ho hb hg hat; rw [← Ny215.out] at ho; have n0_ := Aside0.mk (hb); have n1_ := Aside0.mk (ho); clear HB; clear HO_6; have HB := n0_; have HO217 := n1_; clear n0_ n1_; clear ho hb hg hat; have p21 : 0 ≤ (x7_3 : Int) := of_decide_eq_true (by first | (with_reducible assumption) | assumption); have q21 : x7_3 < (a0.size : Int) := of_decide_eq_true (by first | (with_reducible assumption) | assumption); have hx21 := bt_at a0 x7_3; replace p21 := eq_true p21; replace q21 := eq_true q21))
                            repeat (go_quiet (first | ((with_reducible refine gate_builtin (b := .append) (xs := #[.tmp 35, .tmp 39]) rfl ?_); at_builtin; refine Kd.R_append (Kd.int .u8) (w0 := w) w.heap.size rfl (.tmp 35) (.tmp 39) 48 5 (.int .u8 0) 1 rfl Try.underlying48 info5 rfl (by decide) (by omega) u6 x6_3 (bt a0 x7_3) [.int .u8 (bt a0 x7_3)] (fun _ => True) (fun _ => False) rfl rfl ?aP (fun _ hk => hk.elim) ?aF ?aO ?aB ?aS ?aL ?_; (case aP => exact rfl); (case aB => exact (by repeat (first | (with_reducible first | exact HB.out | apply below_alloc | apply pw_below_drewN | apply below_drew1) | exact HB.out))); (case aF => exact (fun _ _ => trivial)); (case aO => exact (by (with_reducible repeat (first | apply Kd.R_alloc | apply Kd.R_drewN | apply Kd.R_drew)); exact HO_6.out)); (case aS => exact (below_size (by repeat (first | (with_reducible first | exact HB.out | apply below_alloc | apply pw_below_drewN | apply below_drew1) | exact HB.out)))); (case aL => have := LMc20.out; omega); intro v216 w23 ho hb hg hat; rw [← Ny215.out] at ho; have n0_ := Aside0.mk (hb); have n1_ := Aside0.mk (ho); clear HB; clear HO_6; have HB := n0_; have HO217 := n1_; clear n0_ n1_; clear ho hb hg hat; have p21 : 0 ≤ (x7_3 : Int) := of_decide_eq_true (by first | (with_reducible assumption) | assumption); have q21 : x7_3 < (a0.size : Int) := of_decide_eq_true (by first | (with_reducible assumption) | assumption); have hx21 := bt_at a0 x7_3; replace p21 := eq_true p21; replace q21 := eq_true q21)); try go_wp2_with (first | ((with_reducible refine gate_builtin (b := .append) (xs := #[.tmp 35, .tmp 39]) rfl ?_); at_builtin; refine Kd.R_append (Kd.int .u8) (w0 := w) w.heap.size rfl (.tmp 35) (.tmp 39) 48 5 (.int .u8 0) 1 rfl Try.underlying48 info5 rfl (by decide) (by omega) u6 x6_3 (bt a0 x7_3) [.int .u8 (bt a0 x7_3)] (fun _ => True) (fun _ => False) rfl rfl ?aP (fun _ hk => hk.elim) ?aF ?aO ?aB ?aS ?aL ?_; (case aP => exact rfl); (case aB => exact (by repeat (first | (with_reducible first | exact HB.out | apply below_alloc | apply pw_below_drewN | apply below_drew1) | exact HB.out))); (case aF => exact (fun _ _ => trivial)); (case aO => exact (by (with_reducible repeat (first | apply Kd.R_alloc | apply Kd.R_drewN | apply Kd.R_drew)); exact HO_6.out)); (case aS => exact (below_size (by repeat (first | (with_reducible first | exact HB.out | apply below_alloc | apply pw_below_drewN | apply below_drew1) | exact HB.out)))); (case aL => have := LMc20.out; omega); intro v216 w23 ho hb hg hat; rw [← Ny215.out] at ho; have n0_ := Aside0.mk (hb); have n1_ := Aside0.mk (ho); clear HB; clear HO_6; have HB := n0_; have HO217 := n1_; clear n0_ n1_; clear ho hb hg hat; have p21 : 0 ≤ (x7_3 : Int) := of_decide_eq_true (by first | (with_reducible assumption) | assumption); have q21 : x7_3 < (a0.size : Int) := of_decide_eq_true (by first | (with_reducible assumption) | assumption); have hx21 := bt_at a0 x7_3; replace p21 := eq_true p21; replace q21 := eq_true q21)))
                            go_roundg k3
                            case measure => have := HK1.out; have := HJ2.out; have := HK3.out; omega
                            case rel => exact ⟨(y215), (wrap64 ((wrap64 (x7_3 + 1)) + 1)), (by first | rfl | (simp; done) | (simp [*]; done)), (by first | (with_reducible exact H') | exact H' | (subst_vars; exact H')), ⟨by have := HK1.out; have := HJ2.out; have := HK3.out; omega⟩, ⟨by (with_reducible repeat (first | apply Kd.R_alloc | apply Kd.R_drewN | apply Kd.R_drew)); exact HO217.out⟩, ⟨by repeat (first | (with_reducible first | exact HB.out | apply below_alloc | apply pw_below_drewN | apply below_drew1) | exact HB.out)⟩⟩
                          · rw [if_neg c22] at H
                            have c22b0 : ((bt a0 x7_3) == 0) = false := beq_eq_false_iff_ne.mpr c22
                            have c22b1 : ((bt a0 x7_3) != 0) = true := bne_iff_ne.mpr c22
                            have H' := Aside0.mk H
                            clear H
                            have p19 : 0 ≤ (x7_3 : Int) := of_decide_eq_true (by first | (with_reducible assumption) | assumption)
                            have q19 : x7_3 < (a0.size : Int) := of_decide_eq_true (by first | (with_reducible assumption) | assumption)
                            have hx19 := bt_at a0 x7_3
                            replace p19 := eq_true p19
                            replace q19 := eq_true q19
                            go_wp2_with (first | ((with_reducible refine gate_builtin (b := .append) (xs := #[.tmp 35, .tmp 39]) rfl ?_); at_builtin; refine Kd.R_append (Kd.int .u8) (w0 := w) w.heap.size rfl (.tmp 35) (.tmp 39) 48 5 (.int .u8 0) 1 rfl Try.underlying48 info5 rfl (by decide) (by omega) u6 x6_3 (bt a0 x7_3) [.int .u8 (bt a0 x7_3)] (fun _ => True) (fun _ => False) rfl rfl ?aP (fun _ hk => hk.elim) ?aF ?aO ?aB ?aS ?aL ?_; (case aP => exact rfl); (case aB => exact (by repeat (first | (with_reducible first | exact HB.out | apply below_alloc | apply pw_below_drewN | apply below_drew1) | exact HB.out))); (case aF => exact (fun _ _ => trivial)); (case aO => exact (by (with_reducible repeat (first | apply Kd.R_alloc | apply Kd.R_drewN | apply Kd.R_drew)); exact HO_6.out)); (case aS => exact (below_size (by repeat (first | (with_reducible first | exact HB.out | apply below_alloc | apply pw_below_drewN | apply below_drew1) | exact HB.out)))); (case aL => have := LMc20.out; omega); intro v216 w24 ho hb hg hat; rw [← Ny215.out] at ho; have n0_ := Aside0.mk (hb); have n1_ := Aside0.mk (ho); clear HB; clear HO_6; have HB := n0_; have HO217 := n1_; clear n0_ n1_; clear ho hb hg hat; have p21 : 0 ≤ (x7_3 : Int) := of_decide_eq_true (by first | (with_reducible assumption) | assumption); have q21 : x7_3 < (a0.size : Int) := of_decide_eq_true (by first | (with_reducible assumption) | assumption); have hx21 := bt_at a0 x7_3; replace p21 := eq_true p21; replace q21 := eq_true q21))
                            repeat (go_quiet (first | ((with_reducible refine gate_builtin (b := .append) (xs := #[.tmp 35, .tmp 39]) rfl ?_); at_builtin; refine Kd.R_append (Kd.int .u8) (w0 := w) w.heap.size rfl (.tmp 35) (.tmp 39) 48 5 (.int .u8 0) 1 rfl Try.underlying48 info5 rfl (by decide) (by omega) u6 x6_3 (bt a0 x7_3) [.int .u8 (bt a0 x7_3)] (fun _ => True) (fun _ => False) rfl rfl ?aP (fun _ hk => hk.elim) ?aF ?aO ?aB ?aS ?aL ?_; (case aP => exact rfl); (case aB => exact (by repeat (first | (with_reducible first | exact HB.out | apply below_alloc | apply pw_below_drewN | apply below_drew1) | exact HB.out))); (case aF => exact (fun _ _ => trivial)); (case aO => exact (by (with_reducible repeat (first | apply Kd.R_alloc | apply Kd.R_drewN | apply Kd.R_drew)); exact HO_6.out)); (case aS => exact (below_size (by repeat (first | (with_reducible first | exact HB.out | apply below_alloc | apply pw_below_drewN | apply below_drew1) | exact HB.out)))); (case aL => have := LMc20.out; omega); intro v216 w24 ho hb hg hat; rw [← Ny215.out] at ho; have n0_ := Aside0.mk (hb); have n1_ := Aside0.mk (ho); clear HB; clear HO_6; have HB := n0_; have HO217 := n1_; clear n0_ n1_; clear ho hb hg hat; have p21 : 0 ≤ (x7_3 : Int) := of_decide_eq_true (by first | (with_reducible assumption) | assumption); have q21 : x7_3 < (a0.size : Int) := of_decide_eq_true (by first | (with_reducible assumption) | assumption); have hx21 := bt_at a0 x7_3; replace p21 := eq_true p21; replace q21 := eq_true q21)); try go_wp2_with (first | ((with_reducible refine gate_builtin (b := .append) (xs := #[.tmp 35, .tmp 39]) rfl ?_); at_builtin; refine Kd.R_append (Kd.int .u8) (w0 := w) w.heap.size rfl (.tmp 35) (.tmp 39) 48 5 (.int .u8 0) 1 rfl Try.underlying48 info5 rfl (by decide) (by omega) u6 x6_3 (bt a0 x7_3) [.int .u8 (bt a0 x7_3)] (fun _ => True) (fun _ => False) rfl rfl ?aP (fun _ hk => hk.elim) ?aF ?aO ?aB ?aS ?aL ?_; (case aP => exact rfl); (case aB => exact (by repeat (first | (with_reducible first | exact HB.out | apply below_alloc | apply pw_below_drewN | apply below_drew1) | exact HB.out))); (case aF => exact (fun _ _ => trivial)); (case aO => exact (by (with_reducible repeat (first | apply Kd.R_alloc | apply Kd.R_drewN | apply Kd.R_drew)); exact HO_6.out)); (case aS => exact (below_size (by repeat (first | (with_reducible first | exact HB.out | apply below_alloc | apply pw_below_drewN | apply below_drew1) | exact HB.out)))); (case aL => have := LMc20.out; omega); intro v216 w24 ho hb hg hat; rw [← Ny215.out] at ho; have n0_ := Aside0.mk (hb); have n1_ := Aside0.mk (ho); clear HB; clear HO_6; have HB := n0_; have HO217 := n1_; clear n0_ n1_; clear ho hb hg hat; have p21 : 0 ≤ (x7_3 : Int) := of_decide_eq_true (by first | (with_reducible assumption) | assumption); have q21 : x7_3 < (a0.size : Int) := of_decide_eq_true (by first | (with_reducible assumption) | assumption); have hx21 := bt_at a0 x7_3; replace p21 := eq_true p21; replace q21 := eq_true q21)))
                            go_roundg k3
                            case measure => have := HK1.out; have := HJ2.out; have := HK3.out; omega
                            case rel => exact ⟨(y215), (wrap64 (x7_3 + 1)), (by first | rfl | (simp; done) | (simp [*]; done)), (by first | (with_reducible exact H') | exact H' | (subst_vars; exact H')), ⟨by have := HK1.out; have := HJ2.out; have := HK3.out; omega⟩, ⟨by (with_reducible repeat (first | apply Kd.R_alloc | apply Kd.R_drewN | apply Kd.R_drew)); exact HO217.out⟩, ⟨by repeat (first | (with_reducible first | exact HB.out | apply below_alloc | apply pw_below_drewN | apply below_drew1) | exact HB.out)⟩⟩
                        · rw [if_neg c20] at H
                          exact absurd H (by simp)
                      · rw [if_neg c18] at H
                        exact absurd H (by simp)
                    · rw [if_neg c17] at H
                      exact absurd H (by simp)
                  · rw [if_neg c16] at H
                    have c16b0 : decide (x7_3 < (wrap64 (x5_1 - 2))) = false := decide_eq_false c16
                    clear c16
                    replace H := Option.bind_eq_some_iff.mp H
                    obtain ⟨⟨t218, t219⟩, A250, H⟩ := H
                    replace H : (if t219 = 0 then (if 0 ≤ x5_1 then (if x5_1 ≤ (a0.size : Int) then (if t218.toList = (a0.extract 0 (x5_1 : Int).toNat).toList then (some (strOfNums x6_3, a0.extract (x5_1 : Int).toNat a0.size, 0)) else (screeref02_Unescape.l0 k3 a0 (wrap64 (x5_1 + 1)))) else (none)) else (none)) else (screeref02_Unescape.l0 k3 a0 (wrap64 (x5_1 + 1)))) = some (r1, r2, r3) := H
                    have A25 := Aside0.mk A250
                    clear A250
                    by_cases c26 : t219 = 0
                    · rw [if_pos c26] at H
                      have c26b0 : (t219 == 0) = true := beq_iff_eq.mpr c26
                      have c26b1 : (t219 != 0) = false := bne_eq_false_iff_eq.mpr c26
                      clear c26
                      by_cases c27 : 0 ≤ x5_1
                      · rw [if_pos c27] at H
                        have c27b0 := eq_true c27
                        have c27b1 : decide (0 ≤ x5_1) = true := decide_eq_true c27
                        clear c27
                        by_cases c28 : x5_1 ≤ (a0.size : Int)
                        · rw [if_pos c28] at H
                          have c28b0 := eq_true c28
                          have c28b1 : decide (x5_1 ≤ (a0.size : Int)) = true := decide_eq_true c28
                          clear c28
                          by_cases c29 : t218.toList = (a0.extract 0 (x5_1 : Int).toNat).toList
                          · rw [if_pos c29] at H
                            have c29b0 : (t218.toList == (a0.extract 0 (x5_1 : Int).toNat).toList) = true := beq_iff_eq.mpr c29
                            have c29b1 : (t218.toList != (a0.extract 0 (x5_1 : Int).toNat).toList) = false := bne_eq_false_iff_eq.mpr c29
                            clear c29
                            have c30b0 := eq_true (of_decide_eq_true (by first | (with_reducible assumption) | assumption) : 0 ≤ x5_1)
                            have c31b0 := eq_true (of_decide_eq_true (by first | (with_reducible assumption) | assumption) : x5_1 ≤ (a0.size : Int))
                            simp only [Option.some.injEq, Prod.mk.injEq] at H
                            obtain ⟨rfl, rfl, rfl⟩ := H
                            have hcv32 := own_string (P := Try.prog) Try.underlying48 Try.underlying5 Try.underlying9 (Kd.own_of_R (HO_6.out))
                            go_wp2_with (first | (go_at_call 21; (with_reducible refine (screeref02_Escape.calls k3 (strOfNums x6_3) t218 t219 _ A25.out).mono ?_); rintro e w33 ⟨rfl, hb⟩; have n0_ := Aside0.mk (Kd.R_below (by (with_reducible repeat (first | apply Kd.R_alloc | apply Kd.R_drewN | apply Kd.R_drew)); exact HO_6.out) hb); have n1_ := Aside0.mk (below_step (by repeat (first | (with_reducible first | exact HB.out | apply below_alloc | apply pw_below_drewN | apply below_drew1) | exact HB.out)) hb); clear HO_6; clear HB; have HO_6 := n0_; have HB := n1_; clear n0_ n1_; (try clear hb); (try clear hb2); (try clear hk); (try clear hi); (try clear A25); have hcv34 := own_string (P := Try.prog) Try.underlying48 Try.underlying5 Try.underlying9 (Kd.own_of_R (HO_6.out))))
                            try have hcvq0_ := fun (n_ : Nat) => own_string (P := Try.prog) Try.underlying48 Try.underlying5 Try.underlying9 (pw_own_drewN (Kd.own_of_R (HO_6.out)) n_)
                            repeat (go_quiet (first | (go_at_call 21; (with_reducible refine (screeref02_Escape.calls k3 (strOfNums x6_3) t218 t219 _ A25.out).mono ?_); rintro e w33 ⟨rfl, hb⟩; have n0_ := Aside0.mk (Kd.R_below (by (with_reducible repeat (first | apply Kd.R_alloc | apply Kd.R_drewN | apply Kd.R_drew)); exact HO_6.out) hb); have n1_ := Aside0.mk (below_step (by repeat (first | (with_reducible first | exact HB.out | apply below_alloc | apply pw_below_drewN | apply below_drew1) | exact HB.out)) hb); clear HO_6; clear HB; have HO_6 := n0_; have HB := n1_; clear n0_ n1_; (try clear hb); (try clear hb2); (try clear hk); (try clear hi); (try clear A25); have hcv34 := own_string (P := Try.prog) Try.underlying48 Try.underlying5 Try.underlying9 (Kd.own_of_R (HO_6.out)))); try go_wp2_with (first | (go_at_call 21; (with_reducible refine (screeref02_Escape.calls k3 (strOfNums x6_3) t218 t219 _ A25.out).mono ?_); rintro e w33 ⟨rfl, hb⟩; have n0_ := Aside0.mk (Kd.R_below (by (with_reducible repeat (first | apply Kd.R_alloc | apply Kd.R_drewN | apply Kd.R_drew)); exact HO_6.out) hb); have n1_ := Aside0.mk (below_step (by repeat (first | (with_reducible first | exact HB.out | apply below_alloc | apply pw_below_drewN | apply below_drew1) | exact HB.out)) hb); clear HO_6; clear HB; have HO_6 := n0_; have HB := n1_; clear n0_ n1_; (try clear hb); (try clear hb2); (try clear hk); (try clear hi); (try clear A25); have hcv34 := own_string (P := Try.prog) Try.underlying48 Try.underlying5 Try.underlying9 (Kd.own_of_R (HO_6.out)))))
                            go_ret3
                            exact ⟨by first | rfl | (simp [errW_none, errW_some] <;> rfl) | (simp (disch := omega) only [← i64_w, IntWalk.i64_in]; rfl) | (simp [*, errW_none, errW_some] <;> rfl), by repeat (first | (with_reducible first | exact HB.out | apply below_alloc | apply pw_below_drewN | apply below_drew1) | exact HB.out)⟩
                          · rw [if_neg c29] at H
                            have c29b0 : (t218.toList == (a0.extract 0 (x5_1 : Int).toNat).toList) = false := beq_eq_false_iff_ne.mpr c29
                            have c29b1 : (t218.toList != (a0.extract 0 (x5_1 : Int).toNat).toList) = true := bne_iff_ne.mpr c29
                            have H' := Aside0.mk H
                            clear H
                            have hcv35 := own_string (P := Try.prog) Try.underlying48 Try.underlying5 Try.underlying9 (Kd.own_of_R (HO_6.out))
                            go_wp2_with (first | (go_at_call 21; (with_reducible refine (screeref02_Escape.calls k3 (strOfNums x6_3) t218 t219 _ A25.out).mono ?_); rintro e w36 ⟨rfl, hb⟩; have n0_ := Aside0.mk (Kd.R_below (by (with_reducible repeat (first | apply Kd.R_alloc | apply Kd.R_drewN | apply Kd.R_drew)); exact HO_6.out) hb); have n1_ := Aside0.mk (below_step (by repeat (first | (with_reducible first | exact HB.out | apply below_alloc | apply pw_below_drewN | apply below_drew1) | exact HB.out)) hb); clear HO_6; clear HB; have HO_6 := n0_; have HB := n1_; clear n0_ n1_; (try clear hb); (try clear hb2); (try clear hk); (try clear hi); (try clear A25)))
                            repeat (go_quiet (first | (go_at_call 21; (with_reducible refine (screeref02_Escape.calls k3 (strOfNums x6_3) t218 t219 _ A25.out).mono ?_); rintro e w36 ⟨rfl, hb⟩; have n0_ := Aside0.mk (Kd.R_below (by (with_reducible repeat (first | apply Kd.R_alloc | apply Kd.R_drewN | apply Kd.R_drew)); exact HO_6.out) hb); have n1_ := Aside0.mk (below_step (by repeat (first | (with_reducible first | exact HB.out | apply below_alloc | apply pw_below_drewN | apply below_drew1) | exact HB.out)) hb); clear HO_6; clear HB; have HO_6 := n0_; have HB := n1_; clear n0_ n1_; (try clear hb); (try clear hb2); (try clear hk); (try clear hi); (try clear A25))); try go_wp2_with (first | (go_at_call 21; (with_reducible refine (screeref02_Escape.calls k3 (strOfNums x6_3) t218 t219 _ A25.out).mono ?_); rintro e w36 ⟨rfl, hb⟩; have n0_ := Aside0.mk (Kd.R_below (by (with_reducible repeat (first | apply Kd.R_alloc | apply Kd.R_drewN | apply Kd.R_drew)); exact HO_6.out) hb); have n1_ := Aside0.mk (below_step (by repeat (first | (with_reducible first | exact HB.out | apply below_alloc | apply pw_below_drewN | apply below_drew1) | exact HB.out)) hb); clear HO_6; clear HB; have HO_6 := n0_; have HB := n1_; clear n0_ n1_; (try clear hb); (try clear hb2); (try clear hk); (try clear hi); (try clear A25))))
                            go_roundg k3
                            case measure => have := HK1.out; have := HJ2.out; have := HK3.out; omega
                            case rel => exact ⟨(wrap64 (x5_1 + 1)), (by first | rfl | (simp; done) | (simp [*]; done)), (by first | (with_reducible exact H') | exact H' | (subst_vars; exact H')), ⟨by have := HK1.out; have := HJ2.out; have := HK3.out; omega⟩, ⟨by repeat (first | (with_reducible first | exact HB.out | apply below_alloc | apply pw_below_drewN | apply below_drew1) | exact HB.out)⟩⟩
                        · rw [if_neg c28] at H
                          exact absurd H (by simp)
                      · rw [if_neg c27] at H
                        exact absurd H (by simp)
                    · rw [if_neg c26] at H
                      have c26b0 : (t219 == 0) = false := beq_eq_false_iff_ne.mpr c26
                      have c26b1 : (t219 != 0) = true := bne_iff_ne.mpr c26
                      have H' := Aside0.mk H
                      clear H
                      have hcv37 := own_string (P := Try.prog) Try.underlying48 Try.underlying5 Try.underlying9 (Kd.own_of_R (HO_6.out))
                      go_wp2_with (first | (go_at_call 21; (with_reducible refine (screeref02_Escape.calls k3 (strOfNums x6_3) t218 t219 _ A25.out).mono ?_); rintro e w38 ⟨rfl, hb⟩; have n0_ := Aside0.mk (Kd.R_below (by (with_reducible repeat (first | apply Kd.R_alloc | apply Kd.R_drewN | apply Kd.R_drew)); exact HO_6.out) hb); have n1_ := Aside0.mk (below_step (by repeat (first | (with_reducible first | exact HB.out | apply below_alloc | apply pw_below_drewN | apply below_drew1) | exact HB.out)) hb); clear HO_6; clear HB; have HO_6 := n0_; have HB := n1_; clear n0_ n1_; (try clear hb); (try clear hb2); (try clear hk); (try clear hi); (try clear A25)))
                      repeat (go_quiet (first | (go_at_call 21; (with_reducible refine (screeref02_Escape.calls k3 (strOfNums x6_3) t218 t219 _ A25.out).mono ?_); rintro e w38 ⟨rfl, hb⟩; have n0_ := Aside0.mk (Kd.R_below (by (with_reducible repeat (first | apply Kd.R_alloc | apply Kd.R_drewN | apply Kd.R_drew)); exact HO_6.out) hb); have n1_ := Aside0.mk (below_step (by repeat (first | (with_reducible first | exact HB.out | apply below_alloc | apply pw_below_drewN | apply below_drew1) | exact HB.out)) hb); clear HO_6; clear HB; have HO_6 := n0_; have HB := n1_; clear n0_ n1_; (try clear hb); (try clear hb2); (try clear hk); (try clear hi); (try clear A25))); try go_wp2_with (first | (go_at_call 21; (with_reducible refine (screeref02_Escape.calls k3 (strOfNums x6_3) t218 t219 _ A25.out).mono ?_); rintro e w38 ⟨rfl, hb⟩; have n0_ := Aside0.mk (Kd.R_below (by (with_reducible repeat (first | apply Kd.R_alloc | apply Kd.R_drewN | apply Kd.R_drew)); exact HO_6.out) hb); have n1_ := Aside0.mk (below_step (by repeat (first | (with_reducible first | exact HB.out | apply below_alloc | apply pw_below_drewN | apply below_drew1) | exact HB.out)) hb); clear HO_6; clear HB; have HO_6 := n0_; have HB := n1_; clear n0_ n1_; (try clear hb); (try clear hb2); (try clear hk); (try clear hi); (try clear A25))))
                      go_roundg k3
                      case measure => have := HK1.out; have := HJ2.out; have := HK3.out; omega
                      case rel => exact ⟨(wrap64 (x5_1 + 1)), (by first | rfl | (simp; done) | (simp [*]; done)), (by first | (with_reducible exact H') | exact H' | (subst_vars; exact H')), ⟨by have := HK1.out; have := HJ2.out; have := HK3.out; omega⟩, ⟨by repeat (first | (with_reducible first | exact HB.out | apply below_alloc | apply pw_below_drewN | apply below_drew1) | exact HB.out)⟩⟩
      · rw [if_neg c2] at H
        have c2b0 : decide (x5_1 ≤ (a0.size : Int)) = false := decide_eq_false c2
        clear c2
        simp only [Option.some.injEq, Prod.mk.injEq] at H
        obtain ⟨rfl, rfl, rfl⟩ := H
        go_wp2
        repeat (go_quiet (fail); try go_wp2)
        go_ret3
        exact ⟨by first | rfl | (simp [errW_none, errW_some] <;> rfl) | (simp (disch := omega) only [← i64_w, IntWalk.i64_in]; rfl) | (simp [*, errW_none, errW_some] <;> rfl), by repeat (first | (with_reducible first | exact HB.out | apply below_alloc | apply pw_below_drewN | apply below_drew1) | exact HB.out)⟩

/-! ### screeref01_Unlong: function 39 -/
def screeref01_Unlong.l0 : Nat → ByteArray → Int → Int → Option (Int × Bool)
  | 0, _, _, _ => none
  | k + 1, x0, x4, x5 => if x5 < 8 then (if 0 ≤ x5 then (if x5 < (x0.size : Int) then (screeref01_Unlong.l0 k x0 (IntKind.u64.wrap ((IntKind.u64.wrap (x4 * 256)) + (IntKind.u64.wrap (bt x0 x5)))) (wrap64 (x5 + 1))) else (none)) else (none)) else (some (x4, true))
def screeref01_Unlong.f (k : Nat) (a0 : ByteArray) : Option (Int × Bool) := if (a0.size : Int) = 8 then (screeref01_Unlong.l0 k a0 0 0) else (some (0, false))
theorem screeref01_Unlong.mono_l : ∀ k, (∀ y0 y1 y2, LeO (screeref01_Unlong.l0 k y0 y1 y2) (screeref01_Unlong.l0 (k + 1) y0 y1 y2))
  | 0 => fun _ _ _ r h => by simp [screeref01_Unlong.l0] at h
  | k + 1 => by
    have ih0 := screeref01_Unlong.mono_l k
    · intro y0 y1 y2
      unfold screeref01_Unlong.l0
      repeat' first
      | (with_reducible exact ih0 _ _ _)
      | (with_reducible exact LeO.refl _)
      | (with_reducible exact LeO.none _)
      | (with_reducible refine LeO.ite ?_ ?_)
      | (with_reducible refine LeO.bind ?_ (fun _ => ?_))
      | exact ih0 _ _ _
      | exact LeO.none _
      | refine LeO.ite ?_ ?_
      | refine LeO.bind ?_ (fun _ => ?_)
theorem screeref01_Unlong.mono : ∀ a0 k, LeO (screeref01_Unlong.f k a0) (screeref01_Unlong.f (k + 1) a0) := by
  intro a0 k
  have ih0 := screeref01_Unlong.mono_l k
  unfold screeref01_Unlong.f
  repeat' first
      | (with_reducible exact ih0 _ _ _)
      | (with_reducible exact LeO.refl _)
      | (with_reducible exact LeO.none _)
      | (with_reducible refine LeO.ite ?_ ?_)
      | (with_reducible refine LeO.bind ?_ (fun _ => ?_))
      | exact ih0 _ _ _
      | exact LeO.none _
      | refine LeO.ite ?_ ?_
      | refine LeO.bind ?_ (fun _ => ?_)
set_option maxHeartbeats 8000000 in
set_option maxRecDepth 100000 in
theorem screeref01_Unlong.calls (k : Nat) (a0 : ByteArray) (r1 : Int) (r2 : Bool) (w : World) (h : screeref01_Unlong.f k a0 = some (r1, r2)) :
    Calls Try.prog 39 #[.string a0] w fun e w' => e = .returned (.tuple #[.int .u64 r1, .bool r2]) ∧ Drawn0 w w' := by
  have H : (if (a0.size : Int) = 8 then (screeref01_Unlong.l0 k a0 0 0) else (some (0, false))) = some (r1, r2) := h
  clear h
  by_cases c2 : (a0.size : Int) = 8
  · rw [if_pos c2] at H
    have c2b0 : ((a0.size : Int) == 8) = true := beq_iff_eq.mpr c2
    have c2b1 : ((a0.size : Int) != 8) = false := bne_eq_false_iff_eq.mpr c2
    clear c2
    have H' := Aside0.mk H
    clear H
    go_enter Try.func39, Try.ntmps39
    go_wp2
    go_loopg [4, 5] k (fun kq v4 v5 w' => ∃ (x4_1 : Int) (x5_1 : Int), v4 = .int .u64 x4_1 ∧ v5 = .int .i64 x5_1 ∧ Aside0 (screeref01_Unlong.l0 kq a0 x4_1 x5_1 = some (r1, r2)) ∧ Aside0 (kq ≤ k) ∧ Drawn0 w w')
    case atStart => exact ⟨(0), (0), (by first | rfl | (simp; done) | (simp [*]; done)), (by first | rfl | (simp; done) | (simp [*]; done)), H', ⟨Nat.le_refl _⟩, by repeat (first | exact Drawn0.refl _ | apply Drawn0.step)⟩
    case round =>
      clear H'
      try clear c2
      try clear c2b0
      try clear c2b1
      try clear p2
      obtain ⟨x4_1, x5_1, rfl, rfl, HA, HK1, ⟨m1, rfl⟩⟩ := hrel
      cases gk with
      | zero => exact absurd HA.out (by simp [screeref01_Unlong.l0])
      | succ k1 =>
        have H := HA.out
        clear HA
        simp only [screeref01_Unlong.l0] at H
        by_cases c3 : x5_1 < 8
        · rw [if_pos c3] at H
          have c3b0 : decide (x5_1 < 8) = true := decide_eq_true c3
          clear c3
          by_cases c4 : 0 ≤ x5_1
          · rw [if_pos c4] at H
            have c4b0 : decide (0 ≤ x5_1) = true := decide_eq_true c4
            clear c4
            by_cases c5 : x5_1 < (a0.size : Int)
            · rw [if_pos c5] at H
              have c5b0 : decide (x5_1 < (a0.size : Int)) = true := decide_eq_true c5
              clear c5
              have H' := Aside0.mk H
              clear H
              have p6 : 0 ≤ (x5_1 : Int) := of_decide_eq_true (by first | (with_reducible assumption) | assumption)
              have q6 : x5_1 < (a0.size : Int) := of_decide_eq_true (by first | (with_reducible assumption) | assumption)
              have hx6 := bt_at a0 x5_1
              replace p6 := eq_true p6
              replace q6 := eq_true q6
              go_wp2
              go_roundg k1
              case measure => have := HK1.out; omega
              case rel => exact ⟨(IntKind.u64.wrap ((IntKind.u64.wrap (x4_1 * 256)) + (IntKind.u64.wrap (bt a0 x5_1)))), (wrap64 (x5_1 + 1)), (by first | rfl | (simp; done) | (simp [*]; done)), (by first | rfl | (simp; done) | (simp [*]; done)), (by first | (with_reducible exact H') | exact H' | (subst_vars; exact H')), ⟨by have := HK1.out; omega⟩, by repeat (first | exact Drawn0.refl _ | apply Drawn0.step)⟩
            · rw [if_neg c5] at H
              exact absurd H (by simp)
          · rw [if_neg c4] at H
            exact absurd H (by simp)
        · rw [if_neg c3] at H
          have c3b0 : decide (x5_1 < 8) = false := decide_eq_false c3
          clear c3
          simp only [Option.some.injEq, Prod.mk.injEq] at H
          obtain ⟨rfl, rfl⟩ := H
          go_wp2
          go_ret2
          exact ⟨by first | rfl | (simp; done) | (simp [*]; done), by repeat (first | exact Drawn0.refl _ | apply Drawn0.step)⟩
  · rw [if_neg c2] at H
    have c2b0 : ((a0.size : Int) == 8) = false := beq_eq_false_iff_ne.mpr c2
    have c2b1 : ((a0.size : Int) != 8) = true := bne_iff_ne.mpr c2
    simp only [Option.some.injEq, Prod.mk.injEq] at H
    obtain ⟨rfl, rfl⟩ := H
    go_enter Try.func39, Try.ntmps39
    go_wp2
    go_ret2
    exact ⟨by first | rfl | (simp; done) | (simp [*]; done), by repeat (first | exact Drawn0.refl _ | apply Drawn0.step)⟩

/-! ### screeref01_Unfall: function 33 -/
def screeref01_Unfall.f (k : Nat) (a0 : ByteArray) : Option (Int × Bool) := (screeref01_Unlong.f k a0).bind fun bt220 => (if bt220.2 = true then ((screeref01_Turned.f bt220.1).bind fun t222 => (some (t222, true))) else (some (0, false)))
theorem screeref01_Unfall.mono : ∀ a0 k, LeO (screeref01_Unfall.f k a0) (screeref01_Unfall.f (k + 1) a0) := by
  intro a0 k
  unfold screeref01_Unfall.f
  repeat' first
      | (with_reducible exact screeref01_Unlong.mono _ _)
      | (with_reducible exact LeO.refl _)
      | (with_reducible exact LeO.none _)
      | (with_reducible refine LeO.ite ?_ ?_)
      | (with_reducible refine LeO.bind ?_ (fun _ => ?_))
      | exact screeref01_Unlong.mono _ _
      | exact LeO.none _
      | refine LeO.ite ?_ ?_
      | refine LeO.bind ?_ (fun _ => ?_)
set_option maxHeartbeats 8000000 in
set_option maxRecDepth 100000 in
theorem screeref01_Unfall.calls (k : Nat) (a0 : ByteArray) (r1 : Int) (r2 : Bool) (w : World) (h : screeref01_Unfall.f k a0 = some (r1, r2)) :
    Calls Try.prog 33 #[.string a0] w fun e w' => e = .returned (.tuple #[.int .u64 r1, .bool r2]) ∧ Drawn0 w w' := by
  have H : ((screeref01_Unlong.f k a0).bind fun bt220 => (if bt220.2 = true then ((screeref01_Turned.f bt220.1).bind fun t222 => (some (t222, true))) else (some (0, false)))) = some (r1, r2) := h
  clear h
  replace H := Option.bind_eq_some_iff.mp H
  obtain ⟨⟨t220, t221⟩, A20, H⟩ := H
  replace H : (if t221 = true then ((screeref01_Turned.f t220).bind fun t222 => (some (t222, true))) else (some (0, false))) = some (r1, r2) := H
  have A2 := Aside0.mk A20
  clear A20
  by_cases c3 : t221 = true
  · subst c3
    have H1 : ((screeref01_Turned.f t220).bind fun t222 => (some (t222, true))) = some (r1, r2) := by rw [if_pos rfl] at H; exact H
    clear H
    have H := H1
    clear H1
    replace H := Option.bind_eq_some_iff.mp H
    obtain ⟨t222, A40, H⟩ := H
    replace H : (some (t222, true)) = some (r1, r2) := H
    have A4 := Aside0.mk A40
    clear A40
    simp only [Option.some.injEq, Prod.mk.injEq] at H
    obtain ⟨rfl, rfl⟩ := H
    go_enter Try.func33, Try.ntmps33
    go_wp2_with (first | ((with_reducible refine gate_callee (f := 39) rfl ?_); refine goesL_ (some 8) rfl rfl Try.func39 (by kernel_rfl) rfl #[.string a0] rfl (by (try simp only [List.map_toArray, List.map_cons, List.map_nil]); first | done | rfl | (simp only [List.length_drop, List.length_take]; rfl) | (simp (disch := omega) only [IntWalk.u64_in, IntWalk.i64_in, IntWalk.u8_in]; rfl)) ?_; (with_reducible refine (screeref01_Unlong.calls k a0 t220 true _ A2.out).mono ?_); rintro e w' ⟨rfl, ⟨nd, rfl⟩⟩; refine ⟨_, rfl, ?_⟩) | ((with_reducible refine gate_callee (f := 36) rfl ?_); refine goesL_ (some 14) rfl rfl Try.func36 (by kernel_rfl) rfl #[.int .u64 t220] rfl (by (try simp only [List.map_toArray, List.map_cons, List.map_nil]); first | done | rfl | (simp only [List.length_drop, List.length_take]; rfl) | (simp (disch := omega) only [IntWalk.u64_in, IntWalk.i64_in, IntWalk.u8_in]; rfl)) ?_; (with_reducible refine (screeref01_Turned.calls t220 t222 _ A4.out).mono ?_); rintro e w' ⟨rfl, ⟨nd, rfl⟩⟩; refine ⟨_, rfl, ?_⟩))
    go_ret2
    exact ⟨by first | rfl | (simp; done) | (simp [*]; done), by repeat (first | exact Drawn0.refl _ | apply Drawn0.step)⟩
  · replace c3 := Bool.eq_false_iff.mpr c3
    subst c3
    have H1 : (some (0, false)) = some (r1, r2) := by rw [if_neg (show ¬ (false = true) by decide)] at H; exact H
    clear H
    have H := H1
    clear H1
    simp only [Option.some.injEq, Prod.mk.injEq] at H
    obtain ⟨rfl, rfl⟩ := H
    go_enter Try.func33, Try.ntmps33
    go_wp2_with (first | ((with_reducible refine gate_callee (f := 39) rfl ?_); refine goesL_ (some 8) rfl rfl Try.func39 (by kernel_rfl) rfl #[.string a0] rfl (by (try simp only [List.map_toArray, List.map_cons, List.map_nil]); first | done | rfl | (simp only [List.length_drop, List.length_take]; rfl) | (simp (disch := omega) only [IntWalk.u64_in, IntWalk.i64_in, IntWalk.u8_in]; rfl)) ?_; (with_reducible refine (screeref01_Unlong.calls k a0 t220 false _ A2.out).mono ?_); rintro e w' ⟨rfl, ⟨nd, rfl⟩⟩; refine ⟨_, rfl, ?_⟩))
    go_ret2
    exact ⟨by first | rfl | (simp; done) | (simp [*]; done), by repeat (first | exact Drawn0.refl _ | apply Drawn0.step)⟩

/-! ### screeref02_Read: function 23 -/
def screeref02_Read.f (k : Nat) (a0 : ByteArray) : Option (Int × ByteArray × Int × Int) := if (a0.size : Int) = 0 then (some (0, (⟨#[]⟩ : ByteArray), 0, 2)) else (if 1 ≤ (a0.size : Int) then ((screeref02_Unescape.f k (a0.extract 1 a0.size)).bind fun bt224 => (if bt224.2.2 = 0 then (if 0 < (a0.size : Int) then (if (wrap64 (bt a0 0)) = 1 then ((screeref02_Make.f k (wrap64 (bt a0 0)) bt224.1 0).bind fun bt228 => (if bt228.2 = 0 then (if bt228.1.toList = a0.toList then (some (wrap64 (bt a0 0), bt224.1, 0, 0)) else (some (0, (⟨#[]⟩ : ByteArray), 0, 2))) else (some (0, (⟨#[]⟩ : ByteArray), 0, 2)))) else ((screeref01_Unfall.f k bt224.2.1).bind fun bt230 => ((screeref02_Make.f k (wrap64 (bt a0 0)) bt224.1 bt230.1).bind fun bt232 => (if bt232.2 = 0 then (if bt232.1.toList = a0.toList then (some (wrap64 (bt a0 0), bt224.1, bt230.1, 0)) else (some (0, (⟨#[]⟩ : ByteArray), 0, 2))) else (some (0, (⟨#[]⟩ : ByteArray), 0, 2)))))) else (none)) else (some (0, (⟨#[]⟩ : ByteArray), 0, 2)))) else (none))
theorem screeref02_Read.mono : ∀ a0 k, LeO (screeref02_Read.f k a0) (screeref02_Read.f (k + 1) a0) := by
  intro a0 k
  unfold screeref02_Read.f
  repeat' first
      | (with_reducible exact screeref01_Unfall.mono _ _)
      | (with_reducible exact screeref02_Make.mono _ _ _ _)
      | (with_reducible exact screeref02_Unescape.mono _ _)
      | (with_reducible exact LeO.refl _)
      | (with_reducible exact LeO.none _)
      | (with_reducible refine LeO.ite ?_ ?_)
      | (with_reducible refine LeO.bind ?_ (fun _ => ?_))
      | exact screeref01_Unfall.mono _ _
      | exact screeref02_Make.mono _ _ _ _
      | exact screeref02_Unescape.mono _ _
      | exact LeO.none _
      | refine LeO.ite ?_ ?_
      | refine LeO.bind ?_ (fun _ => ?_)
set_option maxHeartbeats 8000000 in
set_option maxHeartbeats 3200000 in
set_option maxRecDepth 100000 in
theorem screeref02_Read.calls (k : Nat) (a0 : ByteArray) (r1 : Int) (r2 : ByteArray) (r3 : Int) (r4 : Int) (w : World) (h : screeref02_Read.f k a0 = some (r1, r2, r3, r4)) :
    Calls Try.prog 23 #[.string a0] w fun e w' => e = .returned (.tuple #[.agg #[.int .i64 r1, .string r2, .int .u64 r3], .int .i64 r4]) ∧ Below w.heap.size w w' := by
  have hu := Try.underlying30
  have hfin : ∀ (tmps : Array Value) (W : World) (g : Nat) (c0 c1 c2 : Value), tmps.getD 2 undef = .pointer (some ⟨g, 0, none⟩) → W.heap[g]? = some (.cells #[c0, c1, c2] 30 (0, 0)) → (results Try.f23 tmps).run Try.prog W = .ok (.tuple #[.agg #[c0, c1, c2], tmps.getD 3 undef]) W :=
    fun tmps W g c0 c1 c2 hp hg => results_ct rfl tmps W g _ #[c0, c1, c2] (0, 0) _ hp hg hu rfl (by kernel_rfl)
  unfold screeref02_Read.f at h
  by_cases hz : (a0.size : Int) = 0
  · rw [if_pos hz] at h
    simp only [Option.some.injEq, Prod.mk.injEq] at h
    obtain ⟨rfl, rfl, rfl, rfl⟩ := h
    have d1 : ((a0.size : Int) == 0) = true := beq_iff_eq.mpr hz
    clear hz
    go_enter Try.func23, Try.ntmps23
    go_wp2
    exact bodyPost_ret (hfin _ _ _ _ _ _ rfl (blk_new _ _)) rfl ⟨rfl, below_alloc (Below.refl _ _) _⟩
  · rw [if_neg hz] at h
    have d1 : ((a0.size : Int) == 0) = false := beq_eq_false_iff_ne.mpr hz
    have hpos : 0 < a0.size := by omega
    rw [if_pos (by omega)] at h
    clear hz
    replace h := Option.bind_eq_some_iff.mp h
    obtain ⟨⟨u, rest, e1⟩, hA, h⟩ := h
    have HA := Lib.hid hA
    clear hA
    have hbt : bt a0 0 = ((a0[0].toNat : Nat) : Int) := by
      unfold bt
      have h0 : ((0 : Int)).toNat < a0.size := by simpa using hpos
      rw [dif_pos h0]; rfl
    rw [hbt] at h
    obtain ⟨kd, hkd⟩ : ∃ kd, wrap64 ((a0[0].toNat : Nat) : Int) = kd := ⟨_, rfl⟩
    rw [hkd] at h
    clear hbt
    go_enter Try.func23, Try.ntmps23
    go_wp2_with (fail)
    have BR1 : Aside0 ((w.alloc (.cells #[.int .i64 0, .string ⟨#[]⟩, .int .u64 0] 30)).heap[w.heap.size]? = some (.cells #[.int .i64 0, .string ⟨#[]⟩, .int .u64 0] 30 (0, 0))) := ⟨blk_new _ _⟩
    have HB1 : Aside0 (Below w.heap.size w (w.alloc (.cells #[.int .i64 0, .string ⟨#[]⟩, .int .u64 0] 30))) := ⟨below_alloc (Below.refl _ _) _⟩
    generalize (w.alloc (.cells #[.int .i64 0, .string ⟨#[]⟩, .int .u64 0] 30)) = w1 at BR1 HB1 ⊢
    obtain ⟨g1, hg1⟩ : ∃ g, w.heap.size = g := ⟨_, rfl⟩
    have HG1 : Hid (w.heap.size ≤ g1) := Lib.hid (Nat.le_of_eq hg1)
    have BR2 : Aside0 (w1.heap[g1]? = some (.cells #[.int .i64 0, .string ⟨#[]⟩, .int .u64 0] 30 (0, 0))) := ⟨by rw [← hg1]; exact BR1.out⟩
    clear BR1
    rw [hg1]
    clear hg1
    refine (screeref02_Unescape.calls k (a0.extract 1 a0.size) u rest e1 w1 HA.out).mono ?_
    rintro e w2 ⟨rfl, hb⟩
    have BR3 := Aside0.mk (blk_below BR2.out hb)
    have HB2 := Aside0.mk (below_step HB1.out hb)
    clear hb BR2 HB1
    by_cases he1 : e1 = 0
    · subst he1
      have h2 : (if 0 < (a0.size : Int) then (if kd = 1 then ((screeref02_Make.f k kd u 0).bind fun bt228 => (if bt228.2 = 0 then (if bt228.1.toList = a0.toList then (some (kd, u, (0 : Int), (0 : Int))) else (some (0, (⟨#[]⟩ : ByteArray), 0, 2))) else (some (0, (⟨#[]⟩ : ByteArray), 0, 2)))) else ((screeref01_Unfall.f k rest).bind fun bt230 => ((screeref02_Make.f k kd u bt230.1).bind fun bt232 => (if bt232.2 = 0 then (if bt232.1.toList = a0.toList then (some (kd, u, bt230.1, (0 : Int))) else (some (0, (⟨#[]⟩ : ByteArray), 0, 2))) else (some (0, (⟨#[]⟩ : ByteArray), 0, 2)))))) else none) = some (r1, r2, r3, r4) := h
      clear h
      rw [if_pos (by omega)] at h2
      have H2 := Lib.hid h2
      clear h2
      go_upto_region 7 with (fail)
      have BL3 : Aside0 ((w2.alloc (.cells #[.int .i64 kd, .string u, .int .u64 0] 30)).heap[w2.heap.size]? = some (.cells #[.int .i64 kd, .string u, .int .u64 0] 30 (0, 0))) := ⟨blk_new _ _⟩
      have BR4 := Aside0.mk (blk_alloc BR3.out (.cells #[.int .i64 kd, .string u, .int .u64 0] 30))
      have HB3 := Aside0.mk (below_alloc HB2.out (.cells #[.int .i64 kd, .string u, .int .u64 0] 30))
      have HG3 : Hid (w.heap.size ≤ w2.heap.size) := Lib.hid HB2.out.size
      have HG4 : Hid (g1 < w2.heap.size) := Lib.hid (blk_lt BR3.out)
      generalize (w2.alloc (.cells #[.int .i64 kd, .string u, .int .u64 0] 30)) = w3 at BL3 BR4 HB3 ⊢
      generalize w2.heap.size = g3 at BL3 HG3 HG4 ⊢
      clear BR3 HB2
      have HKD := Lib.hid hkd
      clear hkd
      have z0_ : w3.cell? ⟨g3, 0, none⟩ = some (.int .i64 kd) := (blk_cell BL3.out 0).trans rfl
      have h := H2.out
      clear H2
      by_cases hk1 : kd = 1
      · rw [if_pos hk1] at h
        have k1_ : (kd == 1) = true := beq_iff_eq.mpr hk1
        have k2_ : (kd != 1) = false := bne_eq_false_iff_eq.mpr hk1
        clear hk1
        have c0_ : w3.cell? ⟨g3, 0, none⟩ = some (.int .i64 kd) := (blk_cell BL3.out 0).trans rfl
        have c1_ : w3.cell? ⟨g3, 1, none⟩ = some (.string u) := (blk_cell BL3.out 1).trans rfl
        have c2_ : w3.cell? ⟨g3, 2, none⟩ = some (.int .u64 0) := (blk_cell BL3.out 2).trans rfl
        replace h := Option.bind_eq_some_iff.mp h
        obtain ⟨⟨is, e3⟩, hC, h⟩ := h
        have HC := Lib.hid hC
        have HH := Lib.hid h
        clear hC h
        go_wp2_with (fail)
        refine (screeref02_Make.calls k kd u 0 is e3 w3 HC.out).mono ?_
        rintro e w7 ⟨rfl, hb⟩
        have BL7 := Aside0.mk (blk_below BL3.out hb)
        have BR7 := Aside0.mk (blk_below BR4.out hb)
        have HB7 := Aside0.mk (below_step HB3.out hb)
        clear c0_ c1_ c2_ hb
        have r0_ : w7.cell? ⟨g1, 0, none⟩ = some (.int .i64 0) := (blk_cell BR7.out 0).trans rfl
        have r1_ : w7.cell? ⟨g1, 1, none⟩ = some (.string ⟨#[]⟩) := (blk_cell BR7.out 1).trans rfl
        have r2_ : w7.cell? ⟨g1, 2, none⟩ = some (.int .u64 0) := (blk_cell BR7.out 2).trans rfl
        have p0_ := blk_frozen BR7.out 0
        have p1_ := blk_frozen BR7.out 1
        have p2_ := blk_frozen BR7.out 2
        have l0_ : w7.cell? ⟨g3, 0, none⟩ = some (.int .i64 kd) := (blk_cell BL7.out 0).trans rfl
        have l1_ : w7.cell? ⟨g3, 1, none⟩ = some (.string u) := (blk_cell BL7.out 1).trans rfl
        have l2_ : w7.cell? ⟨g3, 2, none⟩ = some (.int .u64 0) := (blk_cell BL7.out 2).trans rfl
        have hh := HH.out
        clear HH
        by_cases he3 : e3 = 0
        · subst he3
          have hh2 : (if is.toList = a0.toList then (some (kd, u, 0, (0 : Int))) else (some (0, (⟨#[]⟩ : ByteArray), 0, 2))) = some (r1, r2, r3, r4) := hh
          clear hh
          by_cases hs : is.toList = a0.toList
          · rw [if_pos hs] at hh2
            simp only [Option.some.injEq, Prod.mk.injEq] at hh2
            obtain ⟨rfl, rfl, rfl, rfl⟩ := hh2
            have s1_ : (is.toList == a0.toList) = true := beq_iff_eq.mpr hs
            have s2_ : (is.toList != a0.toList) = false := bne_eq_false_iff_eq.mpr hs
            clear hs
            go_wp2
            exact bodyPost_ret (hfin _ _ g1 _ _ _ rfl (blk_put (cs' := #[.int .i64 kd, .string u, .int .u64 (0 : Int)]) (blk_put (cs' := #[.int .i64 kd, .string u, .int .u64 0]) (blk_put (cs' := #[.int .i64 kd, .string ⟨#[]⟩, .int .u64 0]) BR7.out 0 _ rfl) 1 _ rfl) 2 _ rfl)) rfl ⟨rfl, ((HB7.out.setCell (p := ⟨g1, 0, none⟩) HG1.out _).setCell (p := ⟨g1, 1, none⟩) HG1.out _).setCell (p := ⟨g1, 2, none⟩) HG1.out _⟩
          · rw [if_neg hs] at hh2
            simp only [Option.some.injEq, Prod.mk.injEq] at hh2
            obtain ⟨rfl, rfl, rfl, rfl⟩ := hh2
            have s1_ : (is.toList == a0.toList) = false := beq_eq_false_iff_ne.mpr hs
            have s2_ : (is.toList != a0.toList) = true := bne_iff_ne.mpr hs
            clear hs
            go_wp2
            exact bodyPost_ret (hfin _ _ g1 _ _ _ rfl (blk_put (cs' := #[.int .i64 0, .string ⟨#[]⟩, .int .u64 0]) (blk_put (cs' := #[.int .i64 0, .string ⟨#[]⟩, .int .u64 0]) (blk_put (cs' := #[.int .i64 0, .string ⟨#[]⟩, .int .u64 0]) BR7.out 0 _ rfl) 1 _ rfl) 2 _ rfl)) rfl ⟨rfl, ((HB7.out.setCell (p := ⟨g1, 0, none⟩) HG1.out _).setCell (p := ⟨g1, 1, none⟩) HG1.out _).setCell (p := ⟨g1, 2, none⟩) HG1.out _⟩
        · have e1_ : (e3 == 0) = false := beq_eq_false_iff_ne.mpr he3
          have e2_ : (e3 != 0) = true := bne_iff_ne.mpr he3
          have hh2 : some ((0 : Int), (⟨#[]⟩ : ByteArray), (0 : Int), (2 : Int)) = some (r1, r2, r3, r4) := by
            have := hh
            simp only [he3, if_false] at this
            exact this
          clear hh
          simp only [Option.some.injEq, Prod.mk.injEq] at hh2
          obtain ⟨rfl, rfl, rfl, rfl⟩ := hh2
          go_wp2
          exact bodyPost_ret (hfin _ _ g1 _ _ _ rfl (blk_put (cs' := #[.int .i64 0, .string ⟨#[]⟩, .int .u64 0]) (blk_put (cs' := #[.int .i64 0, .string ⟨#[]⟩, .int .u64 0]) (blk_put (cs' := #[.int .i64 0, .string ⟨#[]⟩, .int .u64 0]) BR7.out 0 _ rfl) 1 _ rfl) 2 _ rfl)) rfl ⟨rfl, ((HB7.out.setCell (p := ⟨g1, 0, none⟩) HG1.out _).setCell (p := ⟨g1, 1, none⟩) HG1.out _).setCell (p := ⟨g1, 2, none⟩) HG1.out _⟩
      · rw [if_neg hk1] at h
        have k1_ : (kd == 1) = false := beq_eq_false_iff_ne.mpr hk1
        have k2_ : (kd != 1) = true := bne_iff_ne.mpr hk1
        clear hk1
        replace h := Option.bind_eq_some_iff.mp h
        obtain ⟨⟨tt, ok⟩, hU, h⟩ := h
        have HU := Lib.hid hU
        clear hU
        simp only at h
        have H3 := Lib.hid h
        clear h
        go_wp2_with (fail)
        refine (screeref01_Unfall.calls k rest tt ok _ HU.out).mono ?_
        rintro e w4 ⟨rfl, hd⟩
        have BL4 := Aside0.mk (blk_below BL3.out hd.below)
        have BR5 := Aside0.mk (blk_below BR4.out hd.below)
        have HB4 := Aside0.mk (below_step HB3.out hd.below)
        clear z0_ hd BL3 BR4 HB3
        have z2_ : w4.cell? ⟨g3, 2, none⟩ = some (.int .u64 0) := (blk_cell BL4.out 2).trans rfl
        have f2_ := blk_frozen BL4.out 2
        go_upto_region 9 with (fail)
        clear z2_ f2_
        have BL5 := Aside0.mk (blk_put (cs' := #[.int .i64 kd, .string u, .int .u64 tt]) BL4.out 2 (.int .u64 tt) rfl)
        have BR6 := Aside0.mk (blk_far (p := ⟨g3, 2, none⟩) BR5.out (Nat.ne_of_lt HG4.out) (.int .u64 tt))
        have HB5 := Aside0.mk (HB4.out.setCell (p := ⟨g3, 2, none⟩) HG3.out (.int .u64 tt))
        clear BL4 BR5 HB4
        generalize (w4.setCell ⟨g3, 2, none⟩ (.int .u64 tt)) = w5 at BL5 BR6 HB5 ⊢
        have h := H3.out
        clear H3
        have c0_ : w5.cell? ⟨g3, 0, none⟩ = some (.int .i64 kd) := (blk_cell BL5.out 0).trans rfl
        have c1_ : w5.cell? ⟨g3, 1, none⟩ = some (.string u) := (blk_cell BL5.out 1).trans rfl
        have c2_ : w5.cell? ⟨g3, 2, none⟩ = some (.int .u64 tt) := (blk_cell BL5.out 2).trans rfl
        replace h := Option.bind_eq_some_iff.mp h
        obtain ⟨⟨is, e3⟩, hC, h⟩ := h
        have HC := Lib.hid hC
        have HH := Lib.hid h
        clear hC h
        go_wp2_with (fail)
        refine (screeref02_Make.calls k kd u tt is e3 w5 HC.out).mono ?_
        rintro e w7 ⟨rfl, hb⟩
        have BL7 := Aside0.mk (blk_below BL5.out hb)
        have BR7 := Aside0.mk (blk_below BR6.out hb)
        have HB7 := Aside0.mk (below_step HB5.out hb)
        clear c0_ c1_ c2_ hb
        have r0_ : w7.cell? ⟨g1, 0, none⟩ = some (.int .i64 0) := (blk_cell BR7.out 0).trans rfl
        have r1_ : w7.cell? ⟨g1, 1, none⟩ = some (.string ⟨#[]⟩) := (blk_cell BR7.out 1).trans rfl
        have r2_ : w7.cell? ⟨g1, 2, none⟩ = some (.int .u64 0) := (blk_cell BR7.out 2).trans rfl
        have p0_ := blk_frozen BR7.out 0
        have p1_ := blk_frozen BR7.out 1
        have p2_ := blk_frozen BR7.out 2
        have l0_ : w7.cell? ⟨g3, 0, none⟩ = some (.int .i64 kd) := (blk_cell BL7.out 0).trans rfl
        have l1_ : w7.cell? ⟨g3, 1, none⟩ = some (.string u) := (blk_cell BL7.out 1).trans rfl
        have l2_ : w7.cell? ⟨g3, 2, none⟩ = some (.int .u64 tt) := (blk_cell BL7.out 2).trans rfl
        have hh := HH.out
        clear HH
        by_cases he3 : e3 = 0
        · subst he3
          have hh2 : (if is.toList = a0.toList then (some (kd, u, tt, (0 : Int))) else (some (0, (⟨#[]⟩ : ByteArray), 0, 2))) = some (r1, r2, r3, r4) := hh
          clear hh
          by_cases hs : is.toList = a0.toList
          · rw [if_pos hs] at hh2
            simp only [Option.some.injEq, Prod.mk.injEq] at hh2
            obtain ⟨rfl, rfl, rfl, rfl⟩ := hh2
            have s1_ : (is.toList == a0.toList) = true := beq_iff_eq.mpr hs
            have s2_ : (is.toList != a0.toList) = false := bne_eq_false_iff_eq.mpr hs
            clear hs
            go_wp2
            exact bodyPost_ret (hfin _ _ g1 _ _ _ rfl (blk_put (cs' := #[.int .i64 kd, .string u, .int .u64 tt]) (blk_put (cs' := #[.int .i64 kd, .string u, .int .u64 0]) (blk_put (cs' := #[.int .i64 kd, .string ⟨#[]⟩, .int .u64 0]) BR7.out 0 _ rfl) 1 _ rfl) 2 _ rfl)) rfl ⟨rfl, ((HB7.out.setCell (p := ⟨g1, 0, none⟩) HG1.out _).setCell (p := ⟨g1, 1, none⟩) HG1.out _).setCell (p := ⟨g1, 2, none⟩) HG1.out _⟩
          · rw [if_neg hs] at hh2
            simp only [Option.some.injEq, Prod.mk.injEq] at hh2
            obtain ⟨rfl, rfl, rfl, rfl⟩ := hh2
            have s1_ : (is.toList == a0.toList) = false := beq_eq_false_iff_ne.mpr hs
            have s2_ : (is.toList != a0.toList) = true := bne_iff_ne.mpr hs
            clear hs
            go_wp2
            exact bodyPost_ret (hfin _ _ g1 _ _ _ rfl (blk_put (cs' := #[.int .i64 0, .string ⟨#[]⟩, .int .u64 0]) (blk_put (cs' := #[.int .i64 0, .string ⟨#[]⟩, .int .u64 0]) (blk_put (cs' := #[.int .i64 0, .string ⟨#[]⟩, .int .u64 0]) BR7.out 0 _ rfl) 1 _ rfl) 2 _ rfl)) rfl ⟨rfl, ((HB7.out.setCell (p := ⟨g1, 0, none⟩) HG1.out _).setCell (p := ⟨g1, 1, none⟩) HG1.out _).setCell (p := ⟨g1, 2, none⟩) HG1.out _⟩
        · have e1_ : (e3 == 0) = false := beq_eq_false_iff_ne.mpr he3
          have e2_ : (e3 != 0) = true := bne_iff_ne.mpr he3
          have hh2 : some ((0 : Int), (⟨#[]⟩ : ByteArray), (0 : Int), (2 : Int)) = some (r1, r2, r3, r4) := by
            have := hh
            simp only [he3, if_false] at this
            exact this
          clear hh
          simp only [Option.some.injEq, Prod.mk.injEq] at hh2
          obtain ⟨rfl, rfl, rfl, rfl⟩ := hh2
          go_wp2
          exact bodyPost_ret (hfin _ _ g1 _ _ _ rfl (blk_put (cs' := #[.int .i64 0, .string ⟨#[]⟩, .int .u64 0]) (blk_put (cs' := #[.int .i64 0, .string ⟨#[]⟩, .int .u64 0]) (blk_put (cs' := #[.int .i64 0, .string ⟨#[]⟩, .int .u64 0]) BR7.out 0 _ rfl) 1 _ rfl) 2 _ rfl)) rfl ⟨rfl, ((HB7.out.setCell (p := ⟨g1, 0, none⟩) HG1.out _).setCell (p := ⟨g1, 1, none⟩) HG1.out _).setCell (p := ⟨g1, 2, none⟩) HG1.out _⟩
    · have e1_ : (e1 == 0) = false := beq_eq_false_iff_ne.mpr he1
      have e2_ : (e1 != 0) = true := bne_iff_ne.mpr he1
      have hh2 : some ((0 : Int), (⟨#[]⟩ : ByteArray), (0 : Int), (2 : Int)) = some (r1, r2, r3, r4) := by
        have := h
        simp only [he1, if_false] at this
        exact this
      clear h
      simp only [Option.some.injEq, Prod.mk.injEq] at hh2
      obtain ⟨rfl, rfl, rfl, rfl⟩ := hh2
      have r0_ : w2.cell? ⟨g1, 0, none⟩ = some (.int .i64 0) := (blk_cell BR3.out 0).trans rfl
      have r1_ : w2.cell? ⟨g1, 1, none⟩ = some (.string ⟨#[]⟩) := (blk_cell BR3.out 1).trans rfl
      have r2_ : w2.cell? ⟨g1, 2, none⟩ = some (.int .u64 0) := (blk_cell BR3.out 2).trans rfl
      have p0_ := blk_frozen BR3.out 0
      have p1_ := blk_frozen BR3.out 1
      have p2_ := blk_frozen BR3.out 2
      go_wp2
      exact bodyPost_ret (hfin _ _ g1 _ _ _ rfl (blk_put (cs' := #[.int .i64 0, .string ⟨#[]⟩, .int .u64 0]) (blk_put (cs' := #[.int .i64 0, .string ⟨#[]⟩, .int .u64 0]) (blk_put (cs' := #[.int .i64 0, .string ⟨#[]⟩, .int .u64 0]) BR3.out 0 _ rfl) 1 _ rfl) 2 _ rfl)) rfl ⟨rfl, ((HB2.out.setCell (p := ⟨g1, 0, none⟩) HG1.out _).setCell (p := ⟨g1, 1, none⟩) HG1.out _).setCell (p := ⟨g1, 2, none⟩) HG1.out _⟩

end Go.Proofs.Ytachminlgcndnaa.P
