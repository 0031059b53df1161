-- Printed by a program of this session's own (wip/tools/pprint.sh, over the kit's print, with given contracts): not typed by hand.
import Derived.Test.YtkdecekmnbbbhaaPx0
import Derived.Test.YtkdecekmnbbbhaaPx1
import Derived.Test.YtkdecekmnbbbhaaPx2
import Derived.Test.YtkdecekmnbbbhaaPx3
import Derived.Test.YtkdecekmnbbbhaaPx4
namespace Go.Proofs.Ytkdecekmnbbbhaa.P
open Go.RowKit Go.Proofs.YtkdecekmnbbbhaaW.PrintWords Go.Proofs.YtkdecekmnbbbhaaW.PrintLast Go.Proofs.YtkdecekmnbbbhaaW.PrintMore
attribute [local go_sem] max2_int min2_int max_two min_two max_three min_three max_four min_four   -- for this text's walks alone
set_option linter.unusedVariables false
set_option linter.unusedSimpArgs false

/-! ### screelaw04_FrameReads: function 3 -/
mutual
def screelaw04_FrameReads.j0 : Nat → ByteArray → List ByteArray → Bool → Option (Bool)
  | 0, _, _, _ => none
  | k + 1, x0, x1, x32 => if x32 = true then (some true) else ((frame_All.f k x0).bind fun bt182 => ((screeref04_All.f k x0).bind fun bt186 => ((screelaw04_texts.f k bt182.1 bt186.1).bind fun t190 => (if t190 = true then (screelaw04_FrameReads.j1 k x0 x1 (bt182.2 != bt186.2)) else (screelaw04_FrameReads.j1 k x0 x1 true)))))
def screelaw04_FrameReads.j1 : Nat → ByteArray → List ByteArray → Bool → Option (Bool)
  | 0, _, _, _ => none
  | k + 1, x0, x1, x51 => if x51 = true then (some false) else ((frame_Take.f k x0).bind fun bt191 => ((screeref04_Take.f k x0).bind fun bt194 => (if bt191.1.toList = bt194.1.toList then (if bt191.2.1.toList = bt194.2.1.toList then (screelaw04_FrameReads.j2 k x1 (bt191.2.2 != bt194.2.2)) else (screelaw04_FrameReads.j2 k x1 true)) else (screelaw04_FrameReads.j2 k x1 true))))
def screelaw04_FrameReads.j2 : Nat → List ByteArray → Bool → Option (Bool)
  | 0, _, _ => none
  | k + 1, x1, x76 => if x76 = true then (some false) else ((frame_Join.f k x1).bind fun bt197 => ((screeref04_Join.f k x1).bind fun bt199 => (if bt197.1.toList = bt199.1.toList then (screelaw04_FrameReads.j3 k x1 (bt197.2 != bt199.2)) else (screelaw04_FrameReads.j3 k x1 true))))
def screelaw04_FrameReads.j3 : Nat → List ByteArray → Bool → Option (Bool)
  | 0, _, _ => none
  | k + 1, x1, x94 => if x94 = true then (some false) else (screelaw04_FrameReads.l0 k x1 (x1.length : Int) 0)
def screelaw04_FrameReads.l0 : Nat → List ByteArray → Int → Int → Option (Bool)
  | 0, _, _, _ => none
  | k + 1, x1, x96, x97 => if x97 < x96 then (if 0 ≤ x97 then (if x97 < (x1.length : Int) then ((frame_Make.f k (rdOf ByteArray.empty x1 x97)).bind fun bt202 => ((screeref04_Make.f k (rdOf ByteArray.empty x1 x97)).bind fun bt205 => (if bt202.1.toList = bt205.1.toList then (if bt202.2 = bt205.2 then (screelaw04_FrameReads.l0 k x1 x96 (wrap64 (x97 + 1))) else (some false)) else (some false)))) else (none)) else (none)) else (some true)
end
def screelaw04_FrameReads.f (k : Nat) (a0 : ByteArray) (l1 : List ByteArray) : Option (Bool) := (screelaw04_awake.f k).bind fun t180 => (if t180 = true then (if (a0.size : Int) > 8192 then (screelaw04_FrameReads.j0 k a0 l1 true) else ((screelaw04_large.f k l1).bind fun t181 => (screelaw04_FrameReads.j0 k a0 l1 t181))) else (some false))
theorem screelaw04_FrameReads.mono_l : ∀ k, (∀ y0 y1 y2, LeO (screelaw04_FrameReads.j0 k y0 y1 y2) (screelaw04_FrameReads.j0 (k + 1) y0 y1 y2)) ∧ (∀ y0 y1 y2, LeO (screelaw04_FrameReads.j1 k y0 y1 y2) (screelaw04_FrameReads.j1 (k + 1) y0 y1 y2)) ∧ (∀ y0 y1, LeO (screelaw04_FrameReads.j2 k y0 y1) (screelaw04_FrameReads.j2 (k + 1) y0 y1)) ∧ (∀ y0 y1, LeO (screelaw04_FrameReads.j3 k y0 y1) (screelaw04_FrameReads.j3 (k + 1) y0 y1)) ∧ (∀ y0 y1 y2, LeO (screelaw04_FrameReads.l0 k y0 y1 y2) (screelaw04_FrameReads.l0 (k + 1) y0 y1 y2))
  | 0 => ⟨fun _ _ _ r h => by simp [screelaw04_FrameReads.j0] at h, fun _ _ _ r h => by simp [screelaw04_FrameReads.j1] at h, fun _ _ r h => by simp [screelaw04_FrameReads.j2] at h, fun _ _ r h => by simp [screelaw04_FrameReads.j3] at h, fun _ _ _ r h => by simp [screelaw04_FrameReads.l0] at h⟩
  | k + 1 => by
    obtain ⟨ih0, ih1, ih2, ih3, ih4⟩ := screelaw04_FrameReads.mono_l k
    refine ⟨?_, ?_, ?_, ?_, ?_⟩
    · intro y0 y1 y2
      unfold screelaw04_FrameReads.j0
      repeat' first
      | (with_reducible exact ih0 _ _ _)
      | (with_reducible exact ih1 _ _ _)
      | (with_reducible exact ih2 _ _)
      | (with_reducible exact ih3 _ _)
      | (with_reducible exact ih4 _ _ _)
      | (with_reducible exact frame_All.mono _ _)
      | (with_reducible exact frame_Join.mono _ _)
      | (with_reducible exact frame_Make.mono _ _)
      | (with_reducible exact frame_Take.mono _ _)
      | (with_reducible exact screelaw04_awake.mono _)
      | (with_reducible exact screelaw04_large.mono _ _)
      | (with_reducible exact screelaw04_texts.mono _ _ _)
      | (with_reducible exact screeref04_All.mono _ _)
      | (with_reducible exact screeref04_Join.mono _ _)
      | (with_reducible exact screeref04_Make.mono _ _)
      | (with_reducible exact screeref04_Take.mono _ _)
      | (with_reducible exact LeO.refl _)
      | (with_reducible exact LeO.none _)
      | (with_reducible refine LeO.ite ?_ ?_)
      | (with_reducible refine LeO.bind ?_ (fun _ => ?_))
      | exact ih0 _ _ _
      | exact ih1 _ _ _
      | exact ih2 _ _
      | exact ih3 _ _
      | exact ih4 _ _ _
      | exact frame_All.mono _ _
      | exact frame_Join.mono _ _
      | exact frame_Make.mono _ _
      | exact frame_Take.mono _ _
      | exact screelaw04_awake.mono _
      | exact screelaw04_large.mono _ _
      | exact screelaw04_texts.mono _ _ _
      | exact screeref04_All.mono _ _
      | exact screeref04_Join.mono _ _
      | exact screeref04_Make.mono _ _
      | exact screeref04_Take.mono _ _
      | exact LeO.none _
      | refine LeO.ite ?_ ?_
      | refine LeO.bind ?_ (fun _ => ?_)
    · intro y0 y1 y2
      unfold screelaw04_FrameReads.j1
      repeat' first
      | (with_reducible exact ih0 _ _ _)
      | (with_reducible exact ih1 _ _ _)
      | (with_reducible exact ih2 _ _)
      | (with_reducible exact ih3 _ _)
      | (with_reducible exact ih4 _ _ _)
      | (with_reducible exact frame_All.mono _ _)
      | (with_reducible exact frame_Join.mono _ _)
      | (with_reducible exact frame_Make.mono _ _)
      | (with_reducible exact frame_Take.mono _ _)
      | (with_reducible exact screelaw04_awake.mono _)
      | (with_reducible exact screelaw04_large.mono _ _)
      | (with_reducible exact screelaw04_texts.mono _ _ _)
      | (with_reducible exact screeref04_All.mono _ _)
      | (with_reducible exact screeref04_Join.mono _ _)
      | (with_reducible exact screeref04_Make.mono _ _)
      | (with_reducible exact screeref04_Take.mono _ _)
      | (with_reducible exact LeO.refl _)
      | (with_reducible exact LeO.none _)
      | (with_reducible refine LeO.ite ?_ ?_)
      | (with_reducible refine LeO.bind ?_ (fun _ => ?_))
      | exact ih0 _ _ _
      | exact ih1 _ _ _
      | exact ih2 _ _
      | exact ih3 _ _
      | exact ih4 _ _ _
      | exact frame_All.mono _ _
      | exact frame_Join.mono _ _
      | exact frame_Make.mono _ _
      | exact frame_Take.mono _ _
      | exact screelaw04_awake.mono _
      | exact screelaw04_large.mono _ _
      | exact screelaw04_texts.mono _ _ _
      | exact screeref04_All.mono _ _
      | exact screeref04_Join.mono _ _
      | exact screeref04_Make.mono _ _
      | exact screeref04_Take.mono _ _
      | exact LeO.none _
      | refine LeO.ite ?_ ?_
      | refine LeO.bind ?_ (fun _ => ?_)
    · intro y0 y1
      unfold screelaw04_FrameReads.j2
      repeat' first
      | (with_reducible exact ih0 _ _ _)
      | (with_reducible exact ih1 _ _ _)
      | (with_reducible exact ih2 _ _)
      | (with_reducible exact ih3 _ _)
      | (with_reducible exact ih4 _ _ _)
      | (with_reducible exact frame_All.mono _ _)
      | (with_reducible exact frame_Join.mono _ _)
      | (with_reducible exact frame_Make.mono _ _)
      | (with_reducible exact frame_Take.mono _ _)
      | (with_reducible exact screelaw04_awake.mono _)
      | (with_reducible exact screelaw04_large.mono _ _)
      | (with_reducible exact screelaw04_texts.mono _ _ _)
      | (with_reducible exact screeref04_All.mono _ _)
      | (with_reducible exact screeref04_Join.mono _ _)
      | (with_reducible exact screeref04_Make.mono _ _)
      | (with_reducible exact screeref04_Take.mono _ _)
      | (with_reducible exact LeO.refl _)
      | (with_reducible exact LeO.none _)
      | (with_reducible refine LeO.ite ?_ ?_)
      | (with_reducible refine LeO.bind ?_ (fun _ => ?_))
      | exact ih0 _ _ _
      | exact ih1 _ _ _
      | exact ih2 _ _
      | exact ih3 _ _
      | exact ih4 _ _ _
      | exact frame_All.mono _ _
      | exact frame_Join.mono _ _
      | exact frame_Make.mono _ _
      | exact frame_Take.mono _ _
      | exact screelaw04_awake.mono _
      | exact screelaw04_large.mono _ _
      | exact screelaw04_texts.mono _ _ _
      | exact screeref04_All.mono _ _
      | exact screeref04_Join.mono _ _
      | exact screeref04_Make.mono _ _
      | exact screeref04_Take.mono _ _
      | exact LeO.none _
      | refine LeO.ite ?_ ?_
      | refine LeO.bind ?_ (fun _ => ?_)
    · intro y0 y1
      unfold screelaw04_FrameReads.j3
      repeat' first
      | (with_reducible exact ih0 _ _ _)
      | (with_reducible exact ih1 _ _ _)
      | (with_reducible exact ih2 _ _)
      | (with_reducible exact ih3 _ _)
      | (with_reducible exact ih4 _ _ _)
      | (with_reducible exact frame_All.mono _ _)
      | (with_reducible exact frame_Join.mono _ _)
      | (with_reducible exact frame_Make.mono _ _)
      | (with_reducible exact frame_Take.mono _ _)
      | (with_reducible exact screelaw04_awake.mono _)
      | (with_reducible exact screelaw04_large.mono _ _)
      | (with_reducible exact screelaw04_texts.mono _ _ _)
      | (with_reducible exact screeref04_All.mono _ _)
      | (with_reducible exact screeref04_Join.mono _ _)
      | (with_reducible exact screeref04_Make.mono _ _)
      | (with_reducible exact screeref04_Take.mono _ _)
      | (with_reducible exact LeO.refl _)
      | (with_reducible exact LeO.none _)
      | (with_reducible refine LeO.ite ?_ ?_)
      | (with_reducible refine LeO.bind ?_ (fun _ => ?_))
      | exact ih0 _ _ _
      | exact ih1 _ _ _
      | exact ih2 _ _
      | exact ih3 _ _
      | exact ih4 _ _ _
      | exact frame_All.mono _ _
      | exact frame_Join.mono _ _
      | exact frame_Make.mono _ _
      | exact frame_Take.mono _ _
      | exact screelaw04_awake.mono _
      | exact screelaw04_large.mono _ _
      | exact screelaw04_texts.mono _ _ _
      | exact screeref04_All.mono _ _
      | exact screeref04_Join.mono _ _
      | exact screeref04_Make.mono _ _
      | exact screeref04_Take.mono _ _
      | exact LeO.none _
      | refine LeO.ite ?_ ?_
      | refine LeO.bind ?_ (fun _ => ?_)
    · intro y0 y1 y2
      unfold screelaw04_FrameReads.l0
      repeat' first
      | (with_reducible exact ih0 _ _ _)
      | (with_reducible exact ih1 _ _ _)
      | (with_reducible exact ih2 _ _)
      | (with_reducible exact ih3 _ _)
      | (with_reducible exact ih4 _ _ _)
      | (with_reducible exact frame_All.mono _ _)
      | (with_reducible exact frame_Join.mono _ _)
      | (with_reducible exact frame_Make.mono _ _)
      | (with_reducible exact frame_Take.mono _ _)
      | (with_reducible exact screelaw04_awake.mono _)
      | (with_reducible exact screelaw04_large.mono _ _)
      | (with_reducible exact screelaw04_texts.mono _ _ _)
      | (with_reducible exact screeref04_All.mono _ _)
      | (with_reducible exact screeref04_Join.mono _ _)
      | (with_reducible exact screeref04_Make.mono _ _)
      | (with_reducible exact screeref04_Take.mono _ _)
      | (with_reducible exact LeO.refl _)
      | (with_reducible exact LeO.none _)
      | (with_reducible refine LeO.ite ?_ ?_)
      | (with_reducible refine LeO.bind ?_ (fun _ => ?_))
      | exact ih0 _ _ _
      | exact ih1 _ _ _
      | exact ih2 _ _
      | exact ih3 _ _
      | exact ih4 _ _ _
      | exact frame_All.mono _ _
      | exact frame_Join.mono _ _
      | exact frame_Make.mono _ _
      | exact frame_Take.mono _ _
      | exact screelaw04_awake.mono _
      | exact screelaw04_large.mono _ _
      | exact screelaw04_texts.mono _ _ _
      | exact screeref04_All.mono _ _
      | exact screeref04_Join.mono _ _
      | exact screeref04_Make.mono _ _
      | exact screeref04_Take.mono _ _
      | exact LeO.none _
      | refine LeO.ite ?_ ?_
      | refine LeO.bind ?_ (fun _ => ?_)
theorem screelaw04_FrameReads.mono : ∀ a0 a1 k, LeO (screelaw04_FrameReads.f k a0 a1) (screelaw04_FrameReads.f (k + 1) a0 a1) := by
  intro a0 a1 k
  obtain ⟨ih0, ih1, ih2, ih3, ih4⟩ := screelaw04_FrameReads.mono_l k
  unfold screelaw04_FrameReads.f
  repeat' first
      | (with_reducible exact ih0 _ _ _)
      | (with_reducible exact ih1 _ _ _)
      | (with_reducible exact ih2 _ _)
      | (with_reducible exact ih3 _ _)
      | (with_reducible exact ih4 _ _ _)
      | (with_reducible exact frame_All.mono _ _)
      | (with_reducible exact frame_Join.mono _ _)
      | (with_reducible exact frame_Make.mono _ _)
      | (with_reducible exact frame_Take.mono _ _)
      | (with_reducible exact screelaw04_awake.mono _)
      | (with_reducible exact screelaw04_large.mono _ _)
      | (with_reducible exact screelaw04_texts.mono _ _ _)
      | (with_reducible exact screeref04_All.mono _ _)
      | (with_reducible exact screeref04_Join.mono _ _)
      | (with_reducible exact screeref04_Make.mono _ _)
      | (with_reducible exact screeref04_Take.mono _ _)
      | (with_reducible exact LeO.refl _)
      | (with_reducible exact LeO.none _)
      | (with_reducible refine LeO.ite ?_ ?_)
      | (with_reducible refine LeO.bind ?_ (fun _ => ?_))
      | exact ih0 _ _ _
      | exact ih1 _ _ _
      | exact ih2 _ _
      | exact ih3 _ _
      | exact ih4 _ _ _
      | exact frame_All.mono _ _
      | exact frame_Join.mono _ _
      | exact frame_Make.mono _ _
      | exact frame_Take.mono _ _
      | exact screelaw04_awake.mono _
      | exact screelaw04_large.mono _ _
      | exact screelaw04_texts.mono _ _ _
      | exact screeref04_All.mono _ _
      | exact screeref04_Join.mono _ _
      | exact screeref04_Make.mono _ _
      | exact screeref04_Take.mono _ _
      | exact LeO.none _
      | refine LeO.ite ?_ ?_
      | refine LeO.bind ?_ (fun _ => ?_)
set_option maxHeartbeats 8000000 in
set_option maxRecDepth 100000 in
theorem screelaw04_FrameReads.calls (k : Nat) (a0 : ByteArray) (A1 : Option Addr) (c1 : Nat) (l1 : List ByteArray) (r : Bool) (w : World) (hr1 : Kd.C Kd.string w A1 l1.length l1) (hc1 : l1.length ≤ c1) (h : screelaw04_FrameReads.f k a0 l1 = some r) :
    Calls Try.prog 3 #[.string a0, .slice A1 l1.length c1] w fun e w' => e = .returned (.bool r) ∧ Below w.heap.size w w' := by
  have HR1 := Aside0.mk hr1
  have HC1 := Aside0.mk hc1
  clear hr1 hc1
  have HB := Aside0.mk (Below.refl w.heap.size w)
  have H : ((screelaw04_awake.f k).bind fun t180 => (if t180 = true then (if (a0.size : Int) > 8192 then (screelaw04_FrameReads.j0 k a0 l1 true) else ((screelaw04_large.f k l1).bind fun t181 => (screelaw04_FrameReads.j0 k a0 l1 t181))) else (some false))) = some r := h
  clear h
  replace H := Option.bind_eq_some_iff.mp H
  obtain ⟨t180, A30, H⟩ := H
  replace H : (if t180 = true then (if (a0.size : Int) > 8192 then (screelaw04_FrameReads.j0 k a0 l1 true) else ((screelaw04_large.f k l1).bind fun t181 => (screelaw04_FrameReads.j0 k a0 l1 t181))) else (some false)) = some r := H
  have A3 := Aside0.mk A30
  clear A30
  by_cases c4 : t180 = true
  · subst c4
    have H1 : (if (a0.size : Int) > 8192 then (screelaw04_FrameReads.j0 k a0 l1 true) else ((screelaw04_large.f k l1).bind fun t181 => (screelaw04_FrameReads.j0 k a0 l1 t181))) = some r := by rw [if_pos rfl] at H; exact H
    clear H
    have H := H1
    clear H1
    have HC5 := Aside0.mk H
    clear H
    go_enter Try.func3, Try.ntmps3
    go_upto_region 3 with (first | ((with_reducible refine gate_callee (f := 10) rfl ?_); refine goesL_ (some 24) rfl rfl Try.func10 (by kernel_rfl) rfl #[] rfl (by (try simp only [List.map_toArray, List.map_cons, List.map_nil]); first | done | rfl | (simp only [List.length_drop, List.length_take]; rfl) | (simp (disch := omega) only [IntWalk.u64_in, IntWalk.i64_in, IntWalk.u8_in]; rfl)) ?_; (with_reducible refine (screelaw04_awake.calls k  true _ A3.out).mono ?_); rintro e w6 ⟨rfl, hb⟩; refine ⟨_, rfl, ?_⟩; have n0_ := Aside0.mk (below_step (by repeat (first | (with_reducible first | exact HB.out | apply below_alloc | apply pw_below_drewN | apply below_drew1) | exact HB.out)) hb); clear HB; have HB := n0_; clear n0_; (try clear hb); (try clear hb2); (try clear hk); (try clear hi); (try clear A3)))
    (try simp only [Act.put, List.setIfInBounds_toArray, List.set_cons_zero, List.set_cons_succ])
    go_cut [32] (fun v32 wc => ∃ (kq : Nat) (x32_4 : Bool), v32 = .bool x32_4 ∧ Aside0 (screelaw04_FrameReads.j0 kq a0 l1 x32_4 = some r) ∧ Aside0 (kq ≤ k) ∧ Aside0 (Below w.heap.size w wc))
    case first =>
      have H := HC5.out
      clear HC5
      by_cases c7 : (a0.size : Int) > 8192
      · rw [if_pos c7] at H
        have c7b0 : decide (8192 < (a0.size : Int)) = true := decide_eq_true c7
        have c7b1 : decide (8192 < a0.size) = true := decide_eq_true (by omega)
        clear c7
        (first | rw [c7b0] | (simp only [i64_w, i32_w]; rw [c7b0]) | skip)
        have H' := Aside0.mk H
        clear H
        go_wp2
        go_meet
        case rel => exact ⟨_, (true), (by first | rfl | (simp; done) | (simp [*]; done)), (by first | (with_reducible exact H') | exact H' | (subst_vars; exact H')), ⟨by first | omega | exact Nat.le_refl _⟩, ⟨by repeat (first | (with_reducible first | exact HB.out | apply below_alloc | apply pw_below_drewN | apply below_drew1) | exact HB.out)⟩⟩
      · rw [if_neg c7] at H
        have c7b0 : decide (8192 < (a0.size : Int)) = false := decide_eq_false c7
        have c7b1 : decide (8192 < a0.size) = false := decide_eq_false (by omega)
        clear c7
        (first | rw [c7b0] | (simp only [i64_w, i32_w]; rw [c7b0]) | skip)
        replace H := Option.bind_eq_some_iff.mp H
        obtain ⟨t181, A80, H⟩ := H
        replace H : (screelaw04_FrameReads.j0 k a0 l1 t181) = some r := H
        have A8 := Aside0.mk A80
        clear A80
        have H' := Aside0.mk H
        clear H
        go_wp2_with (first | (go_at_call 11; (with_reducible refine (screelaw04_large.calls k _ _ l1 t181 _ ?side1 ?side2 A8.out).mono ?_); (case side1 => repeat (first | exact (Kd.C_below HR1.out HB.out) | (with_reducible refine Kd.C_alloc ?_ _) | (with_reducible refine Kd.C_drewN ?_ _) | (with_reducible refine Kd.C_drew ?_))); (case side2 => exact HC1.out); rintro e w' ⟨rfl, ⟨nd, rfl⟩⟩))
        go_meet
        case rel => exact ⟨_, (t181), (by first | rfl | (simp; done) | (simp [*]; done)), (by first | (with_reducible exact H') | exact H' | (subst_vars; exact H')), ⟨by first | omega | exact Nat.le_refl _⟩, ⟨by repeat (first | (with_reducible first | exact HB.out | apply below_alloc | apply pw_below_drewN | apply below_drew1) | exact HB.out)⟩⟩
    case rest =>
      clear HC5
      try clear c1
      try clear p2
      try clear c3
      try clear c4
      try clear c7
      try clear c7b0
      try clear c7b1
      obtain ⟨kq, x32_4, rfl, HA, HJ4, HB⟩ := hcut
      cases kq with
      | zero => exact absurd HA.out (by simp [screelaw04_FrameReads.j0])
      | succ kj4 =>
        have H := HA.out
        clear HA
        simp only [screelaw04_FrameReads.j0] at H
        by_cases c9 : x32_4 = true
        · subst c9
          have H1 : (some true) = some r := by rw [if_pos rfl] at H; exact H
          clear H
          have H := H1
          clear H1
          obtain rfl := Option.some.inj H
          go_wp2
          go_ret
          exact ⟨by first | rfl | (simp [errW_none, errW_some] <;> rfl) | (simp (disch := omega) only [← i64_w, IntWalk.i64_in]; rfl) | (simp [*, errW_none, errW_some] <;> rfl), by repeat (first | (with_reducible first | exact HB.out | apply below_alloc | apply pw_below_drewN | apply below_drew1) | exact HB.out)⟩
        · replace c9 := Bool.eq_false_iff.mpr c9
          subst c9
          have H1 : ((frame_All.f kj4 a0).bind fun bt182 => ((screeref04_All.f kj4 a0).bind fun bt186 => ((screelaw04_texts.f kj4 bt182.1 bt186.1).bind fun t190 => (if t190 = true then (screelaw04_FrameReads.j1 kj4 a0 l1 (bt182.2 != bt186.2)) else (screelaw04_FrameReads.j1 kj4 a0 l1 true))))) = some r := by rw [if_neg (show ¬ (false = true) by decide)] at H; exact H
          clear H
          have H := H1
          clear H1
          replace H := Option.bind_eq_some_iff.mp H
          obtain ⟨⟨t182, t183⟩, A100, H⟩ := H
          replace H : ((screeref04_All.f kj4 a0).bind fun bt186 => ((screelaw04_texts.f kj4 t182 bt186.1).bind fun t190 => (if t190 = true then (screelaw04_FrameReads.j1 kj4 a0 l1 (t183 != bt186.2)) else (screelaw04_FrameReads.j1 kj4 a0 l1 true)))) = some r := H
          have A10 := Aside0.mk A100
          clear A100
          replace H := Option.bind_eq_some_iff.mp H
          obtain ⟨⟨t186, t187⟩, A110, H⟩ := H
          replace H : ((screelaw04_texts.f kj4 t182 t186).bind fun t190 => (if t190 = true then (screelaw04_FrameReads.j1 kj4 a0 l1 (t183 != t187)) else (screelaw04_FrameReads.j1 kj4 a0 l1 true))) = some r := H
          have A11 := Aside0.mk A110
          clear A110
          have HC12 := Aside0.mk H
          clear H
          go_upto_region 7 with (first | ((with_reducible refine gate_callee (f := 12) rfl ?_); refine goesL_ (some 35) rfl rfl Try.func12 (by kernel_rfl) rfl #[.string a0] rfl (by (try simp only [List.map_toArray, List.map_cons, List.map_nil]); first | done | rfl | (simp only [List.length_drop, List.length_take]; rfl) | (simp (disch := omega) only [IntWalk.u64_in, IntWalk.i64_in, IntWalk.u8_in]; rfl)) ?_; (with_reducible refine (frame_All.calls kj4 a0 t182 t183 _ A10.out).mono ?_); rintro e w13 ⟨v184, rfl, ho0, hb⟩; refine ⟨_, rfl, ?_⟩; have n0_ := Aside0.mk (Kd.R_lower ho0 (below_size (by repeat (first | (with_reducible first | exact HB.out | apply below_alloc | apply pw_below_drewN | apply below_drew1) | exact HB.out)))); have n1_ := Aside0.mk (below_step (by repeat (first | (with_reducible first | exact HB.out | apply below_alloc | apply pw_below_drewN | apply below_drew1) | exact HB.out)) hb); clear HB; have HO185 := n0_; have HB := n1_; clear n0_ n1_; (try clear hb); (try clear hb2); (try clear hk); (try clear hi); (try clear ho0); (try clear A10)) | ((with_reducible refine gate_callee (f := 13) rfl ?_); refine goesL_ (some 40) rfl rfl Try.func13 (by kernel_rfl) rfl #[.string a0] rfl (by (try simp only [List.map_toArray, List.map_cons, List.map_nil]); first | done | rfl | (simp only [List.length_drop, List.length_take]; rfl) | (simp (disch := omega) only [IntWalk.u64_in, IntWalk.i64_in, IntWalk.u8_in]; rfl)) ?_; (with_reducible refine (screeref04_All.calls kj4 a0 t186 t187 _ A11.out).mono ?_); rintro e w14 ⟨v188, rfl, ho0, hb⟩; refine ⟨_, rfl, ?_⟩; have n0_ := Aside0.mk (Kd.R_elder' (by (with_reducible repeat (first | apply Kd.R_alloc | apply Kd.R_drewN | apply Kd.R_drew)); exact HO185.out) (Kd.R_base ho0) hb); have n1_ := Aside0.mk (Kd.R_lower (Kd.R_new' ho0 (Kd.R_lt (by (with_reducible repeat (first | apply Kd.R_alloc | apply Kd.R_drewN | apply Kd.R_drew)); exact HO185.out))) (below_size (by repeat (first | (with_reducible first | exact HB.out | apply below_alloc | apply pw_below_drewN | apply below_drew1) | exact HB.out)))); have n2_ := Aside0.mk (below_step (by repeat (first | (with_reducible first | exact HB.out | apply below_alloc | apply pw_below_drewN | apply below_drew1) | exact HB.out)) hb); clear HO185; clear HB; have HO185 := n0_; have HO189 := n1_; have HB := n2_; clear n0_ n1_ n2_; (try clear hb); (try clear hb2); (try clear hk); (try clear hi); (try clear ho0); (try clear A11)))
          (try simp only [Act.put, List.setIfInBounds_toArray, List.set_cons_zero, List.set_cons_succ])
          go_cut [51] (fun v51 wc => ∃ (kq : Nat) (x51_11 : Bool), v51 = .bool x51_11 ∧ Aside0 (screelaw04_FrameReads.j1 kq a0 l1 x51_11 = some r) ∧ Aside0 (kq ≤ kj4) ∧ Aside0 (Below w.heap.size w wc))
          case first =>
            have H := HC12.out
            clear HC12
            replace H := Option.bind_eq_some_iff.mp H
            obtain ⟨t190, A150, H⟩ := H
            replace H : (if t190 = true then (screelaw04_FrameReads.j1 kj4 a0 l1 (t183 != t187)) else (screelaw04_FrameReads.j1 kj4 a0 l1 true)) = some r := H
            have A15 := Aside0.mk A150
            clear A150
            by_cases c16 : t190 = true
            · subst c16
              have H1 : (screelaw04_FrameReads.j1 kj4 a0 l1 (t183 != t187)) = some r := by rw [if_pos rfl] at H; exact H
              clear H
              have H := H1
              clear H1
              have H' := Aside0.mk H
              clear H
              obtain ⟨Ao17, co17, eo17⟩ := Kd.R_slice HO185.out
              subst eo17
              obtain ⟨Ao18, co18, eo18⟩ := Kd.R_slice HO189.out
              subst eo18
              go_wp2_with (first | ((with_reducible refine gate_callee (f := 14) rfl ?_); refine goesL_ (some 45) rfl rfl Try.func14 (by kernel_rfl) rfl #[.slice Ao17 t182.length co17, .slice Ao18 t186.length co18] rfl (by (try simp only [List.map_toArray, List.map_cons, List.map_nil]); first | done | rfl | (simp only [List.length_drop, List.length_take]; rfl) | (simp (disch := omega) only [IntWalk.u64_in, IntWalk.i64_in, IntWalk.u8_in]; rfl)) ?_; (with_reducible refine (screelaw04_texts.calls kj4 _ _ t182 _ _ t186 true _ ?side1 ?side2 ?side3 ?side4 A15.out).mono ?_); (case side1 => repeat (first | exact (Kd.R_reads' HO185.out).2.2 | (with_reducible refine Kd.C_alloc ?_ _) | (with_reducible refine Kd.C_drewN ?_ _) | (with_reducible refine Kd.C_drew ?_))); (case side2 => exact (Kd.R_reads' HO185.out).2.1); (case side3 => repeat (first | exact (Kd.R_reads' HO189.out).2.2 | (with_reducible refine Kd.C_alloc ?_ _) | (with_reducible refine Kd.C_drewN ?_ _) | (with_reducible refine Kd.C_drew ?_))); (case side4 => exact (Kd.R_reads' HO189.out).2.1); rintro e w' ⟨rfl, ⟨nd, rfl⟩⟩; refine ⟨_, rfl, ?_⟩))
              go_meet
              case rel => exact ⟨_, ((t183 != t187)), (by first | rfl | (simp; done) | (simp [*]; done)), (by first | (with_reducible exact H') | exact H' | (subst_vars; exact H')), ⟨by have := HJ4.out; first | omega | exact Nat.le_refl _⟩, ⟨by repeat (first | (with_reducible first | exact HB.out | apply below_alloc | apply pw_below_drewN | apply below_drew1) | exact HB.out)⟩⟩
            · replace c16 := Bool.eq_false_iff.mpr c16
              subst c16
              have H1 : (screelaw04_FrameReads.j1 kj4 a0 l1 true) = some r := by rw [if_neg (show ¬ (false = true) by decide)] at H; exact H
              clear H
              have H := H1
              clear H1
              have H' := Aside0.mk H
              clear H
              obtain ⟨Ao19, co19, eo19⟩ := Kd.R_slice HO185.out
              subst eo19
              obtain ⟨Ao20, co20, eo20⟩ := Kd.R_slice HO189.out
              subst eo20
              go_wp2_with (first | ((with_reducible refine gate_callee (f := 14) rfl ?_); refine goesL_ (some 45) rfl rfl Try.func14 (by kernel_rfl) rfl #[.slice Ao19 t182.length co19, .slice Ao20 t186.length co20] rfl (by (try simp only [List.map_toArray, List.map_cons, List.map_nil]); first | done | rfl | (simp only [List.length_drop, List.length_take]; rfl) | (simp (disch := omega) only [IntWalk.u64_in, IntWalk.i64_in, IntWalk.u8_in]; rfl)) ?_; (with_reducible refine (screelaw04_texts.calls kj4 _ _ t182 _ _ t186 false _ ?side1 ?side2 ?side3 ?side4 A15.out).mono ?_); (case side1 => repeat (first | exact (Kd.R_reads' HO185.out).2.2 | (with_reducible refine Kd.C_alloc ?_ _) | (with_reducible refine Kd.C_drewN ?_ _) | (with_reducible refine Kd.C_drew ?_))); (case side2 => exact (Kd.R_reads' HO185.out).2.1); (case side3 => repeat (first | exact (Kd.R_reads' HO189.out).2.2 | (with_reducible refine Kd.C_alloc ?_ _) | (with_reducible refine Kd.C_drewN ?_ _) | (with_reducible refine Kd.C_drew ?_))); (case side4 => exact (Kd.R_reads' HO189.out).2.1); rintro e w' ⟨rfl, ⟨nd, rfl⟩⟩; refine ⟨_, rfl, ?_⟩))
              go_meet
              case rel => exact ⟨_, (true), (by first | rfl | (simp; done) | (simp [*]; done)), (by first | (with_reducible exact H') | exact H' | (subst_vars; exact H')), ⟨by have := HJ4.out; first | omega | exact Nat.le_refl _⟩, ⟨by repeat (first | (with_reducible first | exact HB.out | apply below_alloc | apply pw_below_drewN | apply below_drew1) | exact HB.out)⟩⟩
          case rest =>
            clear HC12
            try clear c1
            try clear p2
            try clear c3
            try clear c4
            try clear c7
            try clear c7b0
            try clear c7b1
            try clear c9
            try clear c10
            try clear c12
            try clear c13
            try clear c14
            try clear c16
            try clear p2
            obtain ⟨kq, x51_11, rfl, HA, HJ11, HB⟩ := hcut
            cases kq with
            | zero => exact absurd HA.out (by simp [screelaw04_FrameReads.j1])
            | succ kj11 =>
              have H := HA.out
              clear HA
              simp only [screelaw04_FrameReads.j1] at H
              by_cases c21 : x51_11 = true
              · subst c21
                have H1 : (some false) = some r := by rw [if_pos rfl] at H; exact H
                clear H
                have H := H1
                clear H1
                obtain rfl := Option.some.inj H
                go_wp2
                go_ret
                exact ⟨by first | rfl | (simp [errW_none, errW_some] <;> rfl) | (simp (disch := omega) only [← i64_w, IntWalk.i64_in]; rfl) | (simp [*, errW_none, errW_some] <;> rfl), by repeat (first | (with_reducible first | exact HB.out | apply below_alloc | apply pw_below_drewN | apply below_drew1) | exact HB.out)⟩
              · replace c21 := Bool.eq_false_iff.mpr c21
                subst c21
                have H1 : ((frame_Take.f kj11 a0).bind fun bt191 => ((screeref04_Take.f kj11 a0).bind fun bt194 => (if bt191.1.toList = bt194.1.toList then (if bt191.2.1.toList = bt194.2.1.toList then (screelaw04_FrameReads.j2 kj11 l1 (bt191.2.2 != bt194.2.2)) else (screelaw04_FrameReads.j2 kj11 l1 true)) else (screelaw04_FrameReads.j2 kj11 l1 true)))) = some r := by rw [if_neg (show ¬ (false = true) by decide)] at H; exact H
                clear H
                have H := H1
                clear H1
                replace H := Option.bind_eq_some_iff.mp H
                obtain ⟨⟨t191, t192, t193⟩, A220, H⟩ := H
                replace H : ((screeref04_Take.f kj11 a0).bind fun bt194 => (if t191.toList = bt194.1.toList then (if t192.toList = bt194.2.1.toList then (screelaw04_FrameReads.j2 kj11 l1 (t193 != bt194.2.2)) else (screelaw04_FrameReads.j2 kj11 l1 true)) else (screelaw04_FrameReads.j2 kj11 l1 true))) = some r := H
                have A22 := Aside0.mk A220
                clear A220
                replace H := Option.bind_eq_some_iff.mp H
                obtain ⟨⟨t194, t195, t196⟩, A230, H⟩ := H
                replace H : (if t191.toList = t194.toList then (if t192.toList = t195.toList then (screelaw04_FrameReads.j2 kj11 l1 (t193 != t196)) else (screelaw04_FrameReads.j2 kj11 l1 true)) else (screelaw04_FrameReads.j2 kj11 l1 true)) = some r := H
                have A23 := Aside0.mk A230
                clear A230
                have HC24 := Aside0.mk H
                clear H
                go_upto_region 11 with (first | ((with_reducible refine gate_callee (f := 15) rfl ?_); refine goesL_ (some 54) rfl rfl Try.func15 (by kernel_rfl) rfl #[.string a0] rfl (by (try simp only [List.map_toArray, List.map_cons, List.map_nil]); first | done | rfl | (simp only [List.length_drop, List.length_take]; rfl) | (simp (disch := omega) only [IntWalk.u64_in, IntWalk.i64_in, IntWalk.u8_in]; rfl)) ?_; (with_reducible refine (frame_Take.calls kj11 a0 t191 t192 t193 _ A22.out).mono ?_); rintro e w' ⟨rfl, ⟨nd, rfl⟩⟩; refine ⟨_, rfl, ?_⟩) | ((with_reducible refine gate_callee (f := 16) rfl ?_); refine goesL_ (some 60) rfl rfl Try.func16 (by kernel_rfl) rfl #[.string a0] rfl (by (try simp only [List.map_toArray, List.map_cons, List.map_nil]); first | done | rfl | (simp only [List.length_drop, List.length_take]; rfl) | (simp (disch := omega) only [IntWalk.u64_in, IntWalk.i64_in, IntWalk.u8_in]; rfl)) ?_; (with_reducible refine (screeref04_Take.calls kj11 a0 t194 t195 t196 _ A23.out).mono ?_); rintro e w25 ⟨rfl, hb⟩; refine ⟨_, rfl, ?_⟩; have n0_ := Aside0.mk (below_step (by repeat (first | (with_reducible first | exact HB.out | apply below_alloc | apply pw_below_drewN | apply below_drew1) | exact HB.out)) hb); clear HB; have HB := n0_; clear n0_; (try clear hb); (try clear hb2); (try clear hk); (try clear hi); (try clear A23)))
                (try simp only [Act.put, List.setIfInBounds_toArray, List.set_cons_zero, List.set_cons_succ])
                go_cut [76] (fun v76 wc => ∃ (kq : Nat) (x76_23 : Bool), v76 = .bool x76_23 ∧ Aside0 (screelaw04_FrameReads.j2 kq l1 x76_23 = some r) ∧ Aside0 (kq ≤ kj11) ∧ Aside0 (Below w.heap.size w wc))
                case first =>
                  have H := HC24.out
                  clear HC24
                  by_cases c26 : t191.toList = t194.toList
                  · rw [if_pos c26] at H
                    have c26b0 : (t191.toList == t194.toList) = true := beq_iff_eq.mpr c26
                    have c26b1 : (t191.toList != t194.toList) = false := bne_eq_false_iff_eq.mpr c26
                    clear c26
                    (first | rw [c26b0] | (simp only [i64_w, i32_w]; rw [c26b0]) | skip)
                    by_cases c27 : t192.toList = t195.toList
                    · rw [if_pos c27] at H
                      have c27b0 : (t192.toList == t195.toList) = true := beq_iff_eq.mpr c27
                      have c27b1 : (t192.toList != t195.toList) = false := bne_eq_false_iff_eq.mpr c27
                      clear c27
                      have H' := Aside0.mk H
                      clear H
                      go_wp2
                      go_meet
                      case rel => exact ⟨_, ((t193 != t196)), (by first | rfl | (simp; done) | (simp [*]; done)), (by first | (with_reducible exact H') | exact H' | (subst_vars; exact H')), ⟨by have := HJ4.out; have := HJ11.out; first | omega | exact Nat.le_refl _⟩, ⟨by repeat (first | (with_reducible first | exact HB.out | apply below_alloc | apply pw_below_drewN | apply below_drew1) | exact HB.out)⟩⟩
                    · rw [if_neg c27] at H
                      have c27b0 : (t192.toList == t195.toList) = false := beq_eq_false_iff_ne.mpr c27
                      have c27b1 : (t192.toList != t195.toList) = true := bne_iff_ne.mpr c27
                      have H' := Aside0.mk H
                      clear H
                      go_wp2
                      go_meet
                      case rel => exact ⟨_, (true), (by first | rfl | (simp; done) | (simp [*]; done)), (by first | (with_reducible exact H') | exact H' | (subst_vars; exact H')), ⟨by have := HJ4.out; have := HJ11.out; first | omega | exact Nat.le_refl _⟩, ⟨by repeat (first | (with_reducible first | exact HB.out | apply below_alloc | apply pw_below_drewN | apply below_drew1) | exact HB.out)⟩⟩
                  · rw [if_neg c26] at H
                    have c26b0 : (t191.toList == t194.toList) = false := beq_eq_false_iff_ne.mpr c26
                    have c26b1 : (t191.toList != t194.toList) = true := bne_iff_ne.mpr c26
                    (first | rw [c26b0] | (simp only [i64_w, i32_w]; rw [c26b0]) | skip)
                    have H' := Aside0.mk H
                    clear H
                    go_wp2
                    go_meet
                    case rel => exact ⟨_, (true), (by first | rfl | (simp; done) | (simp [*]; done)), (by first | (with_reducible exact H') | exact H' | (subst_vars; exact H')), ⟨by have := HJ4.out; have := HJ11.out; first | omega | exact Nat.le_refl _⟩, ⟨by repeat (first | (with_reducible first | exact HB.out | apply below_alloc | apply pw_below_drewN | apply below_drew1) | exact HB.out)⟩⟩
                case rest =>
                  clear HC24
                  try clear c1
                  try clear c2
                  try clear p2
                  try clear c3
                  try clear c4
                  try clear c7
                  try clear c7b0
                  try clear c7b1
                  try clear c9
                  try clear c10
                  try clear c12
                  try clear c13
                  try clear c14
                  try clear c15
                  try clear c16
                  try clear c21
                  try clear c26
                  try clear c26b0
                  try clear c26b1
                  try clear c27
                  try clear c27b0
                  try clear c27b1
                  try clear p2
                  obtain ⟨kq, x76_23, rfl, HA, HJ23, HB⟩ := hcut
                  cases kq with
                  | zero => exact absurd HA.out (by simp [screelaw04_FrameReads.j2])
                  | succ kj23 =>
                    have H := HA.out
                    clear HA
                    simp only [screelaw04_FrameReads.j2] at H
                    by_cases c28 : x76_23 = true
                    · subst c28
                      have H1 : (some false) = some r := by rw [if_pos rfl] at H; exact H
                      clear H
                      have H := H1
                      clear H1
                      obtain rfl := Option.some.inj H
                      go_wp2
                      go_ret
                      exact ⟨by first | rfl | (simp [errW_none, errW_some] <;> rfl) | (simp (disch := omega) only [← i64_w, IntWalk.i64_in]; rfl) | (simp [*, errW_none, errW_some] <;> rfl), by repeat (first | (with_reducible first | exact HB.out | apply below_alloc | apply pw_below_drewN | apply below_drew1) | exact HB.out)⟩
                    · replace c28 := Bool.eq_false_iff.mpr c28
                      subst c28
                      have H1 : ((frame_Join.f kj23 l1).bind fun bt197 => ((screeref04_Join.f kj23 l1).bind fun bt199 => (if bt197.1.toList = bt199.1.toList then (screelaw04_FrameReads.j3 kj23 l1 (bt197.2 != bt199.2)) else (screelaw04_FrameReads.j3 kj23 l1 true)))) = some r := by rw [if_neg (show ¬ (false = true) by decide)] at H; exact H
                      clear H
                      have H := H1
                      clear H1
                      replace H := Option.bind_eq_some_iff.mp H
                      obtain ⟨⟨t197, t198⟩, A290, H⟩ := H
                      replace H : ((screeref04_Join.f kj23 l1).bind fun bt199 => (if t197.toList = bt199.1.toList then (screelaw04_FrameReads.j3 kj23 l1 (t198 != bt199.2)) else (screelaw04_FrameReads.j3 kj23 l1 true))) = some r := H
                      have A29 := Aside0.mk A290
                      clear A290
                      replace H := Option.bind_eq_some_iff.mp H
                      obtain ⟨⟨t199, t200⟩, A300, H⟩ := H
                      replace H : (if t197.toList = t199.toList then (screelaw04_FrameReads.j3 kj23 l1 (t198 != t200)) else (screelaw04_FrameReads.j3 kj23 l1 true)) = some r := H
                      have A30 := Aside0.mk A300
                      clear A300
                      have HC31 := Aside0.mk H
                      clear H
                      go_upto_region 15 with (first | ((with_reducible refine gate_callee (f := 17) rfl ?_); refine goesL_ (some 79) rfl rfl Try.func17 (by kernel_rfl) rfl #[.slice A1 l1.length c1] rfl (by (try simp only [List.map_toArray, List.map_cons, List.map_nil]); first | done | rfl | (simp only [List.length_drop, List.length_take]; rfl) | (simp (disch := omega) only [IntWalk.u64_in, IntWalk.i64_in, IntWalk.u8_in]; rfl)) ?_; (with_reducible refine (frame_Join.calls kj23 _ _ l1 t197 t198 _ ?side1 ?side2 A29.out).mono ?_); (case side1 => repeat (first | exact (Kd.C_below HR1.out HB.out) | (with_reducible refine Kd.C_alloc ?_ _) | (with_reducible refine Kd.C_drewN ?_ _) | (with_reducible refine Kd.C_drew ?_))); (case side2 => exact HC1.out); rintro e w32 ⟨rfl, hb⟩; refine ⟨_, rfl, ?_⟩; have n0_ := Aside0.mk (below_step (by repeat (first | (with_reducible first | exact HB.out | apply below_alloc | apply pw_below_drewN | apply below_drew1) | exact HB.out)) hb); clear HB; have HB := n0_; clear n0_; (try clear hb); (try clear hb2); (try clear hk); (try clear hi); (try clear A29)) | ((with_reducible refine gate_callee (f := 18) rfl ?_); refine goesL_ (some 84) rfl rfl Try.func18 (by kernel_rfl) rfl #[.slice A1 l1.length c1] rfl (by (try simp only [List.map_toArray, List.map_cons, List.map_nil]); first | done | rfl | (simp only [List.length_drop, List.length_take]; rfl) | (simp (disch := omega) only [IntWalk.u64_in, IntWalk.i64_in, IntWalk.u8_in]; rfl)) ?_; (with_reducible refine (screeref04_Join.calls kj23 _ _ l1 t199 t200 _ ?side1 ?side2 A30.out).mono ?_); (case side1 => repeat (first | exact (Kd.C_below HR1.out HB.out) | (with_reducible refine Kd.C_alloc ?_ _) | (with_reducible refine Kd.C_drewN ?_ _) | (with_reducible refine Kd.C_drew ?_))); (case side2 => exact HC1.out); rintro e w33 ⟨rfl, hb⟩; refine ⟨_, rfl, ?_⟩; have n0_ := Aside0.mk (below_step (by repeat (first | (with_reducible first | exact HB.out | apply below_alloc | apply pw_below_drewN | apply below_drew1) | exact HB.out)) hb); clear HB; have HB := n0_; clear n0_; (try clear hb); (try clear hb2); (try clear hk); (try clear hi); (try clear A30)))
                      (try simp only [Act.put, List.setIfInBounds_toArray, List.set_cons_zero, List.set_cons_succ])
                      go_cut [94] (fun v94 wc => ∃ (kq : Nat) (x94_30 : Bool), v94 = .bool x94_30 ∧ Aside0 (screelaw04_FrameReads.j3 kq l1 x94_30 = some r) ∧ Aside0 (kq ≤ kj23) ∧ Aside0 (Below w.heap.size w wc))
                      case first =>
                        have H := HC31.out
                        clear HC31
                        by_cases c34 : t197.toList = t199.toList
                        · rw [if_pos c34] at H
                          have c34b0 : (t197.toList == t199.toList) = true := beq_iff_eq.mpr c34
                          have c34b1 : (t197.toList != t199.toList) = false := bne_eq_false_iff_eq.mpr c34
                          clear c34
                          (first | rw [c34b0] | (simp only [i64_w, i32_w]; rw [c34b0]) | skip)
                          have H' := Aside0.mk H
                          clear H
                          go_wp2
                          go_meet
                          case rel => exact ⟨_, ((t198 != t200)), (by first | rfl | (simp; done) | (simp [*]; done)), (by first | (with_reducible exact H') | exact H' | (subst_vars; exact H')), ⟨by have := HJ4.out; have := HJ11.out; have := HJ23.out; first | omega | exact Nat.le_refl _⟩, ⟨by repeat (first | (with_reducible first | exact HB.out | apply below_alloc | apply pw_below_drewN | apply below_drew1) | exact HB.out)⟩⟩
                        · rw [if_neg c34] at H
                          have c34b0 : (t197.toList == t199.toList) = false := beq_eq_false_iff_ne.mpr c34
                          have c34b1 : (t197.toList != t199.toList) = true := bne_iff_ne.mpr c34
                          (first | rw [c34b0] | (simp only [i64_w, i32_w]; rw [c34b0]) | skip)
                          have H' := Aside0.mk H
                          clear H
                          go_wp2
                          go_meet
                          case rel => exact ⟨_, (true), (by first | rfl | (simp; done) | (simp [*]; done)), (by first | (with_reducible exact H') | exact H' | (subst_vars; exact H')), ⟨by have := HJ4.out; have := HJ11.out; have := HJ23.out; first | omega | exact Nat.le_refl _⟩, ⟨by repeat (first | (with_reducible first | exact HB.out | apply below_alloc | apply pw_below_drewN | apply below_drew1) | exact HB.out)⟩⟩
                      case rest =>
                        clear HC31
                        try clear c1
                        try clear c2
                        try clear p2
                        try clear c3
                        try clear c4
                        try clear c7
                        try clear c7b0
                        try clear c7b1
                        try clear c9
                        try clear c10
                        try clear c12
                        try clear c13
                        try clear c14
                        try clear c15
                        try clear c16
                        try clear c17
                        try clear c18
                        try clear c21
                        try clear c26
                        try clear c26b0
                        try clear c26b1
                        try clear c27
                        try clear c27b0
                        try clear c27b1
                        try clear c28
                        try clear c34
                        try clear c34b0
                        try clear c34b1
                        try clear p2
                        obtain ⟨kq, x94_30, rfl, HA, HJ30, HB⟩ := hcut
                        cases kq with
                        | zero => exact absurd HA.out (by simp [screelaw04_FrameReads.j3])
                        | succ kj30 =>
                          have H := HA.out
                          clear HA
                          simp only [screelaw04_FrameReads.j3] at H
                          by_cases c35 : x94_30 = true
                          · subst c35
                            have H1 : (some false) = some r := by rw [if_pos rfl] at H; exact H
                            clear H
                            have H := H1
                            clear H1
                            obtain rfl := Option.some.inj H
                            go_wp2
                            go_ret
                            exact ⟨by first | rfl | (simp [errW_none, errW_some] <;> rfl) | (simp (disch := omega) only [← i64_w, IntWalk.i64_in]; rfl) | (simp [*, errW_none, errW_some] <;> rfl), by repeat (first | (with_reducible first | exact HB.out | apply below_alloc | apply pw_below_drewN | apply below_drew1) | exact HB.out)⟩
                          · replace c35 := Bool.eq_false_iff.mpr c35
                            subst c35
                            have H1 : (screelaw04_FrameReads.l0 kj30 l1 (l1.length : Int) 0) = some r := by rw [if_neg (show ¬ (false = true) by decide)] at H; exact H
                            clear H
                            have H := H1
                            clear H1
                            have H' := Aside0.mk H
                            clear H
                            go_wp2
                            go_loopg [97] kj30 (fun kq v97 w' => ∃ (x97_5 : Int), v97 = .int .i64 x97_5 ∧ Aside0 (screelaw04_FrameReads.l0 kq l1 (l1.length : Int) x97_5 = some r) ∧ Aside0 (kq ≤ kj30) ∧ Aside0 (Below w.heap.size w w'))
                            case atStart => exact ⟨(0), (by first | rfl | (simp; done) | (simp [*]; done)), H', ⟨Nat.le_refl _⟩, ⟨by repeat (first | (with_reducible first | exact HB.out | apply below_alloc | apply pw_below_drewN | apply below_drew1) | exact HB.out)⟩⟩
                            case round =>
                              clear H'
                              try clear c1
                              try clear c2
                              try clear p2
                              try clear c3
                              try clear c4
                              try clear c7
                              try clear c7b0
                              try clear c7b1
                              try clear c9
                              try clear c10
                              try clear c12
                              try clear c13
                              try clear c14
                              try clear c15
                              try clear c16
                              try clear c17
                              try clear c18
                              try clear c21
                              try clear c26
                              try clear c26b0
                              try clear c26b1
                              try clear c27
                              try clear c27b0
                              try clear c27b1
                              try clear c28
                              try clear c34
                              try clear c34b0
                              try clear c34b1
                              try clear c35
                              try clear p2
                              obtain ⟨x97_5, rfl, HA, HK5, HB⟩ := hrel
                              cases gk with
                              | zero => exact absurd HA.out (by simp [screelaw04_FrameReads.l0])
                              | succ k5 =>
                                have H := HA.out
                                clear HA
                                simp only [screelaw04_FrameReads.l0] at H
                                by_cases c36 : x97_5 < (l1.length : Int)
                                · rw [if_pos c36] at H
                                  have c36b0 : decide (x97_5 < (l1.length : Int)) = true := decide_eq_true c36
                                  clear c36
                                  by_cases c37 : 0 ≤ x97_5
                                  · rw [if_pos c37] at H
                                    have c37b0 : decide (0 ≤ x97_5) = true := decide_eq_true c37
                                    clear c37
                                    by_cases c38 : x97_5 < (l1.length : Int)
                                    · rw [if_pos c38] at H
                                      have c38b0 : decide (x97_5 < (l1.length : Int)) = true := decide_eq_true c38
                                      clear c38
                                      replace H := Option.bind_eq_some_iff.mp H
                                      obtain ⟨⟨t202, t203⟩, A390, H⟩ := H
                                      replace H : ((screeref04_Make.f k5 (rdOf ByteArray.empty l1 x97_5)).bind fun bt205 => (if t202.toList = bt205.1.toList then (if t203 = bt205.2 then (screelaw04_FrameReads.l0 k5 l1 (l1.length : Int) (wrap64 (x97_5 + 1))) else (some false)) else (some false))) = some r := H
                                      have A39 := Aside0.mk A390
                                      clear A390
                                      replace H := Option.bind_eq_some_iff.mp H
                                      obtain ⟨⟨t205, t206⟩, A400, H⟩ := H
                                      replace H : (if t202.toList = t205.toList then (if t203 = t206 then (screelaw04_FrameReads.l0 k5 l1 (l1.length : Int) (wrap64 (x97_5 + 1))) else (some false)) else (some false)) = some r := H
                                      have A40 := Aside0.mk A400
                                      clear A400
                                      by_cases c41 : t202.toList = t205.toList
                                      · rw [if_pos c41] at H
                                        have c41b0 : (t202.toList == t205.toList) = true := beq_iff_eq.mpr c41
                                        have c41b1 : (t202.toList != t205.toList) = false := bne_eq_false_iff_eq.mpr c41
                                        clear c41
                                        by_cases c42 : t203 = t206
                                        · rw [if_pos c42] at H
                                          have c42b0 : (t203 == t206) = true := beq_iff_eq.mpr c42
                                          have c42b1 : (t203 != t206) = false := bne_eq_false_iff_eq.mpr c42
                                          clear c42
                                          have H' := Aside0.mk H
                                          clear H
                                          have p201 : 0 ≤ (x97_5 : Int) := of_decide_eq_true (by first | (with_reducible assumption) | assumption)
                                          have q201 : x97_5 < (l1.length : Int) := of_decide_eq_true (by first | (with_reducible assumption) | assumption)
                                          obtain ⟨ad201, e201, hx201_0⟩ := Kd.at_string HR1.out x97_5 p201 q201
                                          cases e201
                                          replace hx201_0 := (HB.out.cell (World.block_lt_of_cell? w _ hx201_0)).trans hx201_0
                                          replace p201 := eq_true p201
                                          replace q201 := eq_true q201
                                          go_wp2_with (first | ((with_reducible refine gate_callee (f := 19) rfl ?_); refine goesL_ (some 105) rfl rfl Try.func19 (by kernel_rfl) rfl #[.string (rdOf ByteArray.empty l1 x97_5)] rfl (by (try simp only [List.map_toArray, List.map_cons, List.map_nil]); first | done | rfl | (simp only [List.length_drop, List.length_take]; rfl) | (simp (disch := omega) only [IntWalk.u64_in, IntWalk.i64_in, IntWalk.u8_in]; rfl)) ?_; (with_reducible refine (frame_Make.calls k5 (rdOf ByteArray.empty l1 x97_5) t202 t203 _ A39.out).mono ?_); rintro e w43 ⟨rfl, hb⟩; refine ⟨_, rfl, ?_⟩; have n0_ := Aside0.mk (below_step (by repeat (first | (with_reducible first | exact HB.out | apply below_alloc | apply pw_below_drewN | apply below_drew1) | exact HB.out)) hb); clear HB; have HB := n0_; clear n0_; (try clear hb); (try clear hb2); (try clear hk); (try clear hi); (try clear A39); have p204 : 0 ≤ (x97_5 : Int) := of_decide_eq_true (by first | (with_reducible assumption) | assumption); have q204 : x97_5 < (l1.length : Int) := of_decide_eq_true (by first | (with_reducible assumption) | assumption); obtain ⟨ad204, e204, hx204_0⟩ := Kd.at_string HR1.out x97_5 p204 q204; obtain rfl : ad201 = ad204 := (by injection e204); replace hx204_0 := (HB.out.cell (World.block_lt_of_cell? w _ hx204_0)).trans hx204_0; replace p204 := eq_true p204; replace q204 := eq_true q204) | ((with_reducible refine gate_callee (f := 20) rfl ?_); refine goesL_ (some 113) rfl rfl Try.func20 (by kernel_rfl) rfl #[.string (rdOf ByteArray.empty l1 x97_5)] rfl (by (try simp only [List.map_toArray, List.map_cons, List.map_nil]); first | done | rfl | (simp only [List.length_drop, List.length_take]; rfl) | (simp (disch := omega) only [IntWalk.u64_in, IntWalk.i64_in, IntWalk.u8_in]; rfl)) ?_; (with_reducible refine (screeref04_Make.calls k5 (rdOf ByteArray.empty l1 x97_5) t205 t206 _ A40.out).mono ?_); rintro e w44 ⟨rfl, hb⟩; refine ⟨_, rfl, ?_⟩; have n0_ := Aside0.mk (below_step (by repeat (first | (with_reducible first | exact HB.out | apply below_alloc | apply pw_below_drewN | apply below_drew1) | exact HB.out)) hb); clear HB; have HB := n0_; clear n0_; (try clear hb); (try clear hb2); (try clear hk); (try clear hi); (try clear A40)))
                                          go_roundg k5
                                          case measure => have := HJ4.out; have := HJ11.out; have := HJ23.out; have := HJ30.out; have := HK5.out; omega
                                          case rel => exact ⟨(wrap64 (x97_5 + 1)), (by first | rfl | (simp; done) | (simp [*]; done)), (by first | (with_reducible exact H') | exact H' | (subst_vars; exact H')), ⟨by have := HJ4.out; have := HJ11.out; have := HJ23.out; have := HJ30.out; have := HK5.out; omega⟩, ⟨by repeat (first | (with_reducible first | exact HB.out | apply below_alloc | apply pw_below_drewN | apply below_drew1) | exact HB.out)⟩⟩
                                        · rw [if_neg c42] at H
                                          have c42b0 : (t203 == t206) = false := beq_eq_false_iff_ne.mpr c42
                                          have c42b1 : (t203 != t206) = true := bne_iff_ne.mpr c42
                                          obtain rfl := Option.some.inj H
                                          have p201 : 0 ≤ (x97_5 : Int) := of_decide_eq_true (by first | (with_reducible assumption) | assumption)
                                          have q201 : x97_5 < (l1.length : Int) := of_decide_eq_true (by first | (with_reducible assumption) | assumption)
                                          obtain ⟨ad201, e201, hx201_0⟩ := Kd.at_string HR1.out x97_5 p201 q201
                                          cases e201
                                          replace hx201_0 := (HB.out.cell (World.block_lt_of_cell? w _ hx201_0)).trans hx201_0
                                          replace p201 := eq_true p201
                                          replace q201 := eq_true q201
                                          go_wp2_with (first | ((with_reducible refine gate_callee (f := 19) rfl ?_); refine goesL_ (some 105) rfl rfl Try.func19 (by kernel_rfl) rfl #[.string (rdOf ByteArray.empty l1 x97_5)] rfl (by (try simp only [List.map_toArray, List.map_cons, List.map_nil]); first | done | rfl | (simp only [List.length_drop, List.length_take]; rfl) | (simp (disch := omega) only [IntWalk.u64_in, IntWalk.i64_in, IntWalk.u8_in]; rfl)) ?_; (with_reducible refine (frame_Make.calls k5 (rdOf ByteArray.empty l1 x97_5) t202 t203 _ A39.out).mono ?_); rintro e w45 ⟨rfl, hb⟩; refine ⟨_, rfl, ?_⟩; have n0_ := Aside0.mk (below_step (by repeat (first | (with_reducible first | exact HB.out | apply below_alloc | apply pw_below_drewN | apply below_drew1) | exact HB.out)) hb); clear HB; have HB := n0_; clear n0_; (try clear hb); (try clear hb2); (try clear hk); (try clear hi); (try clear A39); have p204 : 0 ≤ (x97_5 : Int) := of_decide_eq_true (by first | (with_reducible assumption) | assumption); have q204 : x97_5 < (l1.length : Int) := of_decide_eq_true (by first | (with_reducible assumption) | assumption); obtain ⟨ad204, e204, hx204_0⟩ := Kd.at_string HR1.out x97_5 p204 q204; obtain rfl : ad201 = ad204 := (by injection e204); replace hx204_0 := (HB.out.cell (World.block_lt_of_cell? w _ hx204_0)).trans hx204_0; replace p204 := eq_true p204; replace q204 := eq_true q204) | ((with_reducible refine gate_callee (f := 20) rfl ?_); refine goesL_ (some 113) rfl rfl Try.func20 (by kernel_rfl) rfl #[.string (rdOf ByteArray.empty l1 x97_5)] rfl (by (try simp only [List.map_toArray, List.map_cons, List.map_nil]); first | done | rfl | (simp only [List.length_drop, List.length_take]; rfl) | (simp (disch := omega) only [IntWalk.u64_in, IntWalk.i64_in, IntWalk.u8_in]; rfl)) ?_; (with_reducible refine (screeref04_Make.calls k5 (rdOf ByteArray.empty l1 x97_5) t205 t206 _ A40.out).mono ?_); rintro e w46 ⟨rfl, hb⟩; refine ⟨_, rfl, ?_⟩; have n0_ := Aside0.mk (below_step (by repeat (first | (with_reducible first | exact HB.out | apply below_alloc | apply pw_below_drewN | apply below_drew1) | exact HB.out)) hb); clear HB; have HB := n0_; clear n0_; (try clear hb); (try clear hb2); (try clear hk); (try clear hi); (try clear A40)))
                                          go_ret
                                          exact ⟨by first | rfl | (simp [errW_none, errW_some] <;> rfl) | (simp (disch := omega) only [← i64_w, IntWalk.i64_in]; rfl) | (simp [*, errW_none, errW_some] <;> rfl), by repeat (first | (with_reducible first | exact HB.out | apply below_alloc | apply pw_below_drewN | apply below_drew1) | exact HB.out)⟩
                                      · rw [if_neg c41] at H
                                        have c41b0 : (t202.toList == t205.toList) = false := beq_eq_false_iff_ne.mpr c41
                                        have c41b1 : (t202.toList != t205.toList) = true := bne_iff_ne.mpr c41
                                        obtain rfl := Option.some.inj H
                                        have p201 : 0 ≤ (x97_5 : Int) := of_decide_eq_true (by first | (with_reducible assumption) | assumption)
                                        have q201 : x97_5 < (l1.length : Int) := of_decide_eq_true (by first | (with_reducible assumption) | assumption)
                                        obtain ⟨ad201, e201, hx201_0⟩ := Kd.at_string HR1.out x97_5 p201 q201
                                        cases e201
                                        replace hx201_0 := (HB.out.cell (World.block_lt_of_cell? w _ hx201_0)).trans hx201_0
                                        replace p201 := eq_true p201
                                        replace q201 := eq_true q201
                                        go_wp2_with (first | ((with_reducible refine gate_callee (f := 19) rfl ?_); refine goesL_ (some 105) rfl rfl Try.func19 (by kernel_rfl) rfl #[.string (rdOf ByteArray.empty l1 x97_5)] rfl (by (try simp only [List.map_toArray, List.map_cons, List.map_nil]); first | done | rfl | (simp only [List.length_drop, List.length_take]; rfl) | (simp (disch := omega) only [IntWalk.u64_in, IntWalk.i64_in, IntWalk.u8_in]; rfl)) ?_; (with_reducible refine (frame_Make.calls k5 (rdOf ByteArray.empty l1 x97_5) t202 t203 _ A39.out).mono ?_); rintro e w47 ⟨rfl, hb⟩; refine ⟨_, rfl, ?_⟩; have n0_ := Aside0.mk (below_step (by repeat (first | (with_reducible first | exact HB.out | apply below_alloc | apply pw_below_drewN | apply below_drew1) | exact HB.out)) hb); clear HB; have HB := n0_; clear n0_; (try clear hb); (try clear hb2); (try clear hk); (try clear hi); (try clear A39); have p204 : 0 ≤ (x97_5 : Int) := of_decide_eq_true (by first | (with_reducible assumption) | assumption); have q204 : x97_5 < (l1.length : Int) := of_decide_eq_true (by first | (with_reducible assumption) | assumption); obtain ⟨ad204, e204, hx204_0⟩ := Kd.at_string HR1.out x97_5 p204 q204; obtain rfl : ad201 = ad204 := (by injection e204); replace hx204_0 := (HB.out.cell (World.block_lt_of_cell? w _ hx204_0)).trans hx204_0; replace p204 := eq_true p204; replace q204 := eq_true q204) | ((with_reducible refine gate_callee (f := 20) rfl ?_); refine goesL_ (some 113) rfl rfl Try.func20 (by kernel_rfl) rfl #[.string (rdOf ByteArray.empty l1 x97_5)] rfl (by (try simp only [List.map_toArray, List.map_cons, List.map_nil]); first | done | rfl | (simp only [List.length_drop, List.length_take]; rfl) | (simp (disch := omega) only [IntWalk.u64_in, IntWalk.i64_in, IntWalk.u8_in]; rfl)) ?_; (with_reducible refine (screeref04_Make.calls k5 (rdOf ByteArray.empty l1 x97_5) t205 t206 _ A40.out).mono ?_); rintro e w48 ⟨rfl, hb⟩; refine ⟨_, rfl, ?_⟩; have n0_ := Aside0.mk (below_step (by repeat (first | (with_reducible first | exact HB.out | apply below_alloc | apply pw_below_drewN | apply below_drew1) | exact HB.out)) hb); clear HB; have HB := n0_; clear n0_; (try clear hb); (try clear hb2); (try clear hk); (try clear hi); (try clear A40)))
                                        go_ret
                                        exact ⟨by first | rfl | (simp [errW_none, errW_some] <;> rfl) | (simp (disch := omega) only [← i64_w, IntWalk.i64_in]; rfl) | (simp [*, errW_none, errW_some] <;> rfl), by repeat (first | (with_reducible first | exact HB.out | apply below_alloc | apply pw_below_drewN | apply below_drew1) | exact HB.out)⟩
                                    · rw [if_neg c38] at H
                                      exact absurd H (by simp)
                                  · rw [if_neg c37] at H
                                    exact absurd H (by simp)
                                · rw [if_neg c36] at H
                                  have c36b0 : decide (x97_5 < (l1.length : Int)) = false := decide_eq_false c36
                                  clear c36
                                  obtain rfl := Option.some.inj H
                                  go_wp2
                                  go_ret
                                  exact ⟨by first | rfl | (simp [errW_none, errW_some] <;> rfl) | (simp (disch := omega) only [← i64_w, IntWalk.i64_in]; rfl) | (simp [*, errW_none, errW_some] <;> rfl), by repeat (first | (with_reducible first | exact HB.out | apply below_alloc | apply pw_below_drewN | apply below_drew1) | exact HB.out)⟩
  · replace c4 := Bool.eq_false_iff.mpr c4
    subst c4
    have H1 : (some false) = some r := by rw [if_neg (show ¬ (false = true) by decide)] at H; exact H
    clear H
    have H := H1
    clear H1
    obtain rfl := Option.some.inj H
    go_enter Try.func3, Try.ntmps3
    go_wp2_with (first | ((with_reducible refine gate_callee (f := 10) rfl ?_); refine goesL_ (some 24) rfl rfl Try.func10 (by kernel_rfl) rfl #[] rfl (by (try simp only [List.map_toArray, List.map_cons, List.map_nil]); first | done | rfl | (simp only [List.length_drop, List.length_take]; rfl) | (simp (disch := omega) only [IntWalk.u64_in, IntWalk.i64_in, IntWalk.u8_in]; rfl)) ?_; (with_reducible refine (screelaw04_awake.calls k  false _ A3.out).mono ?_); rintro e w49 ⟨rfl, hb⟩; refine ⟨_, rfl, ?_⟩; have n0_ := Aside0.mk (below_step (by repeat (first | (with_reducible first | exact HB.out | apply below_alloc | apply pw_below_drewN | apply below_drew1) | exact HB.out)) hb); clear HB; have HB := n0_; clear n0_; (try clear hb); (try clear hb2); (try clear hk); (try clear hi); (try clear A3)))
    go_ret
    exact ⟨by first | rfl | (simp [errW_none, errW_some] <;> rfl) | (simp (disch := omega) only [← i64_w, IntWalk.i64_in]; rfl) | (simp [*, errW_none, errW_some] <;> rfl), by repeat (first | (with_reducible first | exact HB.out | apply below_alloc | apply pw_below_drewN | apply below_drew1) | exact HB.out)⟩

end Go.Proofs.Ytkdecekmnbbbhaa.P
