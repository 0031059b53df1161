-- Printed by a program of this session's own (wip/tools/pprint.sh, over the kit's print, with given contracts): not typed by hand.
import Derived.Test.YtkdecekmnbbbhaaPx0
import Derived.Test.YtkdecekmnbbbhaaPx1
import Derived.Test.YtkdecekmnbbbhaaPx2
import Derived.Test.YtkdecekmnbbbhaaPx4
namespace Go.Proofs.Ytkdecekmnbbbhaa.P
open Go.RowKit Go.Proofs.YtkdecekmnbbbhaaW.PrintWords Go.Proofs.YtkdecekmnbbbhaaW.PrintLast Go.Proofs.YtkdecekmnbbbhaaW.PrintMore
attribute [local go_sem] max2_int min2_int max_two min_two max_three min_three max_four min_four   -- for this text's walks alone
set_option linter.unusedVariables false
set_option linter.unusedSimpArgs false

/-! ### screelaw04_FrameBack: function 4 -/
mutual
def screelaw04_FrameBack.j0 : Nat → List ByteArray → ByteArray → Bool → Option (Bool)
  | 0, _, _, _ => none
  | k + 1, x0, x1, x21 => if x21 = true then (some true) else ((frame_Join.f k x0).bind fun bt209 => (if bt209.2 = 0 then ((frame_All.f k bt209.1).bind fun bt211 => ((screelaw04_texts.f k x0 bt211.1).bind fun t215 => (if t215 = true then (if bt211.2 = (bt209.1.size : Int) then (screelaw04_FrameBack.j1 k x1) else (some false)) else (some false)))) else (if bt209.1.toList = ([] : List UInt8) then (screelaw04_FrameBack.j1 k x1) else (some false))))
def screelaw04_FrameBack.j1 : Nat → ByteArray → Option (Bool)
  | 0, _ => none
  | k + 1, x1 => (frame_All.f k x1).bind fun bt216 => (if bt216.2 < 0 then (some false) else (if bt216.2 > (x1.size : Int) then (some false) else ((frame_Join.f k bt216.1).bind fun bt220 => (if bt220.2 = 0 then (if 0 ≤ bt216.2 then (if bt216.2 ≤ (x1.size : Int) then (some (bt220.1.toList == (x1.extract 0 (bt216.2 : Int).toNat).toList)) else (none)) else (none)) else (some false)))))
end
def screelaw04_FrameBack.f (k : Nat) (l0 : List ByteArray) (a1 : ByteArray) : Option (Bool) := (screelaw04_awake.f k).bind fun t207 => (if t207 = true then (if (a1.size : Int) > 8192 then (screelaw04_FrameBack.j0 k l0 a1 true) else ((screelaw04_large.f k l0).bind fun t208 => (screelaw04_FrameBack.j0 k l0 a1 t208))) else (some false))
theorem screelaw04_FrameBack.mono_l : ∀ k, (∀ y0 y1 y2, LeO (screelaw04_FrameBack.j0 k y0 y1 y2) (screelaw04_FrameBack.j0 (k + 1) y0 y1 y2)) ∧ (∀ y0, LeO (screelaw04_FrameBack.j1 k y0) (screelaw04_FrameBack.j1 (k + 1) y0))
  | 0 => ⟨fun _ _ _ r h => by simp [screelaw04_FrameBack.j0] at h, fun _ r h => by simp [screelaw04_FrameBack.j1] at h⟩
  | k + 1 => by
    obtain ⟨ih0, ih1⟩ := screelaw04_FrameBack.mono_l k
    refine ⟨?_, ?_⟩
    · intro y0 y1 y2
      unfold screelaw04_FrameBack.j0
      repeat' first
      | (with_reducible exact ih0 _ _ _)
      | (with_reducible exact ih1 _)
      | (with_reducible exact frame_All.mono _ _)
      | (with_reducible exact frame_Join.mono _ _)
      | (with_reducible exact screelaw04_awake.mono _)
      | (with_reducible exact screelaw04_large.mono _ _)
      | (with_reducible exact screelaw04_texts.mono _ _ _)
      | (with_reducible exact LeO.refl _)
      | (with_reducible exact LeO.none _)
      | (with_reducible refine LeO.ite ?_ ?_)
      | (with_reducible refine LeO.bind ?_ (fun _ => ?_))
      | exact ih0 _ _ _
      | exact ih1 _
      | exact frame_All.mono _ _
      | exact frame_Join.mono _ _
      | exact screelaw04_awake.mono _
      | exact screelaw04_large.mono _ _
      | exact screelaw04_texts.mono _ _ _
      | exact LeO.none _
      | refine LeO.ite ?_ ?_
      | refine LeO.bind ?_ (fun _ => ?_)
    · intro y0
      unfold screelaw04_FrameBack.j1
      repeat' first
      | (with_reducible exact ih0 _ _ _)
      | (with_reducible exact ih1 _)
      | (with_reducible exact frame_All.mono _ _)
      | (with_reducible exact frame_Join.mono _ _)
      | (with_reducible exact screelaw04_awake.mono _)
      | (with_reducible exact screelaw04_large.mono _ _)
      | (with_reducible exact screelaw04_texts.mono _ _ _)
      | (with_reducible exact LeO.refl _)
      | (with_reducible exact LeO.none _)
      | (with_reducible refine LeO.ite ?_ ?_)
      | (with_reducible refine LeO.bind ?_ (fun _ => ?_))
      | exact ih0 _ _ _
      | exact ih1 _
      | exact frame_All.mono _ _
      | exact frame_Join.mono _ _
      | exact screelaw04_awake.mono _
      | exact screelaw04_large.mono _ _
      | exact screelaw04_texts.mono _ _ _
      | exact LeO.none _
      | refine LeO.ite ?_ ?_
      | refine LeO.bind ?_ (fun _ => ?_)
theorem screelaw04_FrameBack.mono : ∀ a0 a1 k, LeO (screelaw04_FrameBack.f k a0 a1) (screelaw04_FrameBack.f (k + 1) a0 a1) := by
  intro a0 a1 k
  obtain ⟨ih0, ih1⟩ := screelaw04_FrameBack.mono_l k
  unfold screelaw04_FrameBack.f
  repeat' first
      | (with_reducible exact ih0 _ _ _)
      | (with_reducible exact ih1 _)
      | (with_reducible exact frame_All.mono _ _)
      | (with_reducible exact frame_Join.mono _ _)
      | (with_reducible exact screelaw04_awake.mono _)
      | (with_reducible exact screelaw04_large.mono _ _)
      | (with_reducible exact screelaw04_texts.mono _ _ _)
      | (with_reducible exact LeO.refl _)
      | (with_reducible exact LeO.none _)
      | (with_reducible refine LeO.ite ?_ ?_)
      | (with_reducible refine LeO.bind ?_ (fun _ => ?_))
      | exact ih0 _ _ _
      | exact ih1 _
      | exact frame_All.mono _ _
      | exact frame_Join.mono _ _
      | exact screelaw04_awake.mono _
      | exact screelaw04_large.mono _ _
      | exact screelaw04_texts.mono _ _ _
      | exact LeO.none _
      | refine LeO.ite ?_ ?_
      | refine LeO.bind ?_ (fun _ => ?_)
set_option maxHeartbeats 8000000 in
set_option maxRecDepth 100000 in
theorem screelaw04_FrameBack.calls (k : Nat) (A0 : Option Addr) (c0 : Nat) (l0 : List ByteArray) (a1 : ByteArray) (r : Bool) (w : World) (hr0 : Kd.C Kd.string w A0 l0.length l0) (hc0 : l0.length ≤ c0) (h : screelaw04_FrameBack.f k l0 a1 = some r) :
    Calls Try.prog 4 #[.slice A0 l0.length c0, .string a1] w fun e w' => e = .returned (.bool r) ∧ Below w.heap.size w w' := by
  have HR0 := Aside0.mk hr0
  have HC0 := Aside0.mk hc0
  clear hr0 hc0
  have HB := Aside0.mk (Below.refl w.heap.size w)
  have H : ((screelaw04_awake.f k).bind fun t207 => (if t207 = true then (if (a1.size : Int) > 8192 then (screelaw04_FrameBack.j0 k l0 a1 true) else ((screelaw04_large.f k l0).bind fun t208 => (screelaw04_FrameBack.j0 k l0 a1 t208))) else (some false))) = some r := h
  clear h
  replace H := Option.bind_eq_some_iff.mp H
  obtain ⟨t207, A30, H⟩ := H
  replace H : (if t207 = true then (if (a1.size : Int) > 8192 then (screelaw04_FrameBack.j0 k l0 a1 true) else ((screelaw04_large.f k l0).bind fun t208 => (screelaw04_FrameBack.j0 k l0 a1 t208))) else (some false)) = some r := H
  have A3 := Aside0.mk A30
  clear A30
  by_cases c4 : t207 = true
  · subst c4
    have H1 : (if (a1.size : Int) > 8192 then (screelaw04_FrameBack.j0 k l0 a1 true) else ((screelaw04_large.f k l0).bind fun t208 => (screelaw04_FrameBack.j0 k l0 a1 t208))) = some r := by rw [if_pos rfl] at H; exact H
    clear H
    have H := H1
    clear H1
    have HC5 := Aside0.mk H
    clear H
    go_enter Try.func4, Try.ntmps4
    go_upto_region 3 with (first | ((with_reducible refine gate_callee (f := 10) rfl ?_); refine goesL_ (some 13) rfl rfl Try.func10 (by kernel_rfl) rfl #[] rfl (by (try simp only [List.map_toArray, List.map_cons, List.map_nil]); first | done | rfl | (simp only [List.length_drop, List.length_take]; rfl) | (simp (disch := omega) only [IntWalk.u64_in, IntWalk.i64_in, IntWalk.u8_in]; rfl)) ?_; (with_reducible refine (screelaw04_awake.calls k  true _ A3.out).mono ?_); rintro e w6 ⟨rfl, hb⟩; refine ⟨_, rfl, ?_⟩; have n0_ := Aside0.mk (below_step (by repeat (first | (with_reducible first | exact HB.out | apply below_alloc | apply pw_below_drewN | apply below_drew1) | exact HB.out)) hb); clear HB; have HB := n0_; clear n0_; (try clear hb); (try clear hb2); (try clear hk); (try clear hi); (try clear A3)))
    (try simp only [Act.put, List.setIfInBounds_toArray, List.set_cons_zero, List.set_cons_succ])
    go_cut [21] (fun v21 wc => ∃ (kq : Nat) (x21_4 : Bool), v21 = .bool x21_4 ∧ Aside0 (screelaw04_FrameBack.j0 kq l0 a1 x21_4 = some r) ∧ Aside0 (kq ≤ k) ∧ Aside0 (Below w.heap.size w wc))
    case first =>
      have H := HC5.out
      clear HC5
      by_cases c7 : (a1.size : Int) > 8192
      · rw [if_pos c7] at H
        have c7b0 : decide (8192 < (a1.size : Int)) = true := decide_eq_true c7
        have c7b1 : decide (8192 < a1.size) = true := decide_eq_true (by omega)
        clear c7
        (first | rw [c7b0] | (simp only [i64_w, i32_w]; rw [c7b0]) | skip)
        have H' := Aside0.mk H
        clear H
        go_wp2
        go_meet
        case rel => exact ⟨_, (true), (by first | rfl | (simp; done) | (simp [*]; done)), (by first | (with_reducible exact H') | exact H' | (subst_vars; exact H')), ⟨by first | omega | exact Nat.le_refl _⟩, ⟨by repeat (first | (with_reducible first | exact HB.out | apply below_alloc | apply pw_below_drewN | apply below_drew1) | exact HB.out)⟩⟩
      · rw [if_neg c7] at H
        have c7b0 : decide (8192 < (a1.size : Int)) = false := decide_eq_false c7
        have c7b1 : decide (8192 < a1.size) = false := decide_eq_false (by omega)
        clear c7
        (first | rw [c7b0] | (simp only [i64_w, i32_w]; rw [c7b0]) | skip)
        replace H := Option.bind_eq_some_iff.mp H
        obtain ⟨t208, A80, H⟩ := H
        replace H : (screelaw04_FrameBack.j0 k l0 a1 t208) = some r := H
        have A8 := Aside0.mk A80
        clear A80
        have H' := Aside0.mk H
        clear H
        go_wp2_with (first | (go_at_call 11; (with_reducible refine (screelaw04_large.calls k _ _ l0 t208 _ ?side1 ?side2 A8.out).mono ?_); (case side1 => repeat (first | exact (Kd.C_below HR0.out HB.out) | (with_reducible refine Kd.C_alloc ?_ _) | (with_reducible refine Kd.C_drewN ?_ _) | (with_reducible refine Kd.C_drew ?_))); (case side2 => exact HC0.out); rintro e w' ⟨rfl, ⟨nd, rfl⟩⟩))
        go_meet
        case rel => exact ⟨_, (t208), (by first | rfl | (simp; done) | (simp [*]; done)), (by first | (with_reducible exact H') | exact H' | (subst_vars; exact H')), ⟨by first | omega | exact Nat.le_refl _⟩, ⟨by repeat (first | (with_reducible first | exact HB.out | apply below_alloc | apply pw_below_drewN | apply below_drew1) | exact HB.out)⟩⟩
    case rest =>
      clear HC5
      try clear c1
      try clear p2
      try clear c4
      try clear c7
      try clear c7b0
      try clear c7b1
      obtain ⟨kq, x21_4, rfl, HA, HJ4, HB⟩ := hcut
      cases kq with
      | zero => exact absurd HA.out (by simp [screelaw04_FrameBack.j0])
      | succ kj4 =>
        have H := HA.out
        clear HA
        simp only [screelaw04_FrameBack.j0] at H
        by_cases c9 : x21_4 = true
        · subst c9
          have H1 : (some true) = some r := by rw [if_pos rfl] at H; exact H
          clear H
          have H := H1
          clear H1
          obtain rfl := Option.some.inj H
          go_wp2
          go_ret
          exact ⟨by first | rfl | (simp [errW_none, errW_some] <;> rfl) | (simp (disch := omega) only [← i64_w, IntWalk.i64_in]; rfl) | (simp [*, errW_none, errW_some] <;> rfl), by repeat (first | (with_reducible first | exact HB.out | apply below_alloc | apply pw_below_drewN | apply below_drew1) | exact HB.out)⟩
        · replace c9 := Bool.eq_false_iff.mpr c9
          subst c9
          have H1 : ((frame_Join.f kj4 l0).bind fun bt209 => (if bt209.2 = 0 then ((frame_All.f kj4 bt209.1).bind fun bt211 => ((screelaw04_texts.f kj4 l0 bt211.1).bind fun t215 => (if t215 = true then (if bt211.2 = (bt209.1.size : Int) then (screelaw04_FrameBack.j1 kj4 a1) else (some false)) else (some false)))) else (if bt209.1.toList = ([] : List UInt8) then (screelaw04_FrameBack.j1 kj4 a1) else (some false)))) = some r := by rw [if_neg (show ¬ (false = true) by decide)] at H; exact H
          clear H
          have H := H1
          clear H1
          replace H := Option.bind_eq_some_iff.mp H
          obtain ⟨⟨t209, t210⟩, A100, H⟩ := H
          replace H : (if t210 = 0 then ((frame_All.f kj4 t209).bind fun bt211 => ((screelaw04_texts.f kj4 l0 bt211.1).bind fun t215 => (if t215 = true then (if bt211.2 = (t209.size : Int) then (screelaw04_FrameBack.j1 kj4 a1) else (some false)) else (some false)))) else (if t209.toList = ([] : List UInt8) then (screelaw04_FrameBack.j1 kj4 a1) else (some false))) = some r := H
          have A10 := Aside0.mk A100
          clear A100
          have HC11 := Aside0.mk H
          clear H
          go_upto_if 28 with (first | ((with_reducible refine gate_callee (f := 17) rfl ?_); refine goesL_ (some 24) rfl rfl Try.func17 (by kernel_rfl) rfl #[.slice A0 l0.length c0] rfl (by (try simp only [List.map_toArray, List.map_cons, List.map_nil]); first | done | rfl | (simp only [List.length_drop, List.length_take]; rfl) | (simp (disch := omega) only [IntWalk.u64_in, IntWalk.i64_in, IntWalk.u8_in]; rfl)) ?_; (with_reducible refine (frame_Join.calls kj4 _ _ l0 t209 t210 _ ?side1 ?side2 A10.out).mono ?_); (case side1 => repeat (first | exact (Kd.C_below HR0.out HB.out) | (with_reducible refine Kd.C_alloc ?_ _) | (with_reducible refine Kd.C_drewN ?_ _) | (with_reducible refine Kd.C_drew ?_))); (case side2 => exact HC0.out); rintro e w12 ⟨rfl, hb⟩; refine ⟨_, rfl, ?_⟩; have n0_ := Aside0.mk (below_step (by repeat (first | (with_reducible first | exact HB.out | apply below_alloc | apply pw_below_drewN | apply below_drew1) | exact HB.out)) hb); clear HB; have HB := n0_; clear n0_; (try clear hb); (try clear hb2); (try clear hk); (try clear hi); (try clear A10)))
          (try simp only [Act.put, List.setIfInBounds_toArray, List.set_cons_zero, List.set_cons_succ])
          go_cut [] (fun wc => ∃ (kq : Nat), Aside0 (screelaw04_FrameBack.j1 kq a1 = some r) ∧ Aside0 (kq ≤ kj4) ∧ Aside0 (Below w.heap.size w wc))
          case first =>
            have H := HC11.out
            clear HC11
            by_cases c13 : t210 = 0
            · rw [if_pos c13] at H
              have c13b0 : (t210 == 0) = true := beq_iff_eq.mpr c13
              have c13b1 : (t210 != 0) = false := bne_eq_false_iff_eq.mpr c13
              clear c13
              (first | rw [c13b0] | (simp only [i64_w, i32_w]; rw [c13b0]) | skip)
              replace H := Option.bind_eq_some_iff.mp H
              obtain ⟨⟨t211, t212⟩, A140, H⟩ := H
              replace H : ((screelaw04_texts.f kj4 l0 t211).bind fun t215 => (if t215 = true then (if t212 = (t209.size : Int) then (screelaw04_FrameBack.j1 kj4 a1) else (some false)) else (some false))) = some r := H
              have A14 := Aside0.mk A140
              clear A140
              replace H := Option.bind_eq_some_iff.mp H
              obtain ⟨t215, A150, H⟩ := H
              replace H : (if t215 = true then (if t212 = (t209.size : Int) then (screelaw04_FrameBack.j1 kj4 a1) else (some false)) else (some false)) = some r := H
              have A15 := Aside0.mk A150
              clear A150
              by_cases c16 : t215 = true
              · subst c16
                have H1 : (if t212 = (t209.size : Int) then (screelaw04_FrameBack.j1 kj4 a1) else (some false)) = some r := by rw [if_pos rfl] at H; exact H
                clear H
                have H := H1
                clear H1
                by_cases c17 : t212 = (t209.size : Int)
                · rw [if_pos c17] at H
                  have c17b0 : (t212 == (t209.size : Int)) = true := beq_iff_eq.mpr c17
                  have c17b1 : (t212 != (t209.size : Int)) = false := bne_eq_false_iff_eq.mpr c17
                  clear c17
                  have H' := Aside0.mk H
                  clear H
                  go_wp2_with (first | ((with_reducible refine gate_callee (f := 12) rfl ?_); refine goesL_ (some 31) rfl rfl Try.func12 (by kernel_rfl) rfl #[.string t209] rfl (by (try simp only [List.map_toArray, List.map_cons, List.map_nil]); first | done | rfl | (simp only [List.length_drop, List.length_take]; rfl) | (simp (disch := omega) only [IntWalk.u64_in, IntWalk.i64_in, IntWalk.u8_in]; rfl)) ?_; (with_reducible refine (frame_All.calls kj4 t209 t211 t212 _ A14.out).mono ?_); rintro e w18 ⟨v213, rfl, ho0, hb⟩; refine ⟨_, rfl, ?_⟩; have n0_ := Aside0.mk (Kd.R_lower ho0 (below_size (by repeat (first | (with_reducible first | exact HB.out | apply below_alloc | apply pw_below_drewN | apply below_drew1) | exact HB.out)))); have n1_ := Aside0.mk (below_step (by repeat (first | (with_reducible first | exact HB.out | apply below_alloc | apply pw_below_drewN | apply below_drew1) | exact HB.out)) hb); clear HB; have HO214 := n0_; have HB := n1_; clear n0_ n1_; (try clear hb); (try clear hb2); (try clear hk); (try clear hi); (try clear ho0); (try clear A14); obtain ⟨Ao19, co19, eo19⟩ := Kd.R_slice HO214.out; subst eo19) | ((with_reducible refine gate_callee (f := 14) rfl ?_); refine goesL_ (some 36) rfl rfl Try.func14 (by kernel_rfl) rfl #[.slice A0 l0.length c0, .slice Ao19 t211.length co19] rfl (by (try simp only [List.map_toArray, List.map_cons, List.map_nil]); first | done | rfl | (simp only [List.length_drop, List.length_take]; rfl) | (simp (disch := omega) only [IntWalk.u64_in, IntWalk.i64_in, IntWalk.u8_in]; rfl)) ?_; (with_reducible refine (screelaw04_texts.calls kj4 _ _ l0 _ _ t211 true _ ?side1 ?side2 ?side3 ?side4 A15.out).mono ?_); (case side1 => repeat (first | exact (Kd.C_below HR0.out HB.out) | (with_reducible refine Kd.C_alloc ?_ _) | (with_reducible refine Kd.C_drewN ?_ _) | (with_reducible refine Kd.C_drew ?_))); (case side2 => exact HC0.out); (case side3 => repeat (first | exact (Kd.R_reads' HO214.out).2.2 | (with_reducible refine Kd.C_alloc ?_ _) | (with_reducible refine Kd.C_drewN ?_ _) | (with_reducible refine Kd.C_drew ?_))); (case side4 => exact (Kd.R_reads' HO214.out).2.1); rintro e w' ⟨rfl, ⟨nd, rfl⟩⟩; refine ⟨_, rfl, ?_⟩))
                  go_meet
                  case rel => exact ⟨_, (by first | (with_reducible exact H') | exact H' | (subst_vars; exact H')), ⟨by have := HJ4.out; first | omega | exact Nat.le_refl _⟩, ⟨by repeat (first | (with_reducible first | exact HB.out | apply below_alloc | apply pw_below_drewN | apply below_drew1) | exact HB.out)⟩⟩
                · rw [if_neg c17] at H
                  have c17b0 : (t212 == (t209.size : Int)) = false := beq_eq_false_iff_ne.mpr c17
                  have c17b1 : (t212 != (t209.size : Int)) = true := bne_iff_ne.mpr c17
                  obtain rfl := Option.some.inj H
                  go_wp2_with (first | ((with_reducible refine gate_callee (f := 12) rfl ?_); refine goesL_ (some 31) rfl rfl Try.func12 (by kernel_rfl) rfl #[.string t209] rfl (by (try simp only [List.map_toArray, List.map_cons, List.map_nil]); first | done | rfl | (simp only [List.length_drop, List.length_take]; rfl) | (simp (disch := omega) only [IntWalk.u64_in, IntWalk.i64_in, IntWalk.u8_in]; rfl)) ?_; (with_reducible refine (frame_All.calls kj4 t209 t211 t212 _ A14.out).mono ?_); rintro e w20 ⟨v213, rfl, ho0, hb⟩; refine ⟨_, rfl, ?_⟩; have n0_ := Aside0.mk (Kd.R_lower ho0 (below_size (by repeat (first | (with_reducible first | exact HB.out | apply below_alloc | apply pw_below_drewN | apply below_drew1) | exact HB.out)))); have n1_ := Aside0.mk (below_step (by repeat (first | (with_reducible first | exact HB.out | apply below_alloc | apply pw_below_drewN | apply below_drew1) | exact HB.out)) hb); clear HB; have HO214 := n0_; have HB := n1_; clear n0_ n1_; (try clear hb); (try clear hb2); (try clear hk); (try clear hi); (try clear ho0); (try clear A14); obtain ⟨Ao21, co21, eo21⟩ := Kd.R_slice HO214.out; subst eo21) | ((with_reducible refine gate_callee (f := 14) rfl ?_); refine goesL_ (some 36) rfl rfl Try.func14 (by kernel_rfl) rfl #[.slice A0 l0.length c0, .slice Ao21 t211.length co21] rfl (by (try simp only [List.map_toArray, List.map_cons, List.map_nil]); first | done | rfl | (simp only [List.length_drop, List.length_take]; rfl) | (simp (disch := omega) only [IntWalk.u64_in, IntWalk.i64_in, IntWalk.u8_in]; rfl)) ?_; (with_reducible refine (screelaw04_texts.calls kj4 _ _ l0 _ _ t211 true _ ?side1 ?side2 ?side3 ?side4 A15.out).mono ?_); (case side1 => repeat (first | exact (Kd.C_below HR0.out HB.out) | (with_reducible refine Kd.C_alloc ?_ _) | (with_reducible refine Kd.C_drewN ?_ _) | (with_reducible refine Kd.C_drew ?_))); (case side2 => exact HC0.out); (case side3 => repeat (first | exact (Kd.R_reads' HO214.out).2.2 | (with_reducible refine Kd.C_alloc ?_ _) | (with_reducible refine Kd.C_drewN ?_ _) | (with_reducible refine Kd.C_drew ?_))); (case side4 => exact (Kd.R_reads' HO214.out).2.1); rintro e w' ⟨rfl, ⟨nd, rfl⟩⟩; refine ⟨_, rfl, ?_⟩))
                  go_ret
                  exact ⟨by first | rfl | (simp [errW_none, errW_some] <;> rfl) | (simp (disch := omega) only [← i64_w, IntWalk.i64_in]; rfl) | (simp [*, errW_none, errW_some] <;> rfl), by repeat (first | (with_reducible first | exact HB.out | apply below_alloc | apply pw_below_drewN | apply below_drew1) | exact HB.out)⟩
              · replace c16 := Bool.eq_false_iff.mpr c16
                subst c16
                have H1 : (some false) = some r := by rw [if_neg (show ¬ (false = true) by decide)] at H; exact H
                clear H
                have H := H1
                clear H1
                obtain rfl := Option.some.inj H
                go_wp2_with (first | ((with_reducible refine gate_callee (f := 12) rfl ?_); refine goesL_ (some 31) rfl rfl Try.func12 (by kernel_rfl) rfl #[.string t209] rfl (by (try simp only [List.map_toArray, List.map_cons, List.map_nil]); first | done | rfl | (simp only [List.length_drop, List.length_take]; rfl) | (simp (disch := omega) only [IntWalk.u64_in, IntWalk.i64_in, IntWalk.u8_in]; rfl)) ?_; (with_reducible refine (frame_All.calls kj4 t209 t211 t212 _ A14.out).mono ?_); rintro e w22 ⟨v213, rfl, ho0, hb⟩; refine ⟨_, rfl, ?_⟩; have n0_ := Aside0.mk (Kd.R_lower ho0 (below_size (by repeat (first | (with_reducible first | exact HB.out | apply below_alloc | apply pw_below_drewN | apply below_drew1) | exact HB.out)))); have n1_ := Aside0.mk (below_step (by repeat (first | (with_reducible first | exact HB.out | apply below_alloc | apply pw_below_drewN | apply below_drew1) | exact HB.out)) hb); clear HB; have HO214 := n0_; have HB := n1_; clear n0_ n1_; (try clear hb); (try clear hb2); (try clear hk); (try clear hi); (try clear ho0); (try clear A14); obtain ⟨Ao23, co23, eo23⟩ := Kd.R_slice HO214.out; subst eo23) | ((with_reducible refine gate_callee (f := 14) rfl ?_); refine goesL_ (some 36) rfl rfl Try.func14 (by kernel_rfl) rfl #[.slice A0 l0.length c0, .slice Ao23 t211.length co23] rfl (by (try simp only [List.map_toArray, List.map_cons, List.map_nil]); first | done | rfl | (simp only [List.length_drop, List.length_take]; rfl) | (simp (disch := omega) only [IntWalk.u64_in, IntWalk.i64_in, IntWalk.u8_in]; rfl)) ?_; (with_reducible refine (screelaw04_texts.calls kj4 _ _ l0 _ _ t211 false _ ?side1 ?side2 ?side3 ?side4 A15.out).mono ?_); (case side1 => repeat (first | exact (Kd.C_below HR0.out HB.out) | (with_reducible refine Kd.C_alloc ?_ _) | (with_reducible refine Kd.C_drewN ?_ _) | (with_reducible refine Kd.C_drew ?_))); (case side2 => exact HC0.out); (case side3 => repeat (first | exact (Kd.R_reads' HO214.out).2.2 | (with_reducible refine Kd.C_alloc ?_ _) | (with_reducible refine Kd.C_drewN ?_ _) | (with_reducible refine Kd.C_drew ?_))); (case side4 => exact (Kd.R_reads' HO214.out).2.1); rintro e w' ⟨rfl, ⟨nd, rfl⟩⟩; refine ⟨_, rfl, ?_⟩))
                go_ret
                exact ⟨by first | rfl | (simp [errW_none, errW_some] <;> rfl) | (simp (disch := omega) only [← i64_w, IntWalk.i64_in]; rfl) | (simp [*, errW_none, errW_some] <;> rfl), by repeat (first | (with_reducible first | exact HB.out | apply below_alloc | apply pw_below_drewN | apply below_drew1) | exact HB.out)⟩
            · rw [if_neg c13] at H
              have c13b0 : (t210 == 0) = false := beq_eq_false_iff_ne.mpr c13
              have c13b1 : (t210 != 0) = true := bne_iff_ne.mpr c13
              (first | rw [c13b0] | (simp only [i64_w, i32_w]; rw [c13b0]) | skip)
              by_cases c24 : t209.toList = ([] : List UInt8)
              · rw [if_pos c24] at H
                have c24b0 : (t209.toList == ([] : List UInt8)) = true := beq_iff_eq.mpr c24
                have c24b1 : (t209.toList != ([] : List UInt8)) = false := bne_eq_false_iff_eq.mpr c24
                clear c24
                have H' := Aside0.mk H
                clear H
                go_wp2
                go_meet
                case rel => exact ⟨_, (by first | (with_reducible exact H') | exact H' | (subst_vars; exact H')), ⟨by have := HJ4.out; first | omega | exact Nat.le_refl _⟩, ⟨by repeat (first | (with_reducible first | exact HB.out | apply below_alloc | apply pw_below_drewN | apply below_drew1) | exact HB.out)⟩⟩
              · rw [if_neg c24] at H
                have c24b0 : (t209.toList == ([] : List UInt8)) = false := beq_eq_false_iff_ne.mpr c24
                have c24b1 : (t209.toList != ([] : List UInt8)) = true := bne_iff_ne.mpr c24
                obtain rfl := Option.some.inj H
                go_wp2
                go_ret
                exact ⟨by first | rfl | (simp [errW_none, errW_some] <;> rfl) | (simp (disch := omega) only [← i64_w, IntWalk.i64_in]; rfl) | (simp [*, errW_none, errW_some] <;> rfl), by repeat (first | (with_reducible first | exact HB.out | apply below_alloc | apply pw_below_drewN | apply below_drew1) | exact HB.out)⟩
          case rest =>
            clear HC11
            try clear c1
            try clear c2
            try clear p2
            try clear c4
            try clear c7
            try clear c7b0
            try clear c7b1
            try clear c9
            try clear c10
            try clear c12
            try clear c13
            try clear c13b0
            try clear c13b1
            try clear c14
            try clear c16
            try clear c17
            try clear c17b0
            try clear c17b1
            try clear c24
            try clear c24b0
            try clear c24b1
            try clear p2
            obtain ⟨kq, HA, HJ10, HB⟩ := hcut
            cases kq with
            | zero => exact absurd HA.out (by simp [screelaw04_FrameBack.j1])
            | succ kj10 =>
              have H := HA.out
              clear HA
              simp only [screelaw04_FrameBack.j1] at H
              replace H := Option.bind_eq_some_iff.mp H
              obtain ⟨⟨t216, t217⟩, A250, H⟩ := H
              replace H : (if t217 < 0 then (some false) else (if t217 > (a1.size : Int) then (some false) else ((frame_Join.f kj10 t216).bind fun bt220 => (if bt220.2 = 0 then (if 0 ≤ t217 then (if t217 ≤ (a1.size : Int) then (some (bt220.1.toList == (a1.extract 0 (t217 : Int).toNat).toList)) else (none)) else (none)) else (some false))))) = some r := H
              have A25 := Aside0.mk A250
              clear A250
              by_cases c26 : t217 < 0
              · rw [if_pos c26] at H
                have c26b0 : decide (t217 < 0) = true := decide_eq_true c26
                clear c26
                obtain rfl := Option.some.inj H
                go_wp2_with (first | ((with_reducible refine gate_callee (f := 12) rfl ?_); refine goesL_ (some 48) rfl rfl Try.func12 (by kernel_rfl) rfl #[.string a1] rfl (by (try simp only [List.map_toArray, List.map_cons, List.map_nil]); first | done | rfl | (simp only [List.length_drop, List.length_take]; rfl) | (simp (disch := omega) only [IntWalk.u64_in, IntWalk.i64_in, IntWalk.u8_in]; rfl)) ?_; (with_reducible refine (frame_All.calls kj10 a1 t216 t217 _ A25.out).mono ?_); rintro e w27 ⟨v218, rfl, ho0, hb⟩; refine ⟨_, rfl, ?_⟩; have n0_ := Aside0.mk (Kd.R_lower ho0 (below_size (by repeat (first | (with_reducible first | exact HB.out | apply below_alloc | apply pw_below_drewN | apply below_drew1) | exact HB.out)))); have n1_ := Aside0.mk (below_step (by repeat (first | (with_reducible first | exact HB.out | apply below_alloc | apply pw_below_drewN | apply below_drew1) | exact HB.out)) hb); clear HB; have HO219 := n0_; have HB := n1_; clear n0_ n1_; (try clear hb); (try clear hb2); (try clear hk); (try clear hi); (try clear ho0); (try clear A25)))
                go_ret
                exact ⟨by first | rfl | (simp [errW_none, errW_some] <;> rfl) | (simp (disch := omega) only [← i64_w, IntWalk.i64_in]; rfl) | (simp [*, errW_none, errW_some] <;> rfl), by repeat (first | (with_reducible first | exact HB.out | apply below_alloc | apply pw_below_drewN | apply below_drew1) | exact HB.out)⟩
              · rw [if_neg c26] at H
                have c26b0 : decide (t217 < 0) = false := decide_eq_false c26
                clear c26
                by_cases c28 : t217 > (a1.size : Int)
                · rw [if_pos c28] at H
                  have c28b0 : decide ((a1.size : Int) < t217) = true := decide_eq_true c28
                  clear c28
                  obtain rfl := Option.some.inj H
                  go_wp2_with (first | ((with_reducible refine gate_callee (f := 12) rfl ?_); refine goesL_ (some 48) rfl rfl Try.func12 (by kernel_rfl) rfl #[.string a1] rfl (by (try simp only [List.map_toArray, List.map_cons, List.map_nil]); first | done | rfl | (simp only [List.length_drop, List.length_take]; rfl) | (simp (disch := omega) only [IntWalk.u64_in, IntWalk.i64_in, IntWalk.u8_in]; rfl)) ?_; (with_reducible refine (frame_All.calls kj10 a1 t216 t217 _ A25.out).mono ?_); rintro e w29 ⟨v218, rfl, ho0, hb⟩; refine ⟨_, rfl, ?_⟩; have n0_ := Aside0.mk (Kd.R_lower ho0 (below_size (by repeat (first | (with_reducible first | exact HB.out | apply below_alloc | apply pw_below_drewN | apply below_drew1) | exact HB.out)))); have n1_ := Aside0.mk (below_step (by repeat (first | (with_reducible first | exact HB.out | apply below_alloc | apply pw_below_drewN | apply below_drew1) | exact HB.out)) hb); clear HB; have HO219 := n0_; have HB := n1_; clear n0_ n1_; (try clear hb); (try clear hb2); (try clear hk); (try clear hi); (try clear ho0); (try clear A25)))
                  go_ret
                  exact ⟨by first | rfl | (simp [errW_none, errW_some] <;> rfl) | (simp (disch := omega) only [← i64_w, IntWalk.i64_in]; rfl) | (simp [*, errW_none, errW_some] <;> rfl), by repeat (first | (with_reducible first | exact HB.out | apply below_alloc | apply pw_below_drewN | apply below_drew1) | exact HB.out)⟩
                · rw [if_neg c28] at H
                  have c28b0 : decide ((a1.size : Int) < t217) = false := decide_eq_false c28
                  clear c28
                  replace H := Option.bind_eq_some_iff.mp H
                  obtain ⟨⟨t220, t221⟩, A300, H⟩ := H
                  replace H : (if t221 = 0 then (if 0 ≤ t217 then (if t217 ≤ (a1.size : Int) then (some (t220.toList == (a1.extract 0 (t217 : Int).toNat).toList)) else (none)) else (none)) else (some false)) = some r := H
                  have A30 := Aside0.mk A300
                  clear A300
                  by_cases c31 : t221 = 0
                  · rw [if_pos c31] at H
                    have c31b0 : (t221 == 0) = true := beq_iff_eq.mpr c31
                    have c31b1 : (t221 != 0) = false := bne_eq_false_iff_eq.mpr c31
                    clear c31
                    by_cases c32 : 0 ≤ t217
                    · rw [if_pos c32] at H
                      have c32b0 := eq_true c32
                      have c32b1 : decide (0 ≤ t217) = true := decide_eq_true c32
                      clear c32
                      by_cases c33 : t217 ≤ (a1.size : Int)
                      · rw [if_pos c33] at H
                        have c33b0 := eq_true c33
                        have c33b1 : decide (t217 ≤ (a1.size : Int)) = true := decide_eq_true c33
                        clear c33
                        obtain rfl := Option.some.inj H
                        go_wp2_with (first | ((with_reducible refine gate_callee (f := 12) rfl ?_); refine goesL_ (some 48) rfl rfl Try.func12 (by kernel_rfl) rfl #[.string a1] rfl (by (try simp only [List.map_toArray, List.map_cons, List.map_nil]); first | done | rfl | (simp only [List.length_drop, List.length_take]; rfl) | (simp (disch := omega) only [IntWalk.u64_in, IntWalk.i64_in, IntWalk.u8_in]; rfl)) ?_; (with_reducible refine (frame_All.calls kj10 a1 t216 t217 _ A25.out).mono ?_); rintro e w34 ⟨v218, rfl, ho0, hb⟩; refine ⟨_, rfl, ?_⟩; have n0_ := Aside0.mk (Kd.R_lower ho0 (below_size (by repeat (first | (with_reducible first | exact HB.out | apply below_alloc | apply pw_below_drewN | apply below_drew1) | exact HB.out)))); have n1_ := Aside0.mk (below_step (by repeat (first | (with_reducible first | exact HB.out | apply below_alloc | apply pw_below_drewN | apply below_drew1) | exact HB.out)) hb); clear HB; have HO219 := n0_; have HB := n1_; clear n0_ n1_; (try clear hb); (try clear hb2); (try clear hk); (try clear hi); (try clear ho0); (try clear A25); obtain ⟨Ao35, co35, eo35⟩ := Kd.R_slice HO219.out; subst eo35) | ((with_reducible refine gate_callee (f := 17) rfl ?_); refine goesL_ (some 61) rfl rfl Try.func17 (by kernel_rfl) rfl #[.slice Ao35 t216.length co35] rfl (by (try simp only [List.map_toArray, List.map_cons, List.map_nil]); first | done | rfl | (simp only [List.length_drop, List.length_take]; rfl) | (simp (disch := omega) only [IntWalk.u64_in, IntWalk.i64_in, IntWalk.u8_in]; rfl)) ?_; (with_reducible refine (frame_Join.calls kj10 _ _ t216 t220 t221 _ ?side1 ?side2 A30.out).mono ?_); (case side1 => repeat (first | exact (Kd.R_reads' HO219.out).2.2 | (with_reducible refine Kd.C_alloc ?_ _) | (with_reducible refine Kd.C_drewN ?_ _) | (with_reducible refine Kd.C_drew ?_))); (case side2 => exact (Kd.R_reads' HO219.out).2.1); rintro e w36 ⟨rfl, hb⟩; refine ⟨_, rfl, ?_⟩; have n0_ := Aside0.mk (Kd.R_below (by (with_reducible repeat (first | apply Kd.R_alloc | apply Kd.R_drewN | apply Kd.R_drew)); exact HO219.out) hb); have n1_ := Aside0.mk (below_step (by repeat (first | (with_reducible first | exact HB.out | apply below_alloc | apply pw_below_drewN | apply below_drew1) | exact HB.out)) hb); clear HO219; clear HB; have HO219 := n0_; have HB := n1_; clear n0_ n1_; (try clear hb); (try clear hb2); (try clear hk); (try clear hi); (try clear A30)))
                        go_ret
                        exact ⟨by first | rfl | (simp [errW_none, errW_some] <;> rfl) | (simp (disch := omega) only [← i64_w, IntWalk.i64_in]; rfl) | (simp [*, errW_none, errW_some] <;> rfl), by repeat (first | (with_reducible first | exact HB.out | apply below_alloc | apply pw_below_drewN | apply below_drew1) | exact HB.out)⟩
                      · rw [if_neg c33] at H
                        exact absurd H (by simp)
                    · rw [if_neg c32] at H
                      exact absurd H (by simp)
                  · rw [if_neg c31] at H
                    have c31b0 : (t221 == 0) = false := beq_eq_false_iff_ne.mpr c31
                    have c31b1 : (t221 != 0) = true := bne_iff_ne.mpr c31
                    obtain rfl := Option.some.inj H
                    go_wp2_with (first | ((with_reducible refine gate_callee (f := 12) rfl ?_); refine goesL_ (some 48) rfl rfl Try.func12 (by kernel_rfl) rfl #[.string a1] rfl (by (try simp only [List.map_toArray, List.map_cons, List.map_nil]); first | done | rfl | (simp only [List.length_drop, List.length_take]; rfl) | (simp (disch := omega) only [IntWalk.u64_in, IntWalk.i64_in, IntWalk.u8_in]; rfl)) ?_; (with_reducible refine (frame_All.calls kj10 a1 t216 t217 _ A25.out).mono ?_); rintro e w37 ⟨v218, rfl, ho0, hb⟩; refine ⟨_, rfl, ?_⟩; have n0_ := Aside0.mk (Kd.R_lower ho0 (below_size (by repeat (first | (with_reducible first | exact HB.out | apply below_alloc | apply pw_below_drewN | apply below_drew1) | exact HB.out)))); have n1_ := Aside0.mk (below_step (by repeat (first | (with_reducible first | exact HB.out | apply below_alloc | apply pw_below_drewN | apply below_drew1) | exact HB.out)) hb); clear HB; have HO219 := n0_; have HB := n1_; clear n0_ n1_; (try clear hb); (try clear hb2); (try clear hk); (try clear hi); (try clear ho0); (try clear A25); obtain ⟨Ao38, co38, eo38⟩ := Kd.R_slice HO219.out; subst eo38) | ((with_reducible refine gate_callee (f := 17) rfl ?_); refine goesL_ (some 61) rfl rfl Try.func17 (by kernel_rfl) rfl #[.slice Ao38 t216.length co38] rfl (by (try simp only [List.map_toArray, List.map_cons, List.map_nil]); first | done | rfl | (simp only [List.length_drop, List.length_take]; rfl) | (simp (disch := omega) only [IntWalk.u64_in, IntWalk.i64_in, IntWalk.u8_in]; rfl)) ?_; (with_reducible refine (frame_Join.calls kj10 _ _ t216 t220 t221 _ ?side1 ?side2 A30.out).mono ?_); (case side1 => repeat (first | exact (Kd.R_reads' HO219.out).2.2 | (with_reducible refine Kd.C_alloc ?_ _) | (with_reducible refine Kd.C_drewN ?_ _) | (with_reducible refine Kd.C_drew ?_))); (case side2 => exact (Kd.R_reads' HO219.out).2.1); rintro e w39 ⟨rfl, hb⟩; refine ⟨_, rfl, ?_⟩; have n0_ := Aside0.mk (Kd.R_below (by (with_reducible repeat (first | apply Kd.R_alloc | apply Kd.R_drewN | apply Kd.R_drew)); exact HO219.out) hb); have n1_ := Aside0.mk (below_step (by repeat (first | (with_reducible first | exact HB.out | apply below_alloc | apply pw_below_drewN | apply below_drew1) | exact HB.out)) hb); clear HO219; clear HB; have HO219 := n0_; have HB := n1_; clear n0_ n1_; (try clear hb); (try clear hb2); (try clear hk); (try clear hi); (try clear A30)))
                    go_ret
                    exact ⟨by first | rfl | (simp [errW_none, errW_some] <;> rfl) | (simp (disch := omega) only [← i64_w, IntWalk.i64_in]; rfl) | (simp [*, errW_none, errW_some] <;> rfl), by repeat (first | (with_reducible first | exact HB.out | apply below_alloc | apply pw_below_drewN | apply below_drew1) | exact HB.out)⟩
  · replace c4 := Bool.eq_false_iff.mpr c4
    subst c4
    have H1 : (some false) = some r := by rw [if_neg (show ¬ (false = true) by decide)] at H; exact H
    clear H
    have H := H1
    clear H1
    obtain rfl := Option.some.inj H
    go_enter Try.func4, Try.ntmps4
    go_wp2_with (first | ((with_reducible refine gate_callee (f := 10) rfl ?_); refine goesL_ (some 13) rfl rfl Try.func10 (by kernel_rfl) rfl #[] rfl (by (try simp only [List.map_toArray, List.map_cons, List.map_nil]); first | done | rfl | (simp only [List.length_drop, List.length_take]; rfl) | (simp (disch := omega) only [IntWalk.u64_in, IntWalk.i64_in, IntWalk.u8_in]; rfl)) ?_; (with_reducible refine (screelaw04_awake.calls k  false _ A3.out).mono ?_); rintro e w40 ⟨rfl, hb⟩; refine ⟨_, rfl, ?_⟩; have n0_ := Aside0.mk (below_step (by repeat (first | (with_reducible first | exact HB.out | apply below_alloc | apply pw_below_drewN | apply below_drew1) | exact HB.out)) hb); clear HB; have HB := n0_; clear n0_; (try clear hb); (try clear hb2); (try clear hk); (try clear hi); (try clear A3)))
    go_ret
    exact ⟨by first | rfl | (simp [errW_none, errW_some] <;> rfl) | (simp (disch := omega) only [← i64_w, IntWalk.i64_in]; rfl) | (simp [*, errW_none, errW_some] <;> rfl), by repeat (first | (with_reducible first | exact HB.out | apply below_alloc | apply pw_below_drewN | apply below_drew1) | exact HB.out)⟩

/-! ### screelaw04_FrameCut: function 5 -/
mutual
def screelaw04_FrameCut.j0 : Nat → List ByteArray → ByteArray → Int → List ByteArray → Int → Bool → Option (Bool)
  | 0, _, _, _, _, _, _ => none
  | k + 1, x0, x5, x7, x8, x9, x56 => if x56 = true then (some false) else (if 0 ≤ (x8.length : Int) then (if (x8.length : Int) ≤ (x0.length : Int) then ((frame_Join.f k (x0.take ((x8.length : Int) : Int).toNat)).bind fun bt233 => (if bt233.2 = 0 then (screelaw04_FrameCut.j1 k x0 x5 x7 x8 x9 (x9 != (bt233.1.size : Int))) else (screelaw04_FrameCut.j1 k x0 x5 x7 x8 x9 true))) else (none)) else (none))
def screelaw04_FrameCut.j1 : Nat → List ByteArray → ByteArray → Int → List ByteArray → Int → Bool → Option (Bool)
  | 0, _, _, _, _, _, _ => none
  | k + 1, x0, x5, x7, x8, x9, x72 => if x72 = true then (some false) else (if (x8.length : Int) = (x0.length : Int) then (some (x9 == (x5.size : Int))) else (if 0 ≤ (x8.length : Int) then (if (x8.length : Int) < (x0.length : Int) then ((frame_Make.f k (rdOf ByteArray.empty x0 (x8.length : Int))).bind fun bt236 => (some (decide ((wrap64 (x9 + (bt236.1.size : Int))) > x7)))) else (none)) else (none)))
end
def screelaw04_FrameCut.f (k : Nat) (l0 : List ByteArray) (a1 : Int) : Option (Bool) := (screelaw04_awake.f k).bind fun t222 => (if t222 = true then ((screelaw04_large.f k l0).bind fun t223 => (if t223 = true then (some true) else ((frame_Join.f k l0).bind fun bt224 => (if bt224.2 = 0 then (if (wrap64 ((bt224.1.size : Int) + 1)) = 0 then (none) else (if 0 ≤ (Int.tmod (wrap64 (a1)) (wrap64 ((bt224.1.size : Int) + 1))) then (if (Int.tmod (wrap64 (a1)) (wrap64 ((bt224.1.size : Int) + 1))) ≤ (bt224.1.size : Int) then ((frame_All.f k (bt224.1.extract 0 ((Int.tmod (wrap64 (a1)) (wrap64 ((bt224.1.size : Int) + 1))) : Int).toNat)).bind fun bt226 => (if (bt226.1.length : Int) > (l0.length : Int) then (screelaw04_FrameCut.j0 k l0 bt224.1 (Int.tmod (wrap64 (a1)) (wrap64 ((bt224.1.size : Int) + 1))) bt226.1 bt226.2 true) else (if 0 ≤ (bt226.1.length : Int) then (if (bt226.1.length : Int) ≤ (l0.length : Int) then ((screelaw04_texts.f k bt226.1 (l0.take ((bt226.1.length : Int) : Int).toNat)).bind fun t231 => (if t231 = true then (screelaw04_FrameCut.j0 k l0 bt224.1 (Int.tmod (wrap64 (a1)) (wrap64 ((bt224.1.size : Int) + 1))) bt226.1 bt226.2 (decide (bt226.2 > (Int.tmod (wrap64 (a1)) (wrap64 ((bt224.1.size : Int) + 1)))))) else (screelaw04_FrameCut.j0 k l0 bt224.1 (Int.tmod (wrap64 (a1)) (wrap64 ((bt224.1.size : Int) + 1))) bt226.1 bt226.2 true))) else (none)) else (none)))) else (none)) else (none))) else (some true))))) else (some false))
theorem screelaw04_FrameCut.mono_l : ∀ k, (∀ y0 y1 y2 y3 y4 y5, LeO (screelaw04_FrameCut.j0 k y0 y1 y2 y3 y4 y5) (screelaw04_FrameCut.j0 (k + 1) y0 y1 y2 y3 y4 y5)) ∧ (∀ y0 y1 y2 y3 y4 y5, LeO (screelaw04_FrameCut.j1 k y0 y1 y2 y3 y4 y5) (screelaw04_FrameCut.j1 (k + 1) y0 y1 y2 y3 y4 y5))
  | 0 => ⟨fun _ _ _ _ _ _ r h => by simp [screelaw04_FrameCut.j0] at h, fun _ _ _ _ _ _ r h => by simp [screelaw04_FrameCut.j1] at h⟩
  | k + 1 => by
    obtain ⟨ih0, ih1⟩ := screelaw04_FrameCut.mono_l k
    refine ⟨?_, ?_⟩
    · intro y0 y1 y2 y3 y4 y5
      unfold screelaw04_FrameCut.j0
      repeat' first
      | (with_reducible exact ih0 _ _ _ _ _ _)
      | (with_reducible exact ih1 _ _ _ _ _ _)
      | (with_reducible exact frame_All.mono _ _)
      | (with_reducible exact frame_Join.mono _ _)
      | (with_reducible exact frame_Make.mono _ _)
      | (with_reducible exact screelaw04_awake.mono _)
      | (with_reducible exact screelaw04_large.mono _ _)
      | (with_reducible exact screelaw04_texts.mono _ _ _)
      | (with_reducible exact LeO.refl _)
      | (with_reducible exact LeO.none _)
      | (with_reducible refine LeO.ite ?_ ?_)
      | (with_reducible refine LeO.bind ?_ (fun _ => ?_))
      | exact ih0 _ _ _ _ _ _
      | exact ih1 _ _ _ _ _ _
      | exact frame_All.mono _ _
      | exact frame_Join.mono _ _
      | exact frame_Make.mono _ _
      | exact screelaw04_awake.mono _
      | exact screelaw04_large.mono _ _
      | exact screelaw04_texts.mono _ _ _
      | exact LeO.none _
      | refine LeO.ite ?_ ?_
      | refine LeO.bind ?_ (fun _ => ?_)
    · intro y0 y1 y2 y3 y4 y5
      unfold screelaw04_FrameCut.j1
      repeat' first
      | (with_reducible exact ih0 _ _ _ _ _ _)
      | (with_reducible exact ih1 _ _ _ _ _ _)
      | (with_reducible exact frame_All.mono _ _)
      | (with_reducible exact frame_Join.mono _ _)
      | (with_reducible exact frame_Make.mono _ _)
      | (with_reducible exact screelaw04_awake.mono _)
      | (with_reducible exact screelaw04_large.mono _ _)
      | (with_reducible exact screelaw04_texts.mono _ _ _)
      | (with_reducible exact LeO.refl _)
      | (with_reducible exact LeO.none _)
      | (with_reducible refine LeO.ite ?_ ?_)
      | (with_reducible refine LeO.bind ?_ (fun _ => ?_))
      | exact ih0 _ _ _ _ _ _
      | exact ih1 _ _ _ _ _ _
      | exact frame_All.mono _ _
      | exact frame_Join.mono _ _
      | exact frame_Make.mono _ _
      | exact screelaw04_awake.mono _
      | exact screelaw04_large.mono _ _
      | exact screelaw04_texts.mono _ _ _
      | exact LeO.none _
      | refine LeO.ite ?_ ?_
      | refine LeO.bind ?_ (fun _ => ?_)
theorem screelaw04_FrameCut.mono : ∀ a0 a1 k, LeO (screelaw04_FrameCut.f k a0 a1) (screelaw04_FrameCut.f (k + 1) a0 a1) := by
  intro a0 a1 k
  obtain ⟨ih0, ih1⟩ := screelaw04_FrameCut.mono_l k
  unfold screelaw04_FrameCut.f
  repeat' first
      | (with_reducible exact ih0 _ _ _ _ _ _)
      | (with_reducible exact ih1 _ _ _ _ _ _)
      | (with_reducible exact frame_All.mono _ _)
      | (with_reducible exact frame_Join.mono _ _)
      | (with_reducible exact frame_Make.mono _ _)
      | (with_reducible exact screelaw04_awake.mono _)
      | (with_reducible exact screelaw04_large.mono _ _)
      | (with_reducible exact screelaw04_texts.mono _ _ _)
      | (with_reducible exact LeO.refl _)
      | (with_reducible exact LeO.none _)
      | (with_reducible refine LeO.ite ?_ ?_)
      | (with_reducible refine LeO.bind ?_ (fun _ => ?_))
      | exact ih0 _ _ _ _ _ _
      | exact ih1 _ _ _ _ _ _
      | exact frame_All.mono _ _
      | exact frame_Join.mono _ _
      | exact frame_Make.mono _ _
      | exact screelaw04_awake.mono _
      | exact screelaw04_large.mono _ _
      | exact screelaw04_texts.mono _ _ _
      | exact LeO.none _
      | refine LeO.ite ?_ ?_
      | refine LeO.bind ?_ (fun _ => ?_)
set_option maxHeartbeats 8000000 in
set_option maxRecDepth 100000 in
theorem screelaw04_FrameCut.calls (k : Nat) (A0 : Option Addr) (c0 : Nat) (l0 : List ByteArray) (a1 : Int) (r : Bool) (w : World) (hr0 : Kd.C Kd.string w A0 l0.length l0) (hc0 : l0.length ≤ c0) (h : screelaw04_FrameCut.f k l0 a1 = some r) :
    Calls Try.prog 5 #[.slice A0 l0.length c0, .int .u16 a1] w fun e w' => e = .returned (.bool r) ∧ Below w.heap.size w w' := by
  have HR0 := Aside0.mk hr0
  have HC0 := Aside0.mk hc0
  clear hr0 hc0
  have HB := Aside0.mk (Below.refl w.heap.size w)
  have H : ((screelaw04_awake.f k).bind fun t222 => (if t222 = true then ((screelaw04_large.f k l0).bind fun t223 => (if t223 = true then (some true) else ((frame_Join.f k l0).bind fun bt224 => (if bt224.2 = 0 then (if (wrap64 ((bt224.1.size : Int) + 1)) = 0 then (none) else (if 0 ≤ (Int.tmod (wrap64 (a1)) (wrap64 ((bt224.1.size : Int) + 1))) then (if (Int.tmod (wrap64 (a1)) (wrap64 ((bt224.1.size : Int) + 1))) ≤ (bt224.1.size : Int) then ((frame_All.f k (bt224.1.extract 0 ((Int.tmod (wrap64 (a1)) (wrap64 ((bt224.1.size : Int) + 1))) : Int).toNat)).bind fun bt226 => (if (bt226.1.length : Int) > (l0.length : Int) then (screelaw04_FrameCut.j0 k l0 bt224.1 (Int.tmod (wrap64 (a1)) (wrap64 ((bt224.1.size : Int) + 1))) bt226.1 bt226.2 true) else (if 0 ≤ (bt226.1.length : Int) then (if (bt226.1.length : Int) ≤ (l0.length : Int) then ((screelaw04_texts.f k bt226.1 (l0.take ((bt226.1.length : Int) : Int).toNat)).bind fun t231 => (if t231 = true then (screelaw04_FrameCut.j0 k l0 bt224.1 (Int.tmod (wrap64 (a1)) (wrap64 ((bt224.1.size : Int) + 1))) bt226.1 bt226.2 (decide (bt226.2 > (Int.tmod (wrap64 (a1)) (wrap64 ((bt224.1.size : Int) + 1)))))) else (screelaw04_FrameCut.j0 k l0 bt224.1 (Int.tmod (wrap64 (a1)) (wrap64 ((bt224.1.size : Int) + 1))) bt226.1 bt226.2 true))) else (none)) else (none)))) else (none)) else (none))) else (some true))))) else (some false))) = some r := h
  clear h
  replace H := Option.bind_eq_some_iff.mp H
  obtain ⟨t222, A30, H⟩ := H
  replace H : (if t222 = true then ((screelaw04_large.f k l0).bind fun t223 => (if t223 = true then (some true) else ((frame_Join.f k l0).bind fun bt224 => (if bt224.2 = 0 then (if (wrap64 ((bt224.1.size : Int) + 1)) = 0 then (none) else (if 0 ≤ (Int.tmod (wrap64 (a1)) (wrap64 ((bt224.1.size : Int) + 1))) then (if (Int.tmod (wrap64 (a1)) (wrap64 ((bt224.1.size : Int) + 1))) ≤ (bt224.1.size : Int) then ((frame_All.f k (bt224.1.extract 0 ((Int.tmod (wrap64 (a1)) (wrap64 ((bt224.1.size : Int) + 1))) : Int).toNat)).bind fun bt226 => (if (bt226.1.length : Int) > (l0.length : Int) then (screelaw04_FrameCut.j0 k l0 bt224.1 (Int.tmod (wrap64 (a1)) (wrap64 ((bt224.1.size : Int) + 1))) bt226.1 bt226.2 true) else (if 0 ≤ (bt226.1.length : Int) then (if (bt226.1.length : Int) ≤ (l0.length : Int) then ((screelaw04_texts.f k bt226.1 (l0.take ((bt226.1.length : Int) : Int).toNat)).bind fun t231 => (if t231 = true then (screelaw04_FrameCut.j0 k l0 bt224.1 (Int.tmod (wrap64 (a1)) (wrap64 ((bt224.1.size : Int) + 1))) bt226.1 bt226.2 (decide (bt226.2 > (Int.tmod (wrap64 (a1)) (wrap64 ((bt224.1.size : Int) + 1)))))) else (screelaw04_FrameCut.j0 k l0 bt224.1 (Int.tmod (wrap64 (a1)) (wrap64 ((bt224.1.size : Int) + 1))) bt226.1 bt226.2 true))) else (none)) else (none)))) else (none)) else (none))) else (some true))))) else (some false)) = some r := H
  have A3 := Aside0.mk A30
  clear A30
  by_cases c4 : t222 = true
  · subst c4
    have H1 : ((screelaw04_large.f k l0).bind fun t223 => (if t223 = true then (some true) else ((frame_Join.f k l0).bind fun bt224 => (if bt224.2 = 0 then (if (wrap64 ((bt224.1.size : Int) + 1)) = 0 then (none) else (if 0 ≤ (Int.tmod (wrap64 (a1)) (wrap64 ((bt224.1.size : Int) + 1))) then (if (Int.tmod (wrap64 (a1)) (wrap64 ((bt224.1.size : Int) + 1))) ≤ (bt224.1.size : Int) then ((frame_All.f k (bt224.1.extract 0 ((Int.tmod (wrap64 (a1)) (wrap64 ((bt224.1.size : Int) + 1))) : Int).toNat)).bind fun bt226 => (if (bt226.1.length : Int) > (l0.length : Int) then (screelaw04_FrameCut.j0 k l0 bt224.1 (Int.tmod (wrap64 (a1)) (wrap64 ((bt224.1.size : Int) + 1))) bt226.1 bt226.2 true) else (if 0 ≤ (bt226.1.length : Int) then (if (bt226.1.length : Int) ≤ (l0.length : Int) then ((screelaw04_texts.f k bt226.1 (l0.take ((bt226.1.length : Int) : Int).toNat)).bind fun t231 => (if t231 = true then (screelaw04_FrameCut.j0 k l0 bt224.1 (Int.tmod (wrap64 (a1)) (wrap64 ((bt224.1.size : Int) + 1))) bt226.1 bt226.2 (decide (bt226.2 > (Int.tmod (wrap64 (a1)) (wrap64 ((bt224.1.size : Int) + 1)))))) else (screelaw04_FrameCut.j0 k l0 bt224.1 (Int.tmod (wrap64 (a1)) (wrap64 ((bt224.1.size : Int) + 1))) bt226.1 bt226.2 true))) else (none)) else (none)))) else (none)) else (none))) else (some true))))) = some r := by rw [if_pos rfl] at H; exact H
    clear H
    have H := H1
    clear H1
    replace H := Option.bind_eq_some_iff.mp H
    obtain ⟨t223, A50, H⟩ := H
    replace H : (if t223 = true then (some true) else ((frame_Join.f k l0).bind fun bt224 => (if bt224.2 = 0 then (if (wrap64 ((bt224.1.size : Int) + 1)) = 0 then (none) else (if 0 ≤ (Int.tmod (wrap64 (a1)) (wrap64 ((bt224.1.size : Int) + 1))) then (if (Int.tmod (wrap64 (a1)) (wrap64 ((bt224.1.size : Int) + 1))) ≤ (bt224.1.size : Int) then ((frame_All.f k (bt224.1.extract 0 ((Int.tmod (wrap64 (a1)) (wrap64 ((bt224.1.size : Int) + 1))) : Int).toNat)).bind fun bt226 => (if (bt226.1.length : Int) > (l0.length : Int) then (screelaw04_FrameCut.j0 k l0 bt224.1 (Int.tmod (wrap64 (a1)) (wrap64 ((bt224.1.size : Int) + 1))) bt226.1 bt226.2 true) else (if 0 ≤ (bt226.1.length : Int) then (if (bt226.1.length : Int) ≤ (l0.length : Int) then ((screelaw04_texts.f k bt226.1 (l0.take ((bt226.1.length : Int) : Int).toNat)).bind fun t231 => (if t231 = true then (screelaw04_FrameCut.j0 k l0 bt224.1 (Int.tmod (wrap64 (a1)) (wrap64 ((bt224.1.size : Int) + 1))) bt226.1 bt226.2 (decide (bt226.2 > (Int.tmod (wrap64 (a1)) (wrap64 ((bt224.1.size : Int) + 1)))))) else (screelaw04_FrameCut.j0 k l0 bt224.1 (Int.tmod (wrap64 (a1)) (wrap64 ((bt224.1.size : Int) + 1))) bt226.1 bt226.2 true))) else (none)) else (none)))) else (none)) else (none))) else (some true)))) = some r := H
    have A5 := Aside0.mk A50
    clear A50
    by_cases c6 : t223 = true
    · subst c6
      have H1 : (some true) = some r := by rw [if_pos rfl] at H; exact H
      clear H
      have H := H1
      clear H1
      obtain rfl := Option.some.inj H
      go_enter Try.func5, Try.ntmps5
      go_wp2_with (first | ((with_reducible refine gate_callee (f := 10) rfl ?_); refine goesL_ (some 14) rfl rfl Try.func10 (by kernel_rfl) rfl #[] rfl (by (try simp only [List.map_toArray, List.map_cons, List.map_nil]); first | done | rfl | (simp only [List.length_drop, List.length_take]; rfl) | (simp (disch := omega) only [IntWalk.u64_in, IntWalk.i64_in, IntWalk.u8_in]; rfl)) ?_; (with_reducible refine (screelaw04_awake.calls k  true _ A3.out).mono ?_); rintro e w7 ⟨rfl, hb⟩; refine ⟨_, rfl, ?_⟩; have n0_ := Aside0.mk (below_step (by repeat (first | (with_reducible first | exact HB.out | apply below_alloc | apply pw_below_drewN | apply below_drew1) | exact HB.out)) hb); clear HB; have HB := n0_; clear n0_; (try clear hb); (try clear hb2); (try clear hk); (try clear hi); (try clear A3)) | ((with_reducible refine gate_callee (f := 11) rfl ?_); refine goesL_ (some 17) rfl rfl Try.func11 (by kernel_rfl) rfl #[.slice A0 l0.length c0] rfl (by (try simp only [List.map_toArray, List.map_cons, List.map_nil]); first | done | rfl | (simp only [List.length_drop, List.length_take]; rfl) | (simp (disch := omega) only [IntWalk.u64_in, IntWalk.i64_in, IntWalk.u8_in]; rfl)) ?_; (with_reducible refine (screelaw04_large.calls k _ _ l0 true _ ?side1 ?side2 A5.out).mono ?_); (case side1 => repeat (first | exact (Kd.C_below HR0.out HB.out) | (with_reducible refine Kd.C_alloc ?_ _) | (with_reducible refine Kd.C_drewN ?_ _) | (with_reducible refine Kd.C_drew ?_))); (case side2 => exact HC0.out); rintro e w' ⟨rfl, ⟨nd, rfl⟩⟩; refine ⟨_, rfl, ?_⟩))
      go_ret
      exact ⟨by first | rfl | (simp [errW_none, errW_some] <;> rfl) | (simp (disch := omega) only [← i64_w, IntWalk.i64_in]; rfl) | (simp [*, errW_none, errW_some] <;> rfl), by repeat (first | (with_reducible first | exact HB.out | apply below_alloc | apply pw_below_drewN | apply below_drew1) | exact HB.out)⟩
    · replace c6 := Bool.eq_false_iff.mpr c6
      subst c6
      have H1 : ((frame_Join.f k l0).bind fun bt224 => (if bt224.2 = 0 then (if (wrap64 ((bt224.1.size : Int) + 1)) = 0 then (none) else (if 0 ≤ (Int.tmod (wrap64 (a1)) (wrap64 ((bt224.1.size : Int) + 1))) then (if (Int.tmod (wrap64 (a1)) (wrap64 ((bt224.1.size : Int) + 1))) ≤ (bt224.1.size : Int) then ((frame_All.f k (bt224.1.extract 0 ((Int.tmod (wrap64 (a1)) (wrap64 ((bt224.1.size : Int) + 1))) : Int).toNat)).bind fun bt226 => (if (bt226.1.length : Int) > (l0.length : Int) then (screelaw04_FrameCut.j0 k l0 bt224.1 (Int.tmod (wrap64 (a1)) (wrap64 ((bt224.1.size : Int) + 1))) bt226.1 bt226.2 true) else (if 0 ≤ (bt226.1.length : Int) then (if (bt226.1.length : Int) ≤ (l0.length : Int) then ((screelaw04_texts.f k bt226.1 (l0.take ((bt226.1.length : Int) : Int).toNat)).bind fun t231 => (if t231 = true then (screelaw04_FrameCut.j0 k l0 bt224.1 (Int.tmod (wrap64 (a1)) (wrap64 ((bt224.1.size : Int) + 1))) bt226.1 bt226.2 (decide (bt226.2 > (Int.tmod (wrap64 (a1)) (wrap64 ((bt224.1.size : Int) + 1)))))) else (screelaw04_FrameCut.j0 k l0 bt224.1 (Int.tmod (wrap64 (a1)) (wrap64 ((bt224.1.size : Int) + 1))) bt226.1 bt226.2 true))) else (none)) else (none)))) else (none)) else (none))) else (some true))) = some r := by rw [if_neg (show ¬ (false = true) by decide)] at H; exact H
      clear H
      have H := H1
      clear H1
      replace H := Option.bind_eq_some_iff.mp H
      obtain ⟨⟨t224, t225⟩, A80, H⟩ := H
      replace H : (if t225 = 0 then (if (wrap64 ((t224.size : Int) + 1)) = 0 then (none) else (if 0 ≤ (Int.tmod (wrap64 (a1)) (wrap64 ((t224.size : Int) + 1))) then (if (Int.tmod (wrap64 (a1)) (wrap64 ((t224.size : Int) + 1))) ≤ (t224.size : Int) then ((frame_All.f k (t224.extract 0 ((Int.tmod (wrap64 (a1)) (wrap64 ((t224.size : Int) + 1))) : Int).toNat)).bind fun bt226 => (if (bt226.1.length : Int) > (l0.length : Int) then (screelaw04_FrameCut.j0 k l0 t224 (Int.tmod (wrap64 (a1)) (wrap64 ((t224.size : Int) + 1))) bt226.1 bt226.2 true) else (if 0 ≤ (bt226.1.length : Int) then (if (bt226.1.length : Int) ≤ (l0.length : Int) then ((screelaw04_texts.f k bt226.1 (l0.take ((bt226.1.length : Int) : Int).toNat)).bind fun t231 => (if t231 = true then (screelaw04_FrameCut.j0 k l0 t224 (Int.tmod (wrap64 (a1)) (wrap64 ((t224.size : Int) + 1))) bt226.1 bt226.2 (decide (bt226.2 > (Int.tmod (wrap64 (a1)) (wrap64 ((t224.size : Int) + 1)))))) else (screelaw04_FrameCut.j0 k l0 t224 (Int.tmod (wrap64 (a1)) (wrap64 ((t224.size : Int) + 1))) bt226.1 bt226.2 true))) else (none)) else (none)))) else (none)) else (none))) else (some true)) = some r := H
      have A8 := Aside0.mk A80
      clear A80
      by_cases c9 : t225 = 0
      · rw [if_pos c9] at H
        have c9b0 : (t225 == 0) = true := beq_iff_eq.mpr c9
        have c9b1 : (t225 != 0) = false := bne_eq_false_iff_eq.mpr c9
        clear c9
        by_cases c10 : (wrap64 ((t224.size : Int) + 1)) = 0
        · rw [if_pos c10] at H
          exact absurd H (by simp)
        · rw [if_neg c10] at H
          have c10b0 : ((wrap64 ((t224.size : Int) + 1)) == 0) = false := beq_eq_false_iff_ne.mpr c10
          have c10b1 : ((wrap64 ((t224.size : Int) + 1)) != 0) = true := bne_iff_ne.mpr c10
          obtain ⟨ji11, hji11⟩ : ∃ j_ : Int, (Int.tmod (wrap64 (a1)) (wrap64 ((t224.size : Int) + 1))) = j_ := ⟨_, rfl⟩
          replace H : (if 0 ≤ (ji11) then (if (ji11) ≤ (t224.size : Int) then ((frame_All.f k (t224.extract 0 ((ji11) : Int).toNat)).bind fun bt226 => (if (bt226.1.length : Int) > (l0.length : Int) then (screelaw04_FrameCut.j0 k l0 t224 ji11 bt226.1 bt226.2 true) else (if 0 ≤ (bt226.1.length : Int) then (if (bt226.1.length : Int) ≤ (l0.length : Int) then ((screelaw04_texts.f k bt226.1 (l0.take ((bt226.1.length : Int) : Int).toNat)).bind fun t231 => (if t231 = true then (screelaw04_FrameCut.j0 k l0 t224 ji11 bt226.1 bt226.2 (decide (bt226.2 > (ji11)))) else (screelaw04_FrameCut.j0 k l0 t224 ji11 bt226.1 bt226.2 true))) else (none)) else (none)))) else (none)) else (none)) = some r := by first | (rw [hji11] at H; exact H) | (simp only [hji11] at H ⊢; exact H)
          (try rw [hji11])
          (try rw [hji11] at A3)
          (try rw [hji11] at A5)
          (try rw [hji11] at A8)
          by_cases c12 : 0 ≤ (ji11)
          · rw [if_pos c12] at H
            have c12b0 := eq_true c12
            have c12b1 : decide (0 ≤ (ji11)) = true := decide_eq_true c12
            clear c12
            by_cases c13 : (ji11) ≤ (t224.size : Int)
            · rw [if_pos c13] at H
              have c13b0 := eq_true c13
              have c13b1 : decide ((ji11) ≤ (t224.size : Int)) = true := decide_eq_true c13
              clear c13
              replace H := Option.bind_eq_some_iff.mp H
              obtain ⟨⟨t226, t227⟩, A140, H⟩ := H
              replace H : (if (t226.length : Int) > (l0.length : Int) then (screelaw04_FrameCut.j0 k l0 t224 ji11 t226 t227 true) else (if 0 ≤ (t226.length : Int) then (if (t226.length : Int) ≤ (l0.length : Int) then ((screelaw04_texts.f k t226 (l0.take ((t226.length : Int) : Int).toNat)).bind fun t231 => (if t231 = true then (screelaw04_FrameCut.j0 k l0 t224 ji11 t226 t227 (decide (t227 > (ji11)))) else (screelaw04_FrameCut.j0 k l0 t224 ji11 t226 t227 true))) else (none)) else (none))) = some r := H
              have A14 := Aside0.mk A140
              clear A140
              have HC15 := Aside0.mk H
              clear H
              go_enter Try.func5, Try.ntmps5
              go_upto_region 10 with (first | ((with_reducible refine gate_callee (f := 10) rfl ?_); refine goesL_ (some 14) rfl rfl Try.func10 (by kernel_rfl) rfl #[] rfl (by (try simp only [List.map_toArray, List.map_cons, List.map_nil]); first | done | rfl | (simp only [List.length_drop, List.length_take]; rfl) | (simp (disch := omega) only [IntWalk.u64_in, IntWalk.i64_in, IntWalk.u8_in]; rfl)) ?_; (with_reducible refine (screelaw04_awake.calls k  true _ A3.out).mono ?_); rintro e w16 ⟨rfl, hb⟩; refine ⟨_, rfl, ?_⟩; have n0_ := Aside0.mk (below_step (by repeat (first | (with_reducible first | exact HB.out | apply below_alloc | apply pw_below_drewN | apply below_drew1) | exact HB.out)) hb); clear HB; have HB := n0_; clear n0_; (try clear hb); (try clear hb2); (try clear hk); (try clear hi); (try clear A3)) | ((with_reducible refine gate_callee (f := 11) rfl ?_); refine goesL_ (some 17) rfl rfl Try.func11 (by kernel_rfl) rfl #[.slice A0 l0.length c0] rfl (by (try simp only [List.map_toArray, List.map_cons, List.map_nil]); first | done | rfl | (simp only [List.length_drop, List.length_take]; rfl) | (simp (disch := omega) only [IntWalk.u64_in, IntWalk.i64_in, IntWalk.u8_in]; rfl)) ?_; (with_reducible refine (screelaw04_large.calls k _ _ l0 false _ ?side1 ?side2 A5.out).mono ?_); (case side1 => repeat (first | exact (Kd.C_below HR0.out HB.out) | (with_reducible refine Kd.C_alloc ?_ _) | (with_reducible refine Kd.C_drewN ?_ _) | (with_reducible refine Kd.C_drew ?_))); (case side2 => exact HC0.out); rintro e w' ⟨rfl, ⟨nd, rfl⟩⟩; refine ⟨_, rfl, ?_⟩) | ((with_reducible refine gate_callee (f := 17) rfl ?_); refine goesL_ (some 20) rfl rfl Try.func17 (by kernel_rfl) rfl #[.slice A0 l0.length c0] rfl (by (try simp only [List.map_toArray, List.map_cons, List.map_nil]); first | done | rfl | (simp only [List.length_drop, List.length_take]; rfl) | (simp (disch := omega) only [IntWalk.u64_in, IntWalk.i64_in, IntWalk.u8_in]; rfl)) ?_; (with_reducible refine (frame_Join.calls k _ _ l0 t224 t225 _ ?side1 ?side2 A8.out).mono ?_); (case side1 => repeat (first | exact (Kd.C_below HR0.out (by repeat (first | (with_reducible first | exact HB.out | apply below_alloc | apply pw_below_drewN | apply below_drew1) | exact HB.out))) | (with_reducible refine Kd.C_alloc ?_ _) | (with_reducible refine Kd.C_drewN ?_ _) | (with_reducible refine Kd.C_drew ?_))); (case side2 => exact HC0.out); rintro e w17 ⟨rfl, hb⟩; refine ⟨_, rfl, ?_⟩; have n0_ := Aside0.mk (below_step (by repeat (first | (with_reducible first | exact HB.out | apply below_alloc | apply pw_below_drewN | apply below_drew1) | exact HB.out)) hb); clear HB; have HB := n0_; clear n0_; (try clear hb); (try clear hb2); (try clear hk); (try clear hi); (try clear A8)) | ((with_reducible refine gate_callee (f := 12) rfl ?_); refine goesL_ (some 35) rfl rfl Try.func12 (by kernel_rfl) rfl #[.string (t224.extract 0 ((ji11) : Int).toNat)] rfl (by (try simp only [List.map_toArray, List.map_cons, List.map_nil]); first | done | (simp only [hji11]; rfl) | rfl | (simp only [List.length_drop, List.length_take]; rfl) | (simp (disch := omega) only [IntWalk.u64_in, IntWalk.i64_in, IntWalk.u8_in]; rfl)) ?_; (with_reducible refine (frame_All.calls k (t224.extract 0 ((ji11) : Int).toNat) t226 t227 _ A14.out).mono ?_); rintro e w18 ⟨v228, rfl, ho0, hb⟩; refine ⟨_, rfl, ?_⟩; have n0_ := Aside0.mk (Kd.R_lower ho0 (below_size (by repeat (first | (with_reducible first | exact HB.out | apply below_alloc | apply pw_below_drewN | apply below_drew1) | exact HB.out)))); have n1_ := Aside0.mk (below_step (by repeat (first | (with_reducible first | exact HB.out | apply below_alloc | apply pw_below_drewN | apply below_drew1) | exact HB.out)) hb); clear HB; have HO229 := n0_; have HB := n1_; clear n0_ n1_; (try clear hb); (try clear hb2); (try clear hk); (try clear hi); (try clear ho0); (try clear A14)))
              (try simp only [Act.put, List.setIfInBounds_toArray, List.set_cons_zero, List.set_cons_succ])
              go_cut [56] (fun v56 wc => ∃ (kq : Nat) (x56_14 : Bool), v56 = .bool x56_14 ∧ Aside0 (screelaw04_FrameCut.j0 kq l0 t224 ji11 t226 t227 x56_14 = some r) ∧ Aside0 (kq ≤ k) ∧ Aside0 (Kd.R Kd.string 9 wc w.heap.size (fun _ => True) v228 t226) ∧ Aside0 (Below w.heap.size w wc))
              case first =>
                have H := HC15.out
                clear HC15
                by_cases c19 : (t226.length : Int) > (l0.length : Int)
                · rw [if_pos c19] at H
                  have c19b0 : decide ((l0.length : Int) < (t226.length : Int)) = true := decide_eq_true c19
                  have c19b1 : decide (l0.length < t226.length) = true := decide_eq_true (Int.ofNat_lt.mp c19)
                  clear c19
                  (first | rw [c19b0] | (simp only [i64_w, i32_w]; rw [c19b0]) | skip)
                  have H' := Aside0.mk H
                  clear H
                  obtain ⟨Ao20, co20, eo20⟩ := Kd.R_slice HO229.out
                  subst eo20
                  go_wp2
                  go_meet
                  case rel => exact ⟨_, (true), (by first | rfl | (simp; done) | (simp [*]; done)), (by first | (with_reducible exact H') | exact H' | (subst_vars; exact H')), ⟨by first | omega | exact Nat.le_refl _⟩, ⟨by (with_reducible repeat (first | apply Kd.R_alloc | apply Kd.R_drewN | apply Kd.R_drew)); exact HO229.out⟩, ⟨by repeat (first | (with_reducible first | exact HB.out | apply below_alloc | apply pw_below_drewN | apply below_drew1) | exact HB.out)⟩⟩
                · rw [if_neg c19] at H
                  have c19b0 : decide ((l0.length : Int) < (t226.length : Int)) = false := decide_eq_false c19
                  have c19b1 : decide (l0.length < t226.length) = false := decide_eq_false (fun h => c19 (Int.ofNat_lt.mpr h))
                  clear c19
                  (first | rw [c19b0] | (simp only [i64_w, i32_w]; rw [c19b0]) | skip)
                  by_cases c21 : 0 ≤ (t226.length : Int)
                  · rw [if_pos c21] at H
                    have c21b0 := eq_true c21
                    have c21b1 : decide (0 ≤ (t226.length : Int)) = true := decide_eq_true c21
                    clear c21
                    by_cases c22 : (t226.length : Int) ≤ (l0.length : Int)
                    · rw [if_pos c22] at H
                      have c22b0 := eq_true c22
                      have c22b1 : decide ((t226.length : Int) ≤ (l0.length : Int)) = true := decide_eq_true c22
                      clear c22
                      replace H := Option.bind_eq_some_iff.mp H
                      obtain ⟨t231, A230, H⟩ := H
                      replace H : (if t231 = true then (screelaw04_FrameCut.j0 k l0 t224 ji11 t226 t227 (decide (t227 > (ji11)))) else (screelaw04_FrameCut.j0 k l0 t224 ji11 t226 t227 true)) = some r := H
                      have A23 := Aside0.mk A230
                      clear A230
                      by_cases c24 : t231 = true
                      · subst c24
                        have H1 : (screelaw04_FrameCut.j0 k l0 t224 ji11 t226 t227 (decide (t227 > (ji11)))) = some r := by rw [if_pos rfl] at H; exact H
                        clear H
                        have H := H1
                        clear H1
                        have H' := Aside0.mk H
                        clear H
                        obtain ⟨Ao25, co25, eo25⟩ := Kd.R_slice HO229.out
                        subst eo25
                        obtain ⟨i026, hi026, _, hsz26, _⟩ := info_parts info9
                        obtain ⟨hcut26, hA26, hC26⟩ := print_take_of (P := Try.prog) Value.string (⟨#[]⟩ : ByteArray) 22 9 .i64 Try.underlying22 hi026 hsz26 A0 c0 l0 (t226.length : Int) (of_decide_eq_true (by first | (with_reducible assumption) | assumption)) (of_decide_eq_true (by first | (with_reducible assumption) | assumption)) HC0.out
                        have HR230 := Aside0.mk (Kd.C_of_reads (h1 := fun _ => rfl) (hA26 _ (Kd.reads_of_C HR0.out)))
                        have HC230 := Aside0.mk hC26
                        clear hA26 hC26 hi026 hsz26
                        go_wp2_with (first | (go_at_call 14; (try simp only [← List.length_take]); (first | (with_reducible refine (screelaw04_texts.calls k _ _ t226 _ _ (l0.take ((t226.length : Int) : Int).toNat) true _ ?side1 ?side2 ?side3 ?side4 A23.out).mono ?_) | (refine (screelaw04_texts.calls k _ _ t226 _ _ (l0.take ((t226.length : Int) : Int).toNat) true _ ?side1 ?side2 ?side3 ?side4 A23.out).mono ?_)); (case side1 => repeat (first | exact (Kd.R_reads' HO229.out).2.2 | (with_reducible refine Kd.C_alloc ?_ _) | (with_reducible refine Kd.C_drewN ?_ _) | (with_reducible refine Kd.C_drew ?_))); (case side2 => exact (Kd.R_reads' HO229.out).2.1); (case side3 => repeat (first | exact (Kd.C_below HR230.out HB.out) | (with_reducible refine Kd.C_alloc ?_ _) | (with_reducible refine Kd.C_drewN ?_ _) | (with_reducible refine Kd.C_drew ?_))); (case side4 => exact HC230.out); rintro e w' ⟨rfl, ⟨nd, rfl⟩⟩))
                        go_meet
                        case rel => exact ⟨_, (decide (t227 > (ji11))), (by first | rfl | (simp; done) | (simp only [← hji11] <;> (first | rfl | simp)) | (simp [*]; done)), (by first | (with_reducible exact H') | exact H' | (subst_vars; exact H')), ⟨by first | omega | exact Nat.le_refl _⟩, ⟨by (with_reducible repeat (first | apply Kd.R_alloc | apply Kd.R_drewN | apply Kd.R_drew)); exact HO229.out⟩, ⟨by repeat (first | (with_reducible first | exact HB.out | apply below_alloc | apply pw_below_drewN | apply below_drew1) | exact HB.out)⟩⟩
                      · replace c24 := Bool.eq_false_iff.mpr c24
                        subst c24
                        have H1 : (screelaw04_FrameCut.j0 k l0 t224 ji11 t226 t227 true) = some r := by rw [if_neg (show ¬ (false = true) by decide)] at H; exact H
                        clear H
                        have H := H1
                        clear H1
                        have H' := Aside0.mk H
                        clear H
                        obtain ⟨Ao27, co27, eo27⟩ := Kd.R_slice HO229.out
                        subst eo27
                        obtain ⟨i028, hi028, _, hsz28, _⟩ := info_parts info9
                        obtain ⟨hcut28, hA28, hC28⟩ := print_take_of (P := Try.prog) Value.string (⟨#[]⟩ : ByteArray) 22 9 .i64 Try.underlying22 hi028 hsz28 A0 c0 l0 (t226.length : Int) (of_decide_eq_true (by first | (with_reducible assumption) | assumption)) (of_decide_eq_true (by first | (with_reducible assumption) | assumption)) HC0.out
                        have HR230 := Aside0.mk (Kd.C_of_reads (h1 := fun _ => rfl) (hA28 _ (Kd.reads_of_C HR0.out)))
                        have HC230 := Aside0.mk hC28
                        clear hA28 hC28 hi028 hsz28
                        go_wp2_with (first | (go_at_call 14; (try simp only [← List.length_take]); (first | (with_reducible refine (screelaw04_texts.calls k _ _ t226 _ _ (l0.take ((t226.length : Int) : Int).toNat) false _ ?side1 ?side2 ?side3 ?side4 A23.out).mono ?_) | (refine (screelaw04_texts.calls k _ _ t226 _ _ (l0.take ((t226.length : Int) : Int).toNat) false _ ?side1 ?side2 ?side3 ?side4 A23.out).mono ?_)); (case side1 => repeat (first | exact (Kd.R_reads' HO229.out).2.2 | (with_reducible refine Kd.C_alloc ?_ _) | (with_reducible refine Kd.C_drewN ?_ _) | (with_reducible refine Kd.C_drew ?_))); (case side2 => exact (Kd.R_reads' HO229.out).2.1); (case side3 => repeat (first | exact (Kd.C_below HR230.out HB.out) | (with_reducible refine Kd.C_alloc ?_ _) | (with_reducible refine Kd.C_drewN ?_ _) | (with_reducible refine Kd.C_drew ?_))); (case side4 => exact HC230.out); rintro e w' ⟨rfl, ⟨nd, rfl⟩⟩))
                        go_meet
                        case rel => exact ⟨_, (true), (by first | rfl | (simp; done) | (simp [*]; done)), (by first | (with_reducible exact H') | exact H' | (subst_vars; exact H')), ⟨by first | omega | exact Nat.le_refl _⟩, ⟨by (with_reducible repeat (first | apply Kd.R_alloc | apply Kd.R_drewN | apply Kd.R_drew)); exact HO229.out⟩, ⟨by repeat (first | (with_reducible first | exact HB.out | apply below_alloc | apply pw_below_drewN | apply below_drew1) | exact HB.out)⟩⟩
                    · rw [if_neg c22] at H
                      exact absurd H (by simp)
                  · rw [if_neg c21] at H
                    exact absurd H (by simp)
              case rest =>
                clear HC15
                try clear c1
                try clear c2
                try clear p2
                try clear c4
                try clear c5
                try clear c6
                try clear p6
                try clear c9
                try clear c9b0
                try clear c9b1
                try clear c10
                try clear c10b0
                try clear c10b1
                try clear c11
                try clear c12
                try clear c12b0
                try clear c12b1
                try clear c13
                try clear c13b0
                try clear c13b1
                try clear c17
                try clear c19
                try clear c19b0
                try clear c19b1
                try clear c21
                try clear c21b0
                try clear c21b1
                try clear c22
                try clear c22b0
                try clear c22b1
                try clear c24
                obtain ⟨kq, x56_14, rfl, HA, HJ14, HO_8, HB⟩ := hcut
                cases kq with
                | zero => exact absurd HA.out (by simp [screelaw04_FrameCut.j0])
                | succ kj14 =>
                  have H := HA.out
                  clear HA
                  simp only [screelaw04_FrameCut.j0] at H
                  by_cases c29 : x56_14 = true
                  · subst c29
                    have H1 : (some false) = some r := by rw [if_pos rfl] at H; exact H
                    clear H
                    have H := H1
                    clear H1
                    obtain rfl := Option.some.inj H
                    go_wp2
                    go_ret
                    exact ⟨by first | rfl | (simp [errW_none, errW_some] <;> rfl) | (simp (disch := omega) only [← i64_w, IntWalk.i64_in]; rfl) | (simp only [← hji11]; first | rfl | (simp [errW_none, errW_some] <;> rfl)) | (simp [*, errW_none, errW_some] <;> rfl), by repeat (first | (with_reducible first | exact HB.out | apply below_alloc | apply pw_below_drewN | apply below_drew1) | exact HB.out)⟩
                  · replace c29 := Bool.eq_false_iff.mpr c29
                    subst c29
                    have H1 : (if 0 ≤ (t226.length : Int) then (if (t226.length : Int) ≤ (l0.length : Int) then ((frame_Join.f kj14 (l0.take ((t226.length : Int) : Int).toNat)).bind fun bt233 => (if bt233.2 = 0 then (screelaw04_FrameCut.j1 kj14 l0 t224 ji11 t226 t227 (t227 != (bt233.1.size : Int))) else (screelaw04_FrameCut.j1 kj14 l0 t224 ji11 t226 t227 true))) else (none)) else (none)) = some r := by rw [if_neg (show ¬ (false = true) by decide)] at H; exact H
                    clear H
                    have H := H1
                    clear H1
                    by_cases c30 : 0 ≤ (t226.length : Int)
                    · rw [if_pos c30] at H
                      have c30b0 := eq_true c30
                      have c30b1 : decide (0 ≤ (t226.length : Int)) = true := decide_eq_true c30
                      clear c30
                      by_cases c31 : (t226.length : Int) ≤ (l0.length : Int)
                      · rw [if_pos c31] at H
                        have c31b0 := eq_true c31
                        have c31b1 : decide ((t226.length : Int) ≤ (l0.length : Int)) = true := decide_eq_true c31
                        clear c31
                        replace H := Option.bind_eq_some_iff.mp H
                        obtain ⟨⟨t233, t234⟩, A320, H⟩ := H
                        replace H : (if t234 = 0 then (screelaw04_FrameCut.j1 kj14 l0 t224 ji11 t226 t227 (t227 != (t233.size : Int))) else (screelaw04_FrameCut.j1 kj14 l0 t224 ji11 t226 t227 true)) = some r := H
                        have A32 := Aside0.mk A320
                        clear A320
                        have HC33 := Aside0.mk H
                        clear H
                        obtain ⟨Ao34, co34, eo34⟩ := Kd.R_slice HO_8.out
                        subst eo34
                        obtain ⟨i035, hi035, _, hsz35, _⟩ := info_parts info9
                        obtain ⟨hcut35, hA35, hC35⟩ := print_take_of (P := Try.prog) Value.string (⟨#[]⟩ : ByteArray) 22 9 .i64 Try.underlying22 hi035 hsz35 A0 c0 l0 (t226.length : Int) (of_decide_eq_true (by first | (with_reducible assumption) | assumption)) (of_decide_eq_true (by first | (with_reducible assumption) | assumption)) HC0.out
                        have HR232 := Aside0.mk (Kd.C_of_reads (h1 := fun _ => rfl) (hA35 _ (Kd.reads_of_C HR0.out)))
                        have HC232 := Aside0.mk hC35
                        clear hA35 hC35 hi035 hsz35
                        go_upto_region 13 with (first | ((with_reducible refine gate_callee (f := 17) rfl ?_); refine goesL_ (some 62) rfl rfl Try.func17 (by kernel_rfl) rfl #[.slice A0 (l0.take ((t226.length : Int) : Int).toNat).length c0] rfl (by (try simp only [List.map_toArray, List.map_cons, List.map_nil]); first | done | (rw [show (l0.take ((t226.length : Int) : Int).toNat).length = (t226.length : Int).toNat from (by rw [List.length_take]; have h_ : ((t226.length : Int) : Int) ≤ (l0.length : Int) := of_decide_eq_true (by first | (with_reducible assumption) | assumption); omega)] <;> rfl) | rfl | (simp only [List.length_drop, List.length_take]; rfl) | (simp (disch := omega) only [IntWalk.u64_in, IntWalk.i64_in, IntWalk.u8_in]; rfl)) ?_; (with_reducible refine (frame_Join.calls kj14 _ _ (l0.take ((t226.length : Int) : Int).toNat) t233 t234 _ ?side1 ?side2 A32.out).mono ?_); (case side1 => repeat (first | exact (Kd.C_below HR232.out HB.out) | (with_reducible refine Kd.C_alloc ?_ _) | (with_reducible refine Kd.C_drewN ?_ _) | (with_reducible refine Kd.C_drew ?_))); (case side2 => exact HC232.out); rintro e w36 ⟨rfl, hb⟩; refine ⟨_, rfl, ?_⟩; have n0_ := Aside0.mk (Kd.R_below (by (with_reducible repeat (first | apply Kd.R_alloc | apply Kd.R_drewN | apply Kd.R_drew)); exact HO_8.out) hb); have n1_ := Aside0.mk (below_step (by repeat (first | (with_reducible first | exact HB.out | apply below_alloc | apply pw_below_drewN | apply below_drew1) | exact HB.out)) hb); clear HO_8; clear HB; have HO_8 := n0_; have HB := n1_; clear n0_ n1_; (try clear hb); (try clear hb2); (try clear hk); (try clear hi); (try clear A32)))
                        (try simp only [Act.put, List.setIfInBounds_toArray, List.set_cons_zero, List.set_cons_succ])
                        go_cut [72] (fun v72 wc => ∃ (kq : Nat) (x72_32 : Bool), v72 = .bool x72_32 ∧ Aside0 (screelaw04_FrameCut.j1 kq l0 t224 ji11 t226 t227 x72_32 = some r) ∧ Aside0 (kq ≤ kj14) ∧ Aside0 (Kd.R Kd.string 9 wc w.heap.size (fun _ => True) (.slice Ao34 t226.length co34) t226) ∧ Aside0 (Below w.heap.size w wc))
                        case first =>
                          have H := HC33.out
                          clear HC33
                          by_cases c37 : t234 = 0
                          · rw [if_pos c37] at H
                            have c37b0 : (t234 == 0) = true := beq_iff_eq.mpr c37
                            have c37b1 : (t234 != 0) = false := bne_eq_false_iff_eq.mpr c37
                            clear c37
                            (first | rw [c37b0] | (simp only [i64_w, i32_w]; rw [c37b0]) | skip)
                            have H' := Aside0.mk H
                            clear H
                            go_wp2
                            go_meet
                            case rel => exact ⟨_, ((t227 != (t233.size : Int))), (by first | rfl | (simp; done) | (simp [*]; done)), (by first | (with_reducible exact H') | exact H' | (subst_vars; exact H')), ⟨by have := HJ14.out; first | omega | exact Nat.le_refl _⟩, ⟨by (with_reducible repeat (first | apply Kd.R_alloc | apply Kd.R_drewN | apply Kd.R_drew)); exact HO_8.out⟩, ⟨by repeat (first | (with_reducible first | exact HB.out | apply below_alloc | apply pw_below_drewN | apply below_drew1) | exact HB.out)⟩⟩
                          · rw [if_neg c37] at H
                            have c37b0 : (t234 == 0) = false := beq_eq_false_iff_ne.mpr c37
                            have c37b1 : (t234 != 0) = true := bne_iff_ne.mpr c37
                            (first | rw [c37b0] | (simp only [i64_w, i32_w]; rw [c37b0]) | skip)
                            have H' := Aside0.mk H
                            clear H
                            go_wp2
                            go_meet
                            case rel => exact ⟨_, (true), (by first | rfl | (simp; done) | (simp [*]; done)), (by first | (with_reducible exact H') | exact H' | (subst_vars; exact H')), ⟨by have := HJ14.out; first | omega | exact Nat.le_refl _⟩, ⟨by (with_reducible repeat (first | apply Kd.R_alloc | apply Kd.R_drewN | apply Kd.R_drew)); exact HO_8.out⟩, ⟨by repeat (first | (with_reducible first | exact HB.out | apply below_alloc | apply pw_below_drewN | apply below_drew1) | exact HB.out)⟩⟩
                        case rest =>
                          clear HC33
                          try clear c1
                          try clear c2
                          try clear p2
                          try clear c3
                          try clear c4
                          try clear c5
                          try clear c6
                          try clear p6
                          try clear c9
                          try clear c9b0
                          try clear c9b1
                          try clear c10
                          try clear c10b0
                          try clear c10b1
                          try clear c11
                          try clear c12
                          try clear c12b0
                          try clear c12b1
                          try clear c13
                          try clear c13b0
                          try clear c13b1
                          try clear c17
                          try clear c19
                          try clear c19b0
                          try clear c19b1
                          try clear c21
                          try clear c21b0
                          try clear c21b1
                          try clear c22
                          try clear c22b0
                          try clear c22b1
                          try clear c24
                          try clear c29
                          try clear c30
                          try clear c30b0
                          try clear c30b1
                          try clear c31
                          try clear c31b0
                          try clear c31b1
                          try clear c37
                          try clear c37b0
                          try clear c37b1
                          try clear p2
                          try clear p6
                          obtain ⟨kq, x72_32, rfl, HA, HJ32, HO_8, HB⟩ := hcut
                          cases kq with
                          | zero => exact absurd HA.out (by simp [screelaw04_FrameCut.j1])
                          | succ kj32 =>
                            have H := HA.out
                            clear HA
                            simp only [screelaw04_FrameCut.j1] at H
                            by_cases c38 : x72_32 = true
                            · subst c38
                              have H1 : (some false) = some r := by rw [if_pos rfl] at H; exact H
                              clear H
                              have H := H1
                              clear H1
                              obtain rfl := Option.some.inj H
                              go_wp2
                              go_ret
                              exact ⟨by first | rfl | (simp [errW_none, errW_some] <;> rfl) | (simp (disch := omega) only [← i64_w, IntWalk.i64_in]; rfl) | (simp only [← hji11]; first | rfl | (simp [errW_none, errW_some] <;> rfl)) | (simp [*, errW_none, errW_some] <;> rfl), by repeat (first | (with_reducible first | exact HB.out | apply below_alloc | apply pw_below_drewN | apply below_drew1) | exact HB.out)⟩
                            · replace c38 := Bool.eq_false_iff.mpr c38
                              subst c38
                              have H1 : (if (t226.length : Int) = (l0.length : Int) then (some (t227 == (t224.size : Int))) else (if 0 ≤ (t226.length : Int) then (if (t226.length : Int) < (l0.length : Int) then ((frame_Make.f kj32 (rdOf ByteArray.empty l0 (t226.length : Int))).bind fun bt236 => (some (decide ((wrap64 (t227 + (bt236.1.size : Int))) > ji11)))) else (none)) else (none))) = some r := by rw [if_neg (show ¬ (false = true) by decide)] at H; exact H
                              clear H
                              have H := H1
                              clear H1
                              by_cases c39 : (t226.length : Int) = (l0.length : Int)
                              · rw [if_pos c39] at H
                                have c39b0 : ((t226.length : Int) == (l0.length : Int)) = true := beq_iff_eq.mpr c39
                                have c39b1 : ((t226.length : Int) != (l0.length : Int)) = false := bne_eq_false_iff_eq.mpr c39
                                have c39b2 : (t226.length == l0.length) = true := by first | simpa using c39 | (simp at c39 ⊢; omega)
                                clear c39
                                obtain rfl := Option.some.inj H
                                go_wp2
                                go_ret
                                exact ⟨by first | rfl | (simp [errW_none, errW_some] <;> rfl) | (simp (disch := omega) only [← i64_w, IntWalk.i64_in]; rfl) | (simp only [← hji11]; first | rfl | (simp [errW_none, errW_some] <;> rfl)) | (simp [*, errW_none, errW_some] <;> rfl), by repeat (first | (with_reducible first | exact HB.out | apply below_alloc | apply pw_below_drewN | apply below_drew1) | exact HB.out)⟩
                              · rw [if_neg c39] at H
                                have c39b0 : ((t226.length : Int) == (l0.length : Int)) = false := beq_eq_false_iff_ne.mpr c39
                                have c39b1 : ((t226.length : Int) != (l0.length : Int)) = true := bne_iff_ne.mpr c39
                                have c39b2 : (t226.length == l0.length) = false := by first | simpa using c39 | (simp at c39 ⊢; omega)
                                by_cases c40 : 0 ≤ (t226.length : Int)
                                · rw [if_pos c40] at H
                                  have c40b0 : decide (0 ≤ (t226.length : Int)) = true := decide_eq_true c40
                                  have c40b1 : decide (0 ≤ t226.length) = true := decide_eq_true (by omega)
                                  clear c40
                                  by_cases c41 : (t226.length : Int) < (l0.length : Int)
                                  · rw [if_pos c41] at H
                                    have c41b0 : decide ((t226.length : Int) < (l0.length : Int)) = true := decide_eq_true c41
                                    have c41b1 : decide (t226.length < l0.length) = true := decide_eq_true (Int.ofNat_lt.mp c41)
                                    clear c41
                                    replace H := Option.bind_eq_some_iff.mp H
                                    obtain ⟨⟨t236, t237⟩, A420, H⟩ := H
                                    replace H : (some (decide ((wrap64 (t227 + (t236.size : Int))) > ji11))) = some r := H
                                    have A42 := Aside0.mk A420
                                    clear A420
                                    obtain rfl := Option.some.inj H
                                    have p235 : 0 ≤ ((t226.length : Int) : Int) := of_decide_eq_true (by first | (with_reducible assumption) | assumption)
                                    have q235 : (t226.length : Int) < (l0.length : Int) := of_decide_eq_true (by first | (with_reducible assumption) | assumption)
                                    obtain ⟨ad235, e235, hx235_0⟩ := Kd.at_string HR0.out (t226.length : Int) p235 q235
                                    cases e235
                                    replace hx235_0 := (HB.out.cell (World.block_lt_of_cell? w _ hx235_0)).trans hx235_0
                                    (try simp only [Go.IntWalk.toNatUp] at hx235_0)
                                    replace p235 := eq_true p235
                                    replace q235 := eq_true q235
                                    go_wp2_with (first | ((with_reducible refine gate_callee (f := 19) rfl ?_); refine goesL_ (some 88) rfl rfl Try.func19 (by kernel_rfl) rfl #[.string (rdOf ByteArray.empty l0 (t226.length : Int))] rfl (by (try simp only [List.map_toArray, List.map_cons, List.map_nil]); first | done | rfl | (simp only [List.length_drop, List.length_take]; rfl) | (simp (disch := omega) only [IntWalk.u64_in, IntWalk.i64_in, IntWalk.u8_in]; rfl)) ?_; (with_reducible refine (frame_Make.calls kj32 (rdOf ByteArray.empty l0 (t226.length : Int)) t236 t237 _ A42.out).mono ?_); rintro e w43 ⟨rfl, hb⟩; refine ⟨_, rfl, ?_⟩; have n0_ := Aside0.mk (Kd.R_below (by (with_reducible repeat (first | apply Kd.R_alloc | apply Kd.R_drewN | apply Kd.R_drew)); exact HO_8.out) hb); have n1_ := Aside0.mk (below_step (by repeat (first | (with_reducible first | exact HB.out | apply below_alloc | apply pw_below_drewN | apply below_drew1) | exact HB.out)) hb); clear HO_8; clear HB; have HO_8 := n0_; have HB := n1_; clear n0_ n1_; (try clear hb); (try clear hb2); (try clear hk); (try clear hi); (try clear A42)))
                                    go_ret
                                    exact ⟨by first | rfl | (simp [errW_none, errW_some] <;> rfl) | (simp (disch := omega) only [← i64_w, IntWalk.i64_in]; rfl) | (simp only [← hji11]; first | rfl | (simp [errW_none, errW_some] <;> rfl)) | (simp [*, errW_none, errW_some] <;> rfl), by repeat (first | (with_reducible first | exact HB.out | apply below_alloc | apply pw_below_drewN | apply below_drew1) | exact HB.out)⟩
                                  · rw [if_neg c41] at H
                                    exact absurd H (by simp)
                                · rw [if_neg c40] at H
                                  exact absurd H (by simp)
                      · rw [if_neg c31] at H
                        exact absurd H (by simp)
                    · rw [if_neg c30] at H
                      exact absurd H (by simp)
            · rw [if_neg c13] at H
              exact absurd H (by simp)
          · rw [if_neg c12] at H
            exact absurd H (by simp)
      · rw [if_neg c9] at H
        have c9b0 : (t225 == 0) = false := beq_eq_false_iff_ne.mpr c9
        have c9b1 : (t225 != 0) = true := bne_iff_ne.mpr c9
        obtain rfl := Option.some.inj H
        go_enter Try.func5, Try.ntmps5
        go_wp2_with (first | ((with_reducible refine gate_callee (f := 10) rfl ?_); refine goesL_ (some 14) rfl rfl Try.func10 (by kernel_rfl) rfl #[] rfl (by (try simp only [List.map_toArray, List.map_cons, List.map_nil]); first | done | rfl | (simp only [List.length_drop, List.length_take]; rfl) | (simp (disch := omega) only [IntWalk.u64_in, IntWalk.i64_in, IntWalk.u8_in]; rfl)) ?_; (with_reducible refine (screelaw04_awake.calls k  true _ A3.out).mono ?_); rintro e w44 ⟨rfl, hb⟩; refine ⟨_, rfl, ?_⟩; have n0_ := Aside0.mk (below_step (by repeat (first | (with_reducible first | exact HB.out | apply below_alloc | apply pw_below_drewN | apply below_drew1) | exact HB.out)) hb); clear HB; have HB := n0_; clear n0_; (try clear hb); (try clear hb2); (try clear hk); (try clear hi); (try clear A3)) | ((with_reducible refine gate_callee (f := 11) rfl ?_); refine goesL_ (some 17) rfl rfl Try.func11 (by kernel_rfl) rfl #[.slice A0 l0.length c0] rfl (by (try simp only [List.map_toArray, List.map_cons, List.map_nil]); first | done | rfl | (simp only [List.length_drop, List.length_take]; rfl) | (simp (disch := omega) only [IntWalk.u64_in, IntWalk.i64_in, IntWalk.u8_in]; rfl)) ?_; (with_reducible refine (screelaw04_large.calls k _ _ l0 false _ ?side1 ?side2 A5.out).mono ?_); (case side1 => repeat (first | exact (Kd.C_below HR0.out HB.out) | (with_reducible refine Kd.C_alloc ?_ _) | (with_reducible refine Kd.C_drewN ?_ _) | (with_reducible refine Kd.C_drew ?_))); (case side2 => exact HC0.out); rintro e w' ⟨rfl, ⟨nd, rfl⟩⟩; refine ⟨_, rfl, ?_⟩) | ((with_reducible refine gate_callee (f := 17) rfl ?_); refine goesL_ (some 20) rfl rfl Try.func17 (by kernel_rfl) rfl #[.slice A0 l0.length c0] rfl (by (try simp only [List.map_toArray, List.map_cons, List.map_nil]); first | done | rfl | (simp only [List.length_drop, List.length_take]; rfl) | (simp (disch := omega) only [IntWalk.u64_in, IntWalk.i64_in, IntWalk.u8_in]; rfl)) ?_; (with_reducible refine (frame_Join.calls k _ _ l0 t224 t225 _ ?side1 ?side2 A8.out).mono ?_); (case side1 => repeat (first | exact (Kd.C_below HR0.out (by repeat (first | (with_reducible first | exact HB.out | apply below_alloc | apply pw_below_drewN | apply below_drew1) | exact HB.out))) | (with_reducible refine Kd.C_alloc ?_ _) | (with_reducible refine Kd.C_drewN ?_ _) | (with_reducible refine Kd.C_drew ?_))); (case side2 => exact HC0.out); rintro e w45 ⟨rfl, hb⟩; refine ⟨_, rfl, ?_⟩; have n0_ := Aside0.mk (below_step (by repeat (first | (with_reducible first | exact HB.out | apply below_alloc | apply pw_below_drewN | apply below_drew1) | exact HB.out)) hb); clear HB; have HB := n0_; clear n0_; (try clear hb); (try clear hb2); (try clear hk); (try clear hi); (try clear A8)))
        go_ret
        exact ⟨by first | rfl | (simp [errW_none, errW_some] <;> rfl) | (simp (disch := omega) only [← i64_w, IntWalk.i64_in]; rfl) | (simp [*, errW_none, errW_some] <;> rfl), by repeat (first | (with_reducible first | exact HB.out | apply below_alloc | apply pw_below_drewN | apply below_drew1) | exact HB.out)⟩
  · replace c4 := Bool.eq_false_iff.mpr c4
    subst c4
    have H1 : (some false) = some r := by rw [if_neg (show ¬ (false = true) by decide)] at H; exact H
    clear H
    have H := H1
    clear H1
    obtain rfl := Option.some.inj H
    go_enter Try.func5, Try.ntmps5
    go_wp2_with (first | ((with_reducible refine gate_callee (f := 10) rfl ?_); refine goesL_ (some 14) rfl rfl Try.func10 (by kernel_rfl) rfl #[] rfl (by (try simp only [List.map_toArray, List.map_cons, List.map_nil]); first | done | rfl | (simp only [List.length_drop, List.length_take]; rfl) | (simp (disch := omega) only [IntWalk.u64_in, IntWalk.i64_in, IntWalk.u8_in]; rfl)) ?_; (with_reducible refine (screelaw04_awake.calls k  false _ A3.out).mono ?_); rintro e w46 ⟨rfl, hb⟩; refine ⟨_, rfl, ?_⟩; have n0_ := Aside0.mk (below_step (by repeat (first | (with_reducible first | exact HB.out | apply below_alloc | apply pw_below_drewN | apply below_drew1) | exact HB.out)) hb); clear HB; have HB := n0_; clear n0_; (try clear hb); (try clear hb2); (try clear hk); (try clear hi); (try clear A3)))
    go_ret
    exact ⟨by first | rfl | (simp [errW_none, errW_some] <;> rfl) | (simp (disch := omega) only [← i64_w, IntWalk.i64_in]; rfl) | (simp [*, errW_none, errW_some] <;> rfl), by repeat (first | (with_reducible first | exact HB.out | apply below_alloc | apply pw_below_drewN | apply below_drew1) | exact HB.out)⟩

end Go.Proofs.Ytkdecekmnbbbhaa.P
