-- Printed by a program of this session's own (wip/tools/pprint.sh, over the kit's print, with given contracts): not typed by hand.
import Derived.Test.YtkdecekmnbbbhaaPx0
import Derived.Test.YtkdecekmnbbbhaaPx1
import Derived.Test.YtkdecekmnbbbhaaPx2
namespace Go.Proofs.Ytkdecekmnbbbhaa.P
open Go.RowKit Go.Proofs.YtkdecekmnbbbhaaW.PrintWords Go.Proofs.YtkdecekmnbbbhaaW.PrintLast Go.Proofs.YtkdecekmnbbbhaaW.PrintMore
attribute [local go_sem] max2_int min2_int max_two min_two max_three min_three max_four min_four   -- for this text's walks alone
set_option linter.unusedVariables false
set_option linter.unusedSimpArgs false

/-! ### screelaw04_FrameTakes: function 9 -/
def screelaw04_FrameTakes.l0 : Nat → ByteArray → List ByteArray → Int → ByteArray → Int → Int → Option (Bool)
  | 0, _, _, _, _, _, _ => none
  | k + 1, x0, x3, x4, x5, x25, x26 => if x26 < x25 then ((frame_Take.f k x5).bind fun bt270 => (if 0 ≤ x26 then (if x26 < (x3.length : Int) then (if bt270.1.toList = (rdOf ByteArray.empty x3 x26).toList then (if bt270.2.2 = 0 then (if (bt270.2.1.size : Int) ≥ (x5.size : Int) then (some false) else (screelaw04_FrameTakes.l0 k x0 x3 x4 bt270.2.1 x25 (wrap64 (x26 + 1)))) else (some false)) else (some false)) else (none)) else (none))) else ((frame_Take.f k x5).bind fun bt274 => (if bt274.2.2 = 0 then (some false) else (if (wrap64 ((x0.size : Int) - (x5.size : Int))) = x4 then (some ((bt274.2.2 == 10) == (x5.toList == ([] : List UInt8)))) else (some false))))
def screelaw04_FrameTakes.f (k : Nat) (a0 : ByteArray) : Option (Bool) := (screelaw04_awake.f k).bind fun t265 => (if t265 = true then (if (a0.size : Int) > 8192 then (some true) else ((frame_All.f k a0).bind fun bt266 => (screelaw04_FrameTakes.l0 k a0 bt266.1 bt266.2 a0 (bt266.1.length : Int) 0))) else (some false))
theorem screelaw04_FrameTakes.mono_l : ∀ k, (∀ y0 y1 y2 y3 y4 y5, LeO (screelaw04_FrameTakes.l0 k y0 y1 y2 y3 y4 y5) (screelaw04_FrameTakes.l0 (k + 1) y0 y1 y2 y3 y4 y5))
  | 0 => fun _ _ _ _ _ _ r h => by simp [screelaw04_FrameTakes.l0] at h
  | k + 1 => by
    have ih0 := screelaw04_FrameTakes.mono_l k
    · intro y0 y1 y2 y3 y4 y5
      unfold screelaw04_FrameTakes.l0
      repeat' first
      | (with_reducible exact ih0 _ _ _ _ _ _)
      | (with_reducible exact frame_All.mono _ _)
      | (with_reducible exact frame_Take.mono _ _)
      | (with_reducible exact screelaw04_awake.mono _)
      | (with_reducible exact LeO.refl _)
      | (with_reducible exact LeO.none _)
      | (with_reducible refine LeO.ite ?_ ?_)
      | (with_reducible refine LeO.bind ?_ (fun _ => ?_))
      | exact ih0 _ _ _ _ _ _
      | exact frame_All.mono _ _
      | exact frame_Take.mono _ _
      | exact screelaw04_awake.mono _
      | exact LeO.none _
      | refine LeO.ite ?_ ?_
      | refine LeO.bind ?_ (fun _ => ?_)
theorem screelaw04_FrameTakes.mono : ∀ a0 k, LeO (screelaw04_FrameTakes.f k a0) (screelaw04_FrameTakes.f (k + 1) a0) := by
  intro a0 k
  have ih0 := screelaw04_FrameTakes.mono_l k
  unfold screelaw04_FrameTakes.f
  repeat' first
      | (with_reducible exact ih0 _ _ _ _ _ _)
      | (with_reducible exact frame_All.mono _ _)
      | (with_reducible exact frame_Take.mono _ _)
      | (with_reducible exact screelaw04_awake.mono _)
      | (with_reducible exact LeO.refl _)
      | (with_reducible exact LeO.none _)
      | (with_reducible refine LeO.ite ?_ ?_)
      | (with_reducible refine LeO.bind ?_ (fun _ => ?_))
      | exact ih0 _ _ _ _ _ _
      | exact frame_All.mono _ _
      | exact frame_Take.mono _ _
      | exact screelaw04_awake.mono _
      | exact LeO.none _
      | refine LeO.ite ?_ ?_
      | refine LeO.bind ?_ (fun _ => ?_)
set_option maxHeartbeats 8000000 in
set_option maxRecDepth 100000 in
theorem screelaw04_FrameTakes.calls (k : Nat) (a0 : ByteArray) (r : Bool) (w : World) (h : screelaw04_FrameTakes.f k a0 = some r) :
    Calls Try.prog 9 #[.string a0] w fun e w' => e = .returned (.bool r) ∧ Below w.heap.size w w' := by
  have HB := Aside0.mk (Below.refl w.heap.size w)
  have H : ((screelaw04_awake.f k).bind fun t265 => (if t265 = true then (if (a0.size : Int) > 8192 then (some true) else ((frame_All.f k a0).bind fun bt266 => (screelaw04_FrameTakes.l0 k a0 bt266.1 bt266.2 a0 (bt266.1.length : Int) 0))) else (some false))) = some r := h
  clear h
  replace H := Option.bind_eq_some_iff.mp H
  obtain ⟨t265, A20, H⟩ := H
  replace H : (if t265 = true then (if (a0.size : Int) > 8192 then (some true) else ((frame_All.f k a0).bind fun bt266 => (screelaw04_FrameTakes.l0 k a0 bt266.1 bt266.2 a0 (bt266.1.length : Int) 0))) else (some false)) = some r := H
  have A2 := Aside0.mk A20
  clear A20
  by_cases c3 : t265 = true
  · subst c3
    have H1 : (if (a0.size : Int) > 8192 then (some true) else ((frame_All.f k a0).bind fun bt266 => (screelaw04_FrameTakes.l0 k a0 bt266.1 bt266.2 a0 (bt266.1.length : Int) 0))) = some r := by rw [if_pos rfl] at H; exact H
    clear H
    have H := H1
    clear H1
    by_cases c4 : (a0.size : Int) > 8192
    · rw [if_pos c4] at H
      have c4b0 : decide (8192 < (a0.size : Int)) = true := decide_eq_true c4
      have c4b1 : decide (8192 < a0.size) = true := decide_eq_true (by omega)
      clear c4
      obtain rfl := Option.some.inj H
      go_enter Try.func9, Try.ntmps9
      go_wp2_with (first | ((with_reducible refine gate_callee (f := 10) rfl ?_); refine goesL_ (some 13) rfl rfl Try.func10 (by kernel_rfl) rfl #[] rfl (by (try simp only [List.map_toArray, List.map_cons, List.map_nil]); first | done | rfl | (simp only [List.length_drop, List.length_take]; rfl) | (simp (disch := omega) only [IntWalk.u64_in, IntWalk.i64_in, IntWalk.u8_in]; rfl)) ?_; (with_reducible refine (screelaw04_awake.calls k  true _ A2.out).mono ?_); rintro e w5 ⟨rfl, hb⟩; refine ⟨_, rfl, ?_⟩; have n0_ := Aside0.mk (below_step (by repeat (first | (with_reducible first | exact HB.out | apply below_alloc | apply pw_below_drewN | apply below_drew1) | exact HB.out)) hb); clear HB; have HB := n0_; clear n0_; (try clear hb); (try clear hb2); (try clear hk); (try clear hi); (try clear A2)))
      go_ret
      exact ⟨by first | rfl | (simp [errW_none, errW_some] <;> rfl) | (simp (disch := omega) only [← i64_w, IntWalk.i64_in]; rfl) | (simp [*, errW_none, errW_some] <;> rfl), by repeat (first | (with_reducible first | exact HB.out | apply below_alloc | apply pw_below_drewN | apply below_drew1) | exact HB.out)⟩
    · rw [if_neg c4] at H
      have c4b0 : decide (8192 < (a0.size : Int)) = false := decide_eq_false c4
      have c4b1 : decide (8192 < a0.size) = false := decide_eq_false (by omega)
      clear c4
      replace H := Option.bind_eq_some_iff.mp H
      obtain ⟨⟨t266, t267⟩, A60, H⟩ := H
      replace H : (screelaw04_FrameTakes.l0 k a0 t266 t267 a0 (t266.length : Int) 0) = some r := H
      have A6 := Aside0.mk A60
      clear A60
      have H' := Aside0.mk H
      clear H
      go_enter Try.func9, Try.ntmps9
      go_wp2_with (first | ((with_reducible refine gate_callee (f := 10) rfl ?_); refine goesL_ (some 13) rfl rfl Try.func10 (by kernel_rfl) rfl #[] rfl (by (try simp only [List.map_toArray, List.map_cons, List.map_nil]); first | done | rfl | (simp only [List.length_drop, List.length_take]; rfl) | (simp (disch := omega) only [IntWalk.u64_in, IntWalk.i64_in, IntWalk.u8_in]; rfl)) ?_; (with_reducible refine (screelaw04_awake.calls k  true _ A2.out).mono ?_); rintro e w7 ⟨rfl, hb⟩; refine ⟨_, rfl, ?_⟩; have n0_ := Aside0.mk (below_step (by repeat (first | (with_reducible first | exact HB.out | apply below_alloc | apply pw_below_drewN | apply below_drew1) | exact HB.out)) hb); clear HB; have HB := n0_; clear n0_; (try clear hb); (try clear hb2); (try clear hk); (try clear hi); (try clear A2)) | ((with_reducible refine gate_callee (f := 12) rfl ?_); refine goesL_ (some 20) rfl rfl Try.func12 (by kernel_rfl) rfl #[.string a0] rfl (by (try simp only [List.map_toArray, List.map_cons, List.map_nil]); first | done | rfl | (simp only [List.length_drop, List.length_take]; rfl) | (simp (disch := omega) only [IntWalk.u64_in, IntWalk.i64_in, IntWalk.u8_in]; rfl)) ?_; (with_reducible refine (frame_All.calls k a0 t266 t267 _ A6.out).mono ?_); rintro e w8 ⟨v268, rfl, ho0, hb⟩; refine ⟨_, rfl, ?_⟩; have n0_ := Aside0.mk (Kd.R_lower ho0 (below_size (by repeat (first | (with_reducible first | exact HB.out | apply below_alloc | apply pw_below_drewN | apply below_drew1) | exact HB.out)))); have n1_ := Aside0.mk (below_step (by repeat (first | (with_reducible first | exact HB.out | apply below_alloc | apply pw_below_drewN | apply below_drew1) | exact HB.out)) hb); clear HB; have HO269 := n0_; have HB := n1_; clear n0_ n1_; (try clear hb); (try clear hb2); (try clear hk); (try clear hi); (try clear ho0); (try clear A6); obtain ⟨Ao9, co9, eo9⟩ := Kd.R_slice HO269.out; subst eo9))
      go_loopg [5, 26] k (fun kq v5 v26 w' => ∃ (x5_1 : ByteArray) (x26_1 : Int), v5 = .string x5_1 ∧ v26 = .int .i64 x26_1 ∧ Aside0 (screelaw04_FrameTakes.l0 kq a0 t266 t267 x5_1 (t266.length : Int) x26_1 = some r) ∧ Aside0 (kq ≤ k) ∧ Aside0 (Kd.R Kd.string 9 w' w.heap.size (fun _ => True) (.slice Ao9 t266.length co9) t266) ∧ Aside0 (Below w.heap.size w w'))
      case atStart => exact ⟨(a0), (0), (by first | rfl | (simp; done) | (simp [*]; done)), (by first | rfl | (simp; done) | (simp [*]; done)), H', ⟨Nat.le_refl _⟩, ⟨by (with_reducible repeat (first | apply Kd.R_alloc | apply Kd.R_drewN | apply Kd.R_drew)); exact HO269.out⟩, ⟨by repeat (first | (with_reducible first | exact HB.out | apply below_alloc | apply pw_below_drewN | apply below_drew1) | exact HB.out)⟩⟩
      case round =>
        clear H'
        try clear c1
        try clear p2
        try clear c3
        try clear c4
        try clear c4b0
        try clear c4b1
        try clear c9
        obtain ⟨x5_1, x26_1, rfl, rfl, HA, HK1, HO_3, HB⟩ := hrel
        cases gk with
        | zero => exact absurd HA.out (by simp [screelaw04_FrameTakes.l0])
        | succ k1 =>
          have H := HA.out
          clear HA
          simp only [screelaw04_FrameTakes.l0] at H
          by_cases c10 : x26_1 < (t266.length : Int)
          · rw [if_pos c10] at H
            have c10b0 : decide (x26_1 < (t266.length : Int)) = true := decide_eq_true c10
            clear c10
            replace H := Option.bind_eq_some_iff.mp H
            obtain ⟨⟨t270, t271, t272⟩, A110, H⟩ := H
            replace H : (if 0 ≤ x26_1 then (if x26_1 < (t266.length : Int) then (if t270.toList = (rdOf ByteArray.empty t266 x26_1).toList then (if t272 = 0 then (if (t271.size : Int) ≥ (x5_1.size : Int) then (some false) else (screelaw04_FrameTakes.l0 k1 a0 t266 t267 t271 (t266.length : Int) (wrap64 (x26_1 + 1)))) else (some false)) else (some false)) else (none)) else (none)) = some r := H
            have A11 := Aside0.mk A110
            clear A110
            by_cases c12 : 0 ≤ x26_1
            · rw [if_pos c12] at H
              have c12b0 : decide (0 ≤ x26_1) = true := decide_eq_true c12
              clear c12
              by_cases c13 : x26_1 < (t266.length : Int)
              · rw [if_pos c13] at H
                have c13b0 : decide (x26_1 < (t266.length : Int)) = true := decide_eq_true c13
                clear c13
                by_cases c14 : t270.toList = (rdOf ByteArray.empty t266 x26_1).toList
                · rw [if_pos c14] at H
                  have c14b0 : (t270.toList == (rdOf ByteArray.empty t266 x26_1).toList) = true := beq_iff_eq.mpr c14
                  have c14b1 : (t270.toList != (rdOf ByteArray.empty t266 x26_1).toList) = false := bne_eq_false_iff_eq.mpr c14
                  clear c14
                  by_cases c15 : t272 = 0
                  · rw [if_pos c15] at H
                    have c15b0 : (t272 == 0) = true := beq_iff_eq.mpr c15
                    have c15b1 : (t272 != 0) = false := bne_eq_false_iff_eq.mpr c15
                    clear c15
                    by_cases c16 : (t271.size : Int) ≥ (x5_1.size : Int)
                    · rw [if_pos c16] at H
                      have c16b0 : decide ((x5_1.size : Int) ≤ (t271.size : Int)) = true := decide_eq_true c16
                      have c16b1 : decide (x5_1.size ≤ t271.size) = true := decide_eq_true (Int.ofNat_le.mp c16)
                      clear c16
                      obtain rfl := Option.some.inj H
                      go_wp2_with (first | ((with_reducible refine gate_callee (f := 15) rfl ?_); refine goesL_ (some 31) rfl rfl Try.func15 (by kernel_rfl) rfl #[.string x5_1] rfl (by (try simp only [List.map_toArray, List.map_cons, List.map_nil]); first | done | rfl | (simp only [List.length_drop, List.length_take]; rfl) | (simp (disch := omega) only [IntWalk.u64_in, IntWalk.i64_in, IntWalk.u8_in]; rfl)) ?_; (with_reducible refine (frame_Take.calls k1 x5_1 t270 t271 t272 _ A11.out).mono ?_); rintro e w' ⟨rfl, ⟨nd, rfl⟩⟩; refine ⟨_, rfl, ?_⟩; have p273 : 0 ≤ (x26_1 : Int) := of_decide_eq_true (by first | (with_reducible assumption) | assumption); have q273 : x26_1 < (t266.length : Int) := of_decide_eq_true (by first | (with_reducible assumption) | assumption); obtain ⟨ad273, e273, hx273_0⟩ := Kd.at_string (Kd.R_reads' HO_3.out).2.2 x26_1 p273 q273; cases e273; replace p273 := eq_true p273; replace q273 := eq_true q273))
                      go_ret
                      exact ⟨by first | rfl | (simp [errW_none, errW_some] <;> rfl) | (simp (disch := omega) only [← i64_w, IntWalk.i64_in]; rfl) | (simp [*, errW_none, errW_some] <;> rfl), by repeat (first | (with_reducible first | exact HB.out | apply below_alloc | apply pw_below_drewN | apply below_drew1) | exact HB.out)⟩
                    · rw [if_neg c16] at H
                      have c16b0 : decide ((x5_1.size : Int) ≤ (t271.size : Int)) = false := decide_eq_false c16
                      have c16b1 : decide (x5_1.size ≤ t271.size) = false := decide_eq_false (fun h => c16 (Int.ofNat_le.mpr h))
                      clear c16
                      have H' := Aside0.mk H
                      clear H
                      go_wp2_with (first | ((with_reducible refine gate_callee (f := 15) rfl ?_); refine goesL_ (some 31) rfl rfl Try.func15 (by kernel_rfl) rfl #[.string x5_1] rfl (by (try simp only [List.map_toArray, List.map_cons, List.map_nil]); first | done | rfl | (simp only [List.length_drop, List.length_take]; rfl) | (simp (disch := omega) only [IntWalk.u64_in, IntWalk.i64_in, IntWalk.u8_in]; rfl)) ?_; (with_reducible refine (frame_Take.calls k1 x5_1 t270 t271 t272 _ A11.out).mono ?_); rintro e w' ⟨rfl, ⟨nd, rfl⟩⟩; refine ⟨_, rfl, ?_⟩; have p273 : 0 ≤ (x26_1 : Int) := of_decide_eq_true (by first | (with_reducible assumption) | assumption); have q273 : x26_1 < (t266.length : Int) := of_decide_eq_true (by first | (with_reducible assumption) | assumption); obtain ⟨ad273, e273, hx273_0⟩ := Kd.at_string (Kd.R_reads' HO_3.out).2.2 x26_1 p273 q273; cases e273; replace p273 := eq_true p273; replace q273 := eq_true q273))
                      go_roundg k1
                      case measure => have := HK1.out; omega
                      case rel => exact ⟨(t271), (wrap64 (x26_1 + 1)), (by first | rfl | (simp; done) | (simp [*]; done)), (by first | rfl | (simp; done) | (simp [*]; done)), (by first | (with_reducible exact H') | exact H' | (subst_vars; exact H')), ⟨by have := HK1.out; omega⟩, ⟨by (with_reducible repeat (first | apply Kd.R_alloc | apply Kd.R_drewN | apply Kd.R_drew)); exact HO_3.out⟩, ⟨by repeat (first | (with_reducible first | exact HB.out | apply below_alloc | apply pw_below_drewN | apply below_drew1) | exact HB.out)⟩⟩
                  · rw [if_neg c15] at H
                    have c15b0 : (t272 == 0) = false := beq_eq_false_iff_ne.mpr c15
                    have c15b1 : (t272 != 0) = true := bne_iff_ne.mpr c15
                    obtain rfl := Option.some.inj H
                    go_wp2_with (first | ((with_reducible refine gate_callee (f := 15) rfl ?_); refine goesL_ (some 31) rfl rfl Try.func15 (by kernel_rfl) rfl #[.string x5_1] rfl (by (try simp only [List.map_toArray, List.map_cons, List.map_nil]); first | done | rfl | (simp only [List.length_drop, List.length_take]; rfl) | (simp (disch := omega) only [IntWalk.u64_in, IntWalk.i64_in, IntWalk.u8_in]; rfl)) ?_; (with_reducible refine (frame_Take.calls k1 x5_1 t270 t271 t272 _ A11.out).mono ?_); rintro e w' ⟨rfl, ⟨nd, rfl⟩⟩; refine ⟨_, rfl, ?_⟩; have p273 : 0 ≤ (x26_1 : Int) := of_decide_eq_true (by first | (with_reducible assumption) | assumption); have q273 : x26_1 < (t266.length : Int) := of_decide_eq_true (by first | (with_reducible assumption) | assumption); obtain ⟨ad273, e273, hx273_0⟩ := Kd.at_string (Kd.R_reads' HO_3.out).2.2 x26_1 p273 q273; cases e273; replace p273 := eq_true p273; replace q273 := eq_true q273))
                    go_ret
                    exact ⟨by first | rfl | (simp [errW_none, errW_some] <;> rfl) | (simp (disch := omega) only [← i64_w, IntWalk.i64_in]; rfl) | (simp [*, errW_none, errW_some] <;> rfl), by repeat (first | (with_reducible first | exact HB.out | apply below_alloc | apply pw_below_drewN | apply below_drew1) | exact HB.out)⟩
                · rw [if_neg c14] at H
                  have c14b0 : (t270.toList == (rdOf ByteArray.empty t266 x26_1).toList) = false := beq_eq_false_iff_ne.mpr c14
                  have c14b1 : (t270.toList != (rdOf ByteArray.empty t266 x26_1).toList) = true := bne_iff_ne.mpr c14
                  obtain rfl := Option.some.inj H
                  go_wp2_with (first | ((with_reducible refine gate_callee (f := 15) rfl ?_); refine goesL_ (some 31) rfl rfl Try.func15 (by kernel_rfl) rfl #[.string x5_1] rfl (by (try simp only [List.map_toArray, List.map_cons, List.map_nil]); first | done | rfl | (simp only [List.length_drop, List.length_take]; rfl) | (simp (disch := omega) only [IntWalk.u64_in, IntWalk.i64_in, IntWalk.u8_in]; rfl)) ?_; (with_reducible refine (frame_Take.calls k1 x5_1 t270 t271 t272 _ A11.out).mono ?_); rintro e w' ⟨rfl, ⟨nd, rfl⟩⟩; refine ⟨_, rfl, ?_⟩; have p273 : 0 ≤ (x26_1 : Int) := of_decide_eq_true (by first | (with_reducible assumption) | assumption); have q273 : x26_1 < (t266.length : Int) := of_decide_eq_true (by first | (with_reducible assumption) | assumption); obtain ⟨ad273, e273, hx273_0⟩ := Kd.at_string (Kd.R_reads' HO_3.out).2.2 x26_1 p273 q273; cases e273; replace p273 := eq_true p273; replace q273 := eq_true q273))
                  go_ret
                  exact ⟨by first | rfl | (simp [errW_none, errW_some] <;> rfl) | (simp (disch := omega) only [← i64_w, IntWalk.i64_in]; rfl) | (simp [*, errW_none, errW_some] <;> rfl), by repeat (first | (with_reducible first | exact HB.out | apply below_alloc | apply pw_below_drewN | apply below_drew1) | exact HB.out)⟩
              · rw [if_neg c13] at H
                exact absurd H (by simp)
            · rw [if_neg c12] at H
              exact absurd H (by simp)
          · rw [if_neg c10] at H
            have c10b0 : decide (x26_1 < (t266.length : Int)) = false := decide_eq_false c10
            clear c10
            replace H := Option.bind_eq_some_iff.mp H
            obtain ⟨⟨t274, t275, t276⟩, A170, H⟩ := H
            replace H : (if t276 = 0 then (some false) else (if (wrap64 ((a0.size : Int) - (x5_1.size : Int))) = t267 then (some ((t276 == 10) == (x5_1.toList == ([] : List UInt8)))) else (some false))) = some r := H
            have A17 := Aside0.mk A170
            clear A170
            by_cases c18 : t276 = 0
            · rw [if_pos c18] at H
              have c18b0 : (t276 == 0) = true := beq_iff_eq.mpr c18
              have c18b1 : (t276 != 0) = false := bne_eq_false_iff_eq.mpr c18
              clear c18
              obtain rfl := Option.some.inj H
              go_wp2_with (first | ((with_reducible refine gate_callee (f := 15) rfl ?_); refine goesL_ (some 56) rfl rfl Try.func15 (by kernel_rfl) rfl #[.string x5_1] rfl (by (try simp only [List.map_toArray, List.map_cons, List.map_nil]); first | done | rfl | (simp only [List.length_drop, List.length_take]; rfl) | (simp (disch := omega) only [IntWalk.u64_in, IntWalk.i64_in, IntWalk.u8_in]; rfl)) ?_; (with_reducible refine (frame_Take.calls k1 x5_1 t274 t275 t276 _ A17.out).mono ?_); rintro e w' ⟨rfl, ⟨nd, rfl⟩⟩; refine ⟨_, rfl, ?_⟩))
              go_ret
              exact ⟨by first | rfl | (simp [errW_none, errW_some] <;> rfl) | (simp (disch := omega) only [← i64_w, IntWalk.i64_in]; rfl) | (simp [*, errW_none, errW_some] <;> rfl), by repeat (first | (with_reducible first | exact HB.out | apply below_alloc | apply pw_below_drewN | apply below_drew1) | exact HB.out)⟩
            · rw [if_neg c18] at H
              have c18b0 : (t276 == 0) = false := beq_eq_false_iff_ne.mpr c18
              have c18b1 : (t276 != 0) = true := bne_iff_ne.mpr c18
              by_cases c19 : (wrap64 ((a0.size : Int) - (x5_1.size : Int))) = t267
              · rw [if_pos c19] at H
                have c19b0 : ((wrap64 ((a0.size : Int) - (x5_1.size : Int))) == t267) = true := beq_iff_eq.mpr c19
                have c19b1 : ((wrap64 ((a0.size : Int) - (x5_1.size : Int))) != t267) = false := bne_eq_false_iff_eq.mpr c19
                clear c19
                obtain rfl := Option.some.inj H
                go_wp2_with (first | ((with_reducible refine gate_callee (f := 15) rfl ?_); refine goesL_ (some 56) rfl rfl Try.func15 (by kernel_rfl) rfl #[.string x5_1] rfl (by (try simp only [List.map_toArray, List.map_cons, List.map_nil]); first | done | rfl | (simp only [List.length_drop, List.length_take]; rfl) | (simp (disch := omega) only [IntWalk.u64_in, IntWalk.i64_in, IntWalk.u8_in]; rfl)) ?_; (with_reducible refine (frame_Take.calls k1 x5_1 t274 t275 t276 _ A17.out).mono ?_); rintro e w' ⟨rfl, ⟨nd, rfl⟩⟩; refine ⟨_, rfl, ?_⟩))
                go_ret
                exact ⟨by first | rfl | (simp [errW_none, errW_some] <;> rfl) | (simp (disch := omega) only [← i64_w, IntWalk.i64_in]; rfl) | (simp [*, errW_none, errW_some] <;> rfl), by repeat (first | (with_reducible first | exact HB.out | apply below_alloc | apply pw_below_drewN | apply below_drew1) | exact HB.out)⟩
              · rw [if_neg c19] at H
                have c19b0 : ((wrap64 ((a0.size : Int) - (x5_1.size : Int))) == t267) = false := beq_eq_false_iff_ne.mpr c19
                have c19b1 : ((wrap64 ((a0.size : Int) - (x5_1.size : Int))) != t267) = true := bne_iff_ne.mpr c19
                obtain rfl := Option.some.inj H
                go_wp2_with (first | ((with_reducible refine gate_callee (f := 15) rfl ?_); refine goesL_ (some 56) rfl rfl Try.func15 (by kernel_rfl) rfl #[.string x5_1] rfl (by (try simp only [List.map_toArray, List.map_cons, List.map_nil]); first | done | rfl | (simp only [List.length_drop, List.length_take]; rfl) | (simp (disch := omega) only [IntWalk.u64_in, IntWalk.i64_in, IntWalk.u8_in]; rfl)) ?_; (with_reducible refine (frame_Take.calls k1 x5_1 t274 t275 t276 _ A17.out).mono ?_); rintro e w' ⟨rfl, ⟨nd, rfl⟩⟩; refine ⟨_, rfl, ?_⟩))
                go_ret
                exact ⟨by first | rfl | (simp [errW_none, errW_some] <;> rfl) | (simp (disch := omega) only [← i64_w, IntWalk.i64_in]; rfl) | (simp [*, errW_none, errW_some] <;> rfl), by repeat (first | (with_reducible first | exact HB.out | apply below_alloc | apply pw_below_drewN | apply below_drew1) | exact HB.out)⟩
  · replace c3 := Bool.eq_false_iff.mpr c3
    subst c3
    have H1 : (some false) = some r := by rw [if_neg (show ¬ (false = true) by decide)] at H; exact H
    clear H
    have H := H1
    clear H1
    obtain rfl := Option.some.inj H
    go_enter Try.func9, Try.ntmps9
    go_wp2_with (first | ((with_reducible refine gate_callee (f := 10) rfl ?_); refine goesL_ (some 13) rfl rfl Try.func10 (by kernel_rfl) rfl #[] rfl (by (try simp only [List.map_toArray, List.map_cons, List.map_nil]); first | done | rfl | (simp only [List.length_drop, List.length_take]; rfl) | (simp (disch := omega) only [IntWalk.u64_in, IntWalk.i64_in, IntWalk.u8_in]; rfl)) ?_; (with_reducible refine (screelaw04_awake.calls k  false _ A2.out).mono ?_); rintro e w20 ⟨rfl, hb⟩; refine ⟨_, rfl, ?_⟩; have n0_ := Aside0.mk (below_step (by repeat (first | (with_reducible first | exact HB.out | apply below_alloc | apply pw_below_drewN | apply below_drew1) | exact HB.out)) hb); clear HB; have HB := n0_; clear n0_; (try clear hb); (try clear hb2); (try clear hk); (try clear hi); (try clear A2)))
    go_ret
    exact ⟨by first | rfl | (simp [errW_none, errW_some] <;> rfl) | (simp (disch := omega) only [← i64_w, IntWalk.i64_in]; rfl) | (simp [*, errW_none, errW_some] <;> rfl), by repeat (first | (with_reducible first | exact HB.out | apply below_alloc | apply pw_below_drewN | apply below_drew1) | exact HB.out)⟩

/-- THE ONE PURE STATEMENT of screelaw04_FrameTakes: yours. -/
def screelaw04_FrameTakes.Pure : Prop := ∀ (a0 : ByteArray), a0.size ≤ 140737488351232 → ∃ k, screelaw04_FrameTakes.f k a0 = some true
theorem screelaw04_FrameTakes.walk (P : screelaw04_FrameTakes.Pure) (a0 : ByteArray) (w : World) (w0 : a0.size ≤ 140737488351232) :
    Calls Try.prog 9 #[.string a0] w fun e w' => e = .returned (.bool true) ∧ Below w.heap.size w w' := by
  obtain ⟨k, h⟩ := P a0 w0
  refine (screelaw04_FrameTakes.calls k a0 true w h).mono ?_
  rintro e w' ⟨rfl, hd⟩
  exact ⟨rfl, hd⟩

end Go.Proofs.Ytkdecekmnbbbhaa.P
