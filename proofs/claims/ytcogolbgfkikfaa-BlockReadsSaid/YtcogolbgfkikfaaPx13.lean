-- Printed by a program of this session's own (wip/tools/pprint.sh, over the kit's print, with given contracts): not typed by hand.
import Derived.Test.YtcogolbgfkikfaaPx0
import Derived.Test.YtcogolbgfkikfaaPx1
import Derived.Test.YtcogolbgfkikfaaPx4
import Derived.Test.YtcogolbgfkikfaaPx5
import Derived.Test.YtcogolbgfkikfaaPx6
import Derived.Test.YtcogolbgfkikfaaPx7
import Derived.Test.YtcogolbgfkikfaaPx8
import Derived.Test.YtcogolbgfkikfaaPx9
import Derived.Test.YtcogolbgfkikfaaPx11
import Derived.Test.YtcogolbgfkikfaaPx12
namespace Go.Proofs.Ytcogolbgfkikfaa.P
open Go.RowKit Go.Proofs.YtcogolbgfkikfaaW.PrintWords Go.Proofs.YtcogolbgfkikfaaW.PrintLast Go.Proofs.YtcogolbgfkikfaaW.PrintMore
attribute [local go_sem] max2_int min2_int max_two min_two max_three min_three max_four min_four   -- for this text's walks alone
set_option linter.unusedVariables false
set_option linter.unusedSimpArgs false

attribute [local go_sem high] eqA35
/-! ### screelaw09_BlockReads: function 4 -/
def screelaw09_BlockReads.j0 : Nat → ByteArray → ByteArray → Int → Bool → Option (Bool)
  | 0, _, _, _, _ => none
  | k + 1, x0, x1, x2, x26 => if x26 = true then (some true) else ((block_Decode.f k x0).bind fun bt241 => ((screeref09_Decode.f k x0).bind fun bt245 => ((block_Seek.f k x0 x1 x2).bind fun bt249 => ((screeref09_Seek.f k x0 x1 x2).bind fun bt256 => ((screeref07_Same.f k bt241.1 bt245.1).bind fun t263 => (if t263 = true then (if bt241.2 = bt245.2 then (if (bt249.1.toList == bt256.1.toList && (bt249.2.1 == bt256.2.1 && (bt249.2.2.1 == bt256.2.2.1 && (bt249.2.2.2.1.toList == bt256.2.2.2.1.toList)))) = true then (if (bt249.2.2.2.2.1 == bt256.2.2.2.2.1) = true then (if bt249.2.2.2.2.2 = bt256.2.2.2.2.2 then ((block_Count.f k x0).bind fun t264 => ((screeref09_Count.f k x0).bind fun t265 => (some (t264 == t265)))) else (none)) else (none)) else (none)) else (none)) else (none)))))))
def screelaw09_BlockReads.f (k : Nat) (a0 : ByteArray) (a1 : ByteArray) (a2 : Int) : Option (Bool) := (screelaw09_awake.f k).bind fun t240 => (if t240 = true then (if (a0.size : Int) > 8192 then (screelaw09_BlockReads.j0 k a0 a1 a2 true) else (screelaw09_BlockReads.j0 k a0 a1 a2 (decide ((a1.size : Int) > 300)))) else (none))
theorem screelaw09_BlockReads.mono_l : ∀ k, (∀ y0 y1 y2 y3, LeO (screelaw09_BlockReads.j0 k y0 y1 y2 y3) (screelaw09_BlockReads.j0 (k + 1) y0 y1 y2 y3))
  | 0 => fun _ _ _ _ r h => by simp [screelaw09_BlockReads.j0] at h
  | k + 1 => by
    have ih0 := screelaw09_BlockReads.mono_l k
    · intro y0 y1 y2 y3
      unfold screelaw09_BlockReads.j0
      repeat' first
      | (with_reducible exact ih0 _ _ _ _)
      | (with_reducible exact block_Count.mono _ _)
      | (with_reducible exact block_Decode.mono _ _)
      | (with_reducible exact block_Seek.mono _ _ _ _)
      | (with_reducible exact screelaw09_awake.mono _)
      | (with_reducible exact screeref07_Same.mono _ _ _)
      | (with_reducible exact screeref09_Count.mono _ _)
      | (with_reducible exact screeref09_Decode.mono _ _)
      | (with_reducible exact screeref09_Seek.mono _ _ _ _)
      | (with_reducible exact LeO.refl _)
      | (with_reducible exact LeO.none _)
      | (with_reducible refine LeO.ite ?_ ?_)
      | (with_reducible refine LeO.bind ?_ (fun _ => ?_))
      | exact ih0 _ _ _ _
      | exact block_Count.mono _ _
      | exact block_Decode.mono _ _
      | exact block_Seek.mono _ _ _ _
      | exact screelaw09_awake.mono _
      | exact screeref07_Same.mono _ _ _
      | exact screeref09_Count.mono _ _
      | exact screeref09_Decode.mono _ _
      | exact screeref09_Seek.mono _ _ _ _
      | exact LeO.none _
      | refine LeO.ite ?_ ?_
      | refine LeO.bind ?_ (fun _ => ?_)
theorem screelaw09_BlockReads.mono : ∀ a0 a1 a2 k, LeO (screelaw09_BlockReads.f k a0 a1 a2) (screelaw09_BlockReads.f (k + 1) a0 a1 a2) := by
  intro a0 a1 a2 k
  have ih0 := screelaw09_BlockReads.mono_l k
  unfold screelaw09_BlockReads.f
  repeat' first
      | (with_reducible exact ih0 _ _ _ _)
      | (with_reducible exact block_Count.mono _ _)
      | (with_reducible exact block_Decode.mono _ _)
      | (with_reducible exact block_Seek.mono _ _ _ _)
      | (with_reducible exact screelaw09_awake.mono _)
      | (with_reducible exact screeref07_Same.mono _ _ _)
      | (with_reducible exact screeref09_Count.mono _ _)
      | (with_reducible exact screeref09_Decode.mono _ _)
      | (with_reducible exact screeref09_Seek.mono _ _ _ _)
      | (with_reducible exact LeO.refl _)
      | (with_reducible exact LeO.none _)
      | (with_reducible refine LeO.ite ?_ ?_)
      | (with_reducible refine LeO.bind ?_ (fun _ => ?_))
      | exact ih0 _ _ _ _
      | exact block_Count.mono _ _
      | exact block_Decode.mono _ _
      | exact block_Seek.mono _ _ _ _
      | exact screelaw09_awake.mono _
      | exact screeref07_Same.mono _ _ _
      | exact screeref09_Count.mono _ _
      | exact screeref09_Decode.mono _ _
      | exact screeref09_Seek.mono _ _ _ _
      | exact LeO.none _
      | refine LeO.ite ?_ ?_
      | refine LeO.bind ?_ (fun _ => ?_)
set_option maxHeartbeats 8000000 in
set_option maxRecDepth 100000 in
theorem screelaw09_BlockReads.calls (k : Nat) (a0 : ByteArray) (a1 : ByteArray) (a2 : Int) (r : Bool) (w : World) (h : screelaw09_BlockReads.f k a0 a1 a2 = some r) :
    Calls Try.prog 4 #[.string a0, .string a1, .int .u64 a2] w fun e w' => e = .returned (.bool r) ∧ Below w.heap.size w w' := by
  have hu35 := Try.underlying35
  have HB := Aside0.mk (Below.refl w.heap.size w)
  have H : ((screelaw09_awake.f k).bind fun t240 => (if t240 = true then (if (a0.size : Int) > 8192 then (screelaw09_BlockReads.j0 k a0 a1 a2 true) else (screelaw09_BlockReads.j0 k a0 a1 a2 (decide ((a1.size : Int) > 300)))) else (none))) = some r := h
  clear h
  replace H := Option.bind_eq_some_iff.mp H
  obtain ⟨t240, A40, H⟩ := H
  replace H : (if t240 = true then (if (a0.size : Int) > 8192 then (screelaw09_BlockReads.j0 k a0 a1 a2 true) else (screelaw09_BlockReads.j0 k a0 a1 a2 (decide ((a1.size : Int) > 300)))) else (none)) = some r := H
  have A4 := Aside0.mk A40
  clear A40
  by_cases c5 : t240 = true
  · subst c5
    have H1 : (if (a0.size : Int) > 8192 then (screelaw09_BlockReads.j0 k a0 a1 a2 true) else (screelaw09_BlockReads.j0 k a0 a1 a2 (decide ((a1.size : Int) > 300)))) = some r := by rw [if_pos rfl] at H; exact H
    clear H
    have H := H1
    clear H1
    have HC6 := Aside0.mk H
    clear H
    go_enter Try.func4, Try.ntmps4
    go_upto_region 3 with (first | ((with_reducible refine gate_callee (f := 10) rfl ?_); refine goesL_ (some 17) rfl rfl Try.func10 (by kernel_rfl) rfl #[] rfl (by (try simp only [List.map_toArray, List.map_cons, List.map_nil]); first | done | rfl | (simp only [List.length_drop, List.length_take]; rfl) | (simp (disch := omega) only [IntWalk.u64_in, IntWalk.i64_in, IntWalk.u8_in]; rfl)) ?_; (with_reducible refine (screelaw09_awake.calls k  true _ A4.out).mono ?_); rintro e w7 ⟨rfl, hb⟩; refine ⟨_, rfl, ?_⟩; have n0_ := Aside0.mk (below_step (by repeat (first | (with_reducible first | exact HB.out | apply below_alloc | apply pw_below_drewN | apply below_drew1) | exact HB.out)) hb); clear HB; have HB := n0_; clear n0_; (try clear hb); (try clear hb2); (try clear hk); (try clear hi); (try clear A4)))
    (try simp only [Act.put, List.setIfInBounds_toArray, List.set_cons_zero, List.set_cons_succ])
    go_cut [26] (fun v26 wc => ∃ (kq : Nat) (x26_5 : Bool), v26 = .bool x26_5 ∧ Aside0 (screelaw09_BlockReads.j0 kq a0 a1 a2 x26_5 = some r) ∧ Aside0 (kq ≤ k) ∧ Aside0 (Below w.heap.size w wc))
    case first =>
      have H := HC6.out
      clear HC6
      by_cases c8 : (a0.size : Int) > 8192
      · rw [if_pos c8] at H
        have c8b0 : decide (8192 < (a0.size : Int)) = true := decide_eq_true c8
        have c8b1 : decide (8192 < a0.size) = true := decide_eq_true (by omega)
        clear c8
        (first | rw [c8b0] | (simp only [i64_w, i32_w]; rw [c8b0]) | skip)
        have H' := Aside0.mk H
        clear H
        go_wp2
        go_meet
        case rel => exact ⟨_, (true), (by first | rfl | (simp; done) | (simp [*]; done)), (by first | (with_reducible exact H') | exact H' | (subst_vars; exact H')), ⟨by first | omega | exact Nat.le_refl _⟩, ⟨by repeat (first | (with_reducible first | exact HB.out | apply below_alloc | apply pw_below_drewN | apply below_drew1) | exact HB.out)⟩⟩
      · rw [if_neg c8] at H
        have c8b0 : decide (8192 < (a0.size : Int)) = false := decide_eq_false c8
        have c8b1 : decide (8192 < a0.size) = false := decide_eq_false (by omega)
        clear c8
        (first | rw [c8b0] | (simp only [i64_w, i32_w]; rw [c8b0]) | skip)
        have H' := Aside0.mk H
        clear H
        go_wp2
        go_meet
        case rel => exact ⟨_, (decide ((a1.size : Int) > 300)), (by first | rfl | (simp; done) | (simp [*]; done)), (by first | (with_reducible exact H') | exact H' | (subst_vars; exact H')), ⟨by first | omega | exact Nat.le_refl _⟩, ⟨by repeat (first | (with_reducible first | exact HB.out | apply below_alloc | apply pw_below_drewN | apply below_drew1) | exact HB.out)⟩⟩
    case rest =>
      clear HC6
      try clear c1
      try clear p2
      try clear c4
      try clear c5
      try clear c8
      try clear c8b0
      try clear c8b1
      obtain ⟨kq, x26_5, rfl, HA, HJ5, HB⟩ := hcut
      cases kq with
      | zero => exact absurd HA.out (by simp [screelaw09_BlockReads.j0])
      | succ kj5 =>
        have H := HA.out
        clear HA
        simp only [screelaw09_BlockReads.j0] at H
        by_cases c9 : x26_5 = true
        · subst c9
          have H1 : (some true) = some r := by rw [if_pos rfl] at H; exact H
          clear H
          have H := H1
          clear H1
          obtain rfl := Option.some.inj H
          go_wp2
          go_ret
          exact ⟨by first | rfl | (simp [errW_none, errW_some] <;> rfl) | (simp (disch := omega) only [← i64_w, IntWalk.i64_in]; rfl) | (simp [*, errW_none, errW_some] <;> rfl), by repeat (first | (with_reducible first | exact HB.out | apply below_alloc | apply pw_below_drewN | apply below_drew1) | exact HB.out)⟩
        · replace c9 := Bool.eq_false_iff.mpr c9
          subst c9
          have H1 : ((block_Decode.f kj5 a0).bind fun bt241 => ((screeref09_Decode.f kj5 a0).bind fun bt245 => ((block_Seek.f kj5 a0 a1 a2).bind fun bt249 => ((screeref09_Seek.f kj5 a0 a1 a2).bind fun bt256 => ((screeref07_Same.f kj5 bt241.1 bt245.1).bind fun t263 => (if t263 = true then (if bt241.2 = bt245.2 then (if (bt249.1.toList == bt256.1.toList && (bt249.2.1 == bt256.2.1 && (bt249.2.2.1 == bt256.2.2.1 && (bt249.2.2.2.1.toList == bt256.2.2.2.1.toList)))) = true then (if (bt249.2.2.2.2.1 == bt256.2.2.2.2.1) = true then (if bt249.2.2.2.2.2 = bt256.2.2.2.2.2 then ((block_Count.f kj5 a0).bind fun t264 => ((screeref09_Count.f kj5 a0).bind fun t265 => (some (t264 == t265)))) else (none)) else (none)) else (none)) else (none)) else (none))))))) = some r := by rw [if_neg (show ¬ (false = true) by decide)] at H; exact H
          clear H
          have H := H1
          clear H1
          replace H := Option.bind_eq_some_iff.mp H
          obtain ⟨⟨t241, t242⟩, A100, H⟩ := H
          replace H : ((screeref09_Decode.f kj5 a0).bind fun bt245 => ((block_Seek.f kj5 a0 a1 a2).bind fun bt249 => ((screeref09_Seek.f kj5 a0 a1 a2).bind fun bt256 => ((screeref07_Same.f kj5 t241 bt245.1).bind fun t263 => (if t263 = true then (if t242 = bt245.2 then (if (bt249.1.toList == bt256.1.toList && (bt249.2.1 == bt256.2.1 && (bt249.2.2.1 == bt256.2.2.1 && (bt249.2.2.2.1.toList == bt256.2.2.2.1.toList)))) = true then (if (bt249.2.2.2.2.1 == bt256.2.2.2.2.1) = true then (if bt249.2.2.2.2.2 = bt256.2.2.2.2.2 then ((block_Count.f kj5 a0).bind fun t264 => ((screeref09_Count.f kj5 a0).bind fun t265 => (some (t264 == t265)))) else (none)) else (none)) else (none)) else (none)) else (none)))))) = some r := H
          have A10 := Aside0.mk A100
          clear A100
          replace H := Option.bind_eq_some_iff.mp H
          obtain ⟨⟨t245, t246⟩, A110, H⟩ := H
          replace H : ((block_Seek.f kj5 a0 a1 a2).bind fun bt249 => ((screeref09_Seek.f kj5 a0 a1 a2).bind fun bt256 => ((screeref07_Same.f kj5 t241 t245).bind fun t263 => (if t263 = true then (if t242 = t246 then (if (bt249.1.toList == bt256.1.toList && (bt249.2.1 == bt256.2.1 && (bt249.2.2.1 == bt256.2.2.1 && (bt249.2.2.2.1.toList == bt256.2.2.2.1.toList)))) = true then (if (bt249.2.2.2.2.1 == bt256.2.2.2.2.1) = true then (if bt249.2.2.2.2.2 = bt256.2.2.2.2.2 then ((block_Count.f kj5 a0).bind fun t264 => ((screeref09_Count.f kj5 a0).bind fun t265 => (some (t264 == t265)))) else (none)) else (none)) else (none)) else (none)) else (none))))) = some r := H
          have A11 := Aside0.mk A110
          clear A110
          replace H := Option.bind_eq_some_iff.mp H
          obtain ⟨⟨t249, t250, t251, t252, t253, t254⟩, A120, H⟩ := H
          replace H : ((screeref09_Seek.f kj5 a0 a1 a2).bind fun bt256 => ((screeref07_Same.f kj5 t241 t245).bind fun t263 => (if t263 = true then (if t242 = t246 then (if (t249.toList == bt256.1.toList && (t250 == bt256.2.1 && (t251 == bt256.2.2.1 && (t252.toList == bt256.2.2.2.1.toList)))) = true then (if (t253 == bt256.2.2.2.2.1) = true then (if t254 = bt256.2.2.2.2.2 then ((block_Count.f kj5 a0).bind fun t264 => ((screeref09_Count.f kj5 a0).bind fun t265 => (some (t264 == t265)))) else (none)) else (none)) else (none)) else (none)) else (none)))) = some r := H
          have A12 := Aside0.mk A120
          clear A120
          replace H := Option.bind_eq_some_iff.mp H
          obtain ⟨⟨t256, t257, t258, t259, t260, t261⟩, A130, H⟩ := H
          replace H : ((screeref07_Same.f kj5 t241 t245).bind fun t263 => (if t263 = true then (if t242 = t246 then (if (t249.toList == t256.toList && (t250 == t257 && (t251 == t258 && (t252.toList == t259.toList)))) = true then (if (t253 == t260) = true then (if t254 = t261 then ((block_Count.f kj5 a0).bind fun t264 => ((screeref09_Count.f kj5 a0).bind fun t265 => (some (t264 == t265)))) else (none)) else (none)) else (none)) else (none)) else (none))) = some r := H
          have A13 := Aside0.mk A130
          clear A130
          replace H := Option.bind_eq_some_iff.mp H
          obtain ⟨t263, A140, H⟩ := H
          replace H : (if t263 = true then (if t242 = t246 then (if (t249.toList == t256.toList && (t250 == t257 && (t251 == t258 && (t252.toList == t259.toList)))) = true then (if (t253 == t260) = true then (if t254 = t261 then ((block_Count.f kj5 a0).bind fun t264 => ((screeref09_Count.f kj5 a0).bind fun t265 => (some (t264 == t265)))) else (none)) else (none)) else (none)) else (none)) else (none)) = some r := H
          have A14 := Aside0.mk A140
          clear A140
          by_cases c15 : t263 = true
          · subst c15
            have H1 : (if t242 = t246 then (if (t249.toList == t256.toList && (t250 == t257 && (t251 == t258 && (t252.toList == t259.toList)))) = true then (if (t253 == t260) = true then (if t254 = t261 then ((block_Count.f kj5 a0).bind fun t264 => ((screeref09_Count.f kj5 a0).bind fun t265 => (some (t264 == t265)))) else (none)) else (none)) else (none)) else (none)) = some r := by rw [if_pos rfl] at H; exact H
            clear H
            have H := H1
            clear H1
            by_cases c16 : t242 = t246
            · rw [if_pos c16] at H
              have c16b0 : (t242 == t246) = true := beq_iff_eq.mpr c16
              have c16b1 : (t242 != t246) = false := bne_eq_false_iff_eq.mpr c16
              clear c16
              by_cases c17 : (t249.toList == t256.toList && (t250 == t257 && (t251 == t258 && (t252.toList == t259.toList)))) = true
              · rw [if_pos c17] at H
                have c17b0 : (t249.toList == t256.toList && (t250 == t257 && (t251 == t258 && (t252.toList == t259.toList)))) = true := c17
                (try (have c17b1 : decide (t249.toList = t256.toList && (t250 == t257 && (t251 == t258 && (t252.toList == t259.toList)))) = true := by simpa using c17))
                (try (have c17b2 : (t249.toList == t256.toList && (t250 == t257 && (t251 == t258 && (t252.toList == t259.toList)))) = true := by simpa using c17))
                clear c17
                by_cases c18 : (t253 == t260) = true
                · rw [if_pos c18] at H
                  have c18b0 : (t253 == t260) = true := c18
                  (try (have c18b1 : decide (t253 = t260) = true := by simpa using c18))
                  (try (have c18b2 : (t253 == t260) = true := by simpa using c18))
                  clear c18
                  by_cases c19 : t254 = t261
                  · rw [if_pos c19] at H
                    have c19b0 : (t254 == t261) = true := beq_iff_eq.mpr c19
                    have c19b1 : (t254 != t261) = false := bne_eq_false_iff_eq.mpr c19
                    clear c19
                    replace H := Option.bind_eq_some_iff.mp H
                    obtain ⟨t264, A200, H⟩ := H
                    replace H : ((screeref09_Count.f kj5 a0).bind fun t265 => (some (t264 == t265))) = some r := H
                    have A20 := Aside0.mk A200
                    clear A200
                    replace H := Option.bind_eq_some_iff.mp H
                    obtain ⟨t265, A210, H⟩ := H
                    replace H : (some (t264 == t265)) = some r := H
                    have A21 := Aside0.mk A210
                    clear A210
                    obtain rfl := Option.some.inj H
                    go_wp2_with (first | ((with_reducible refine gate_callee (f := 17) rfl ?_); refine goesL_ (some 29) rfl rfl Try.func17 (by kernel_rfl) rfl #[.string a0] rfl (by (try simp only [List.map_toArray, List.map_cons, List.map_nil]); first | done | rfl | (simp only [List.length_drop, List.length_take]; rfl) | (simp (disch := omega) only [IntWalk.u64_in, IntWalk.i64_in, IntWalk.u8_in]; rfl)) ?_; (with_reducible refine (block_Decode.calls kj5 a0 t241 t242 _ A10.out).mono ?_); rintro e w22 ⟨v243, rfl, ho0, hb⟩; refine ⟨_, rfl, ?_⟩; have n0_ := Aside0.mk (Kd.R_lower ho0 (below_size (by repeat (first | (with_reducible first | exact HB.out | apply below_alloc | apply pw_below_drewN | apply below_drew1) | exact HB.out)))); have n1_ := Aside0.mk (below_step (by repeat (first | (with_reducible first | exact HB.out | apply below_alloc | apply pw_below_drewN | apply below_drew1) | exact HB.out)) hb); clear HB; have HO244 := n0_; have HB := n1_; clear n0_ n1_; (try clear hb); (try clear hb2); (try clear hk); (try clear hi); (try clear ho0); (try clear A10)) | ((with_reducible refine gate_callee (f := 18) rfl ?_); refine goesL_ (some 34) rfl rfl Try.func18 (by kernel_rfl) rfl #[.string a0] rfl (by (try simp only [List.map_toArray, List.map_cons, List.map_nil]); first | done | rfl | (simp only [List.length_drop, List.length_take]; rfl) | (simp (disch := omega) only [IntWalk.u64_in, IntWalk.i64_in, IntWalk.u8_in]; rfl)) ?_; (with_reducible refine (screeref09_Decode.calls kj5 a0 t245 t246 _ A11.out).mono ?_); rintro e w23 ⟨v247, rfl, ho0, hb⟩; refine ⟨_, rfl, ?_⟩; have n0_ := Aside0.mk (Kd.R_elder' (by (with_reducible repeat (first | apply Kd.R_alloc | apply Kd.R_drewN | apply Kd.R_drew)); exact HO244.out) (Kd.R_base ho0) hb); have n1_ := Aside0.mk (Kd.R_lower (Kd.R_new' ho0 (Kd.R_lt (by (with_reducible repeat (first | apply Kd.R_alloc | apply Kd.R_drewN | apply Kd.R_drew)); exact HO244.out))) (below_size (by repeat (first | (with_reducible first | exact HB.out | apply below_alloc | apply pw_below_drewN | apply below_drew1) | exact HB.out)))); have n2_ := Aside0.mk (below_step (by repeat (first | (with_reducible first | exact HB.out | apply below_alloc | apply pw_below_drewN | apply below_drew1) | exact HB.out)) hb); clear HO244; clear HB; have HO244 := n0_; have HO248 := n1_; have HB := n2_; clear n0_ n1_ n2_; (try clear hb); (try clear hb2); (try clear hk); (try clear hi); (try clear ho0); (try clear A11)) | ((with_reducible refine gate_callee (f := 19) rfl ?_); refine goesL_ (some 41) rfl rfl Try.func19 (by kernel_rfl) rfl #[.string a0, .string a1, .int .u64 a2] rfl (by (try simp only [List.map_toArray, List.map_cons, List.map_nil]); first | done | rfl | (simp only [List.length_drop, List.length_take]; rfl) | (simp (disch := omega) only [IntWalk.u64_in, IntWalk.i64_in, IntWalk.u8_in]; rfl)) ?_; (with_reducible refine (block_Seek.calls kj5 a0 a1 a2 t249 t250 t251 t252 t253 t254 _ A12.out).mono ?_); rintro e w24 ⟨rfl, hb⟩; refine ⟨_, rfl, ?_⟩; have n0_ := Aside0.mk (Kd.R_below (by (with_reducible repeat (first | apply Kd.R_alloc | apply Kd.R_drewN | apply Kd.R_drew)); exact HO244.out) hb); have n1_ := Aside0.mk (Kd.R_below (by (with_reducible repeat (first | apply Kd.R_alloc | apply Kd.R_drewN | apply Kd.R_drew)); exact HO248.out) hb); have n2_ := Aside0.mk (below_step (by repeat (first | (with_reducible first | exact HB.out | apply below_alloc | apply pw_below_drewN | apply below_drew1) | exact HB.out)) hb); clear HO244; clear HO248; clear HB; have HO244 := n0_; have HO248 := n1_; have HB := n2_; clear n0_ n1_ n2_; (try clear hb); (try clear hb2); (try clear hk); (try clear hi); (try clear A12)) | ((with_reducible refine gate_dst (N := 11) rfl ?_); (try (refine gate_guard (by rfl) ?_; dsimp only)); refine box_event ?hg (N := 11) ?hd (cs := #[.string (⟨#[]⟩ : ByteArray), .int .u64 0, .bool false, .string (⟨#[]⟩ : ByteArray)]) (t := 35) ?hr ?_; (case hd => rfl); (case hg => rfl); (case hr => first | (go_simp; done) | (go_simp; rfl)); intro gb255 hg w25 hbox hb; have n0_ := Aside0.mk (Kd.R_below (Kd.R_elderB (by (with_reducible repeat (first | apply Kd.R_alloc | apply Kd.R_drewN | apply Kd.R_drew)); exact HO244.out) gb255 (Nat.le_of_eq hg.symm)) hb); have n1_ := Aside0.mk (Kd.R_below (Kd.R_elderB (by (with_reducible repeat (first | apply Kd.R_alloc | apply Kd.R_drewN | apply Kd.R_drew)); exact HO248.out) gb255 (Nat.le_of_eq hg.symm)) hb); have n2_ := Aside0.mk (below_step (by repeat (first | (with_reducible first | exact HB.out | apply below_alloc | apply pw_below_drewN | apply below_drew1) | exact HB.out)) hb); have n3_ := Aside0.mk (hbox); have n4_ := Aside0.mk ((by rw [hg]; exact (below_size (by repeat (first | (with_reducible first | exact HB.out | apply below_alloc | apply pw_below_drewN | apply below_drew1) | exact HB.out))) : w.heap.size ≤ gb255)); have n5_ := Aside0.mk ((by rw [hg]; exact (below_size (by repeat (first | (with_reducible first | exact HB.out | apply below_alloc | apply pw_below_drewN | apply below_drew1) | exact HB.out))) : w.heap.size ≤ gb255)); clear HO244; clear HO248; clear HB; have HO244 := n0_; have HO248 := n1_; have HB := n2_; have BK255 := n3_; have GW255 := n4_; have GE255 := n5_; clear n0_ n1_ n2_ n3_ n4_ n5_; clear hb hbox hg; have hcz26_0 : w25.cell? ⟨gb255, 0, none⟩ = some (.string (⟨#[]⟩ : ByteArray)) := (blk_cell BK255.out 0).trans rfl; have hcz26_1 : w25.cell? ⟨gb255, 1, none⟩ = some (.int .u64 0) := (blk_cell BK255.out 1).trans rfl; have hcz26_2 : w25.cell? ⟨gb255, 2, none⟩ = some (.bool false) := (blk_cell BK255.out 2).trans rfl; have hcz26_3 : w25.cell? ⟨gb255, 3, none⟩ = some (.string (⟨#[]⟩ : ByteArray)) := (blk_cell BK255.out 3).trans rfl; have hfz26_0 := blk_frozen BK255.out 0; have hfz26_1 := blk_frozen BK255.out 1; have hfz26_2 := blk_frozen BK255.out 2; have hfz26_3 := blk_frozen BK255.out 3) | ((with_reducible refine gate_callee (f := 20) rfl ?_); refine goesL_ (some 49) rfl rfl Try.func20 (by kernel_rfl) rfl #[.string a0, .string a1, .int .u64 a2] rfl (by (try simp only [List.map_toArray, List.map_cons, List.map_nil]); first | done | rfl | (simp only [List.length_drop, List.length_take]; rfl) | (simp (disch := omega) only [IntWalk.u64_in, IntWalk.i64_in, IntWalk.u8_in]; rfl)) ?_; (with_reducible refine (screeref09_Seek.calls kj5 a0 a1 a2 t256 t257 t258 t259 t260 t261 _ A13.out).mono ?_); rintro e w27 ⟨rfl, hb⟩; refine ⟨_, rfl, ?_⟩; have n0_ := Aside0.mk (Kd.R_below (by (with_reducible repeat (first | apply Kd.R_alloc | apply Kd.R_drewN | apply Kd.R_drew)); exact (Kd.R_mono (Kd.R_far (p := ⟨gb255, 3, none⟩) (Kd.R_far (p := ⟨gb255, 2, none⟩) (Kd.R_far (p := ⟨gb255, 1, none⟩) (Kd.R_far (p := ⟨gb255, 0, none⟩) (Kd.R_mono HO244.out (fun k_ hk => (⟨hk, hk.2⟩ : _ ∧ k_ ≠ gb255))) (fun _ hk => hk.2) (.string t249)) (fun _ hk => hk.2) (.int .u64 t250)) (fun _ hk => hk.2) (.bool t251)) (fun _ hk => hk.2) (.string t252)) (fun _ h_ => h_.1))) hb); have n1_ := Aside0.mk (Kd.R_below (by (with_reducible repeat (first | apply Kd.R_alloc | apply Kd.R_drewN | apply Kd.R_drew)); exact (Kd.R_mono (Kd.R_far (p := ⟨gb255, 3, none⟩) (Kd.R_far (p := ⟨gb255, 2, none⟩) (Kd.R_far (p := ⟨gb255, 1, none⟩) (Kd.R_far (p := ⟨gb255, 0, none⟩) (Kd.R_mono HO248.out (fun k_ hk => (⟨hk, hk.2⟩ : _ ∧ k_ ≠ gb255))) (fun _ hk => hk.2) (.string t249)) (fun _ hk => hk.2) (.int .u64 t250)) (fun _ hk => hk.2) (.bool t251)) (fun _ hk => hk.2) (.string t252)) (fun _ h_ => h_.1))) hb); have n2_ := Aside0.mk (blk_below (g := gb255) (o := .cells #[.string t249, .int .u64 t250, .bool t251, .string t252] 35 (0, 0)) (by (with_reducible repeat (first | refine blk_drewN ?_ _ | refine blk_drew ?_ | refine blk_alloc ?_ _)); refine blk_put (cs := #[.string t249, .int .u64 t250, .bool t251, .string (⟨#[]⟩ : ByteArray)]) ?_ 3 _ rfl; (with_reducible repeat (first | refine blk_drewN ?_ _ | refine blk_drew ?_ | refine blk_alloc ?_ _)); refine blk_put (cs := #[.string t249, .int .u64 t250, .bool false, .string (⟨#[]⟩ : ByteArray)]) ?_ 2 _ rfl; (with_reducible repeat (first | refine blk_drewN ?_ _ | refine blk_drew ?_ | refine blk_alloc ?_ _)); refine blk_put (cs := #[.string t249, .int .u64 0, .bool false, .string (⟨#[]⟩ : ByteArray)]) ?_ 1 _ rfl; (with_reducible repeat (first | refine blk_drewN ?_ _ | refine blk_drew ?_ | refine blk_alloc ?_ _)); refine blk_put (cs := #[.string (⟨#[]⟩ : ByteArray), .int .u64 0, .bool false, .string (⟨#[]⟩ : ByteArray)]) ?_ 0 _ rfl; (with_reducible repeat (first | refine blk_drewN ?_ _ | refine blk_drew ?_ | refine blk_alloc ?_ _)); exact BK255.out) hb); have n3_ := Aside0.mk (below_step (by repeat (first | (with_reducible first | exact HB.out | apply below_alloc | apply pw_below_drewN | apply below_drew1 | refine below_set ?_ GE255.out) | exact HB.out)) hb); clear HO244; clear HO248; clear BK255; clear HB; have HO244 := n0_; have HO248 := n1_; have BK255 := n2_; have HB := n3_; clear n0_ n1_ n2_ n3_; (try clear hb); (try clear hb2); (try clear hk); (try clear hi); (try clear A13)) | ((with_reducible refine gate_dst (N := 14) rfl ?_); (try (refine gate_guard (by rfl) ?_; dsimp only)); refine box_event ?hg (N := 14) ?hd (cs := #[.string (⟨#[]⟩ : ByteArray), .int .u64 0, .bool false, .string (⟨#[]⟩ : ByteArray)]) (t := 35) ?hr ?_; (case hd => rfl); (case hg => rfl); (case hr => first | (go_simp; done) | (go_simp; rfl)); intro gb262 hg w28 hbox hb; have n0_ := Aside0.mk (Kd.R_below (Kd.R_elderB (by (with_reducible repeat (first | apply Kd.R_alloc | apply Kd.R_drewN | apply Kd.R_drew)); exact HO244.out) gb262 (Nat.le_of_eq hg.symm)) hb); have n1_ := Aside0.mk (Kd.R_below (Kd.R_elderB (by (with_reducible repeat (first | apply Kd.R_alloc | apply Kd.R_drewN | apply Kd.R_drew)); exact HO248.out) gb262 (Nat.le_of_eq hg.symm)) hb); have n2_ := Aside0.mk (blk_below (g := gb255) (o := .cells #[.string t249, .int .u64 t250, .bool t251, .string t252] 35 (0, 0)) (by (with_reducible repeat (first | refine blk_drewN ?_ _ | refine blk_drew ?_ | refine blk_alloc ?_ _)); exact BK255.out) hb); have n3_ := Aside0.mk (below_step (by repeat (first | (with_reducible first | exact HB.out | apply below_alloc | apply pw_below_drewN | apply below_drew1 | refine below_set ?_ GE255.out) | exact HB.out)) hb); have n4_ := Aside0.mk (hbox); have n5_ := Aside0.mk ((by rw [hg]; exact (below_size (by repeat (first | (with_reducible first | exact HB.out | apply below_alloc | apply pw_below_drewN | apply below_drew1 | refine below_set ?_ GE255.out) | exact HB.out))) : w.heap.size ≤ gb262)); have n6_ := Aside0.mk ((by rw [hg]; exact (below_size (by repeat (first | (with_reducible first | exact HB.out | apply below_alloc | apply pw_below_drewN | apply below_drew1 | refine below_set ?_ GE255.out) | exact HB.out))) : w.heap.size ≤ gb262)); have n7_ := Aside0.mk ((by rw [hg]; exact Nat.ne_of_lt (blk_lt (g := gb255) (o := .cells #[.string t249, .int .u64 t250, .bool t251, .string t252] 35 (0, 0)) (by (with_reducible repeat (first | refine blk_drewN ?_ _ | refine blk_drew ?_ | refine blk_alloc ?_ _)); exact BK255.out)) : gb255 ≠ gb262)); have n8_ := Aside0.mk ((by rw [hg]; exact Nat.ne_of_gt (blk_lt (g := gb255) (o := .cells #[.string t249, .int .u64 t250, .bool t251, .string t252] 35 (0, 0)) (by (with_reducible repeat (first | refine blk_drewN ?_ _ | refine blk_drew ?_ | refine blk_alloc ?_ _)); exact BK255.out)) : gb262 ≠ gb255)); clear HO244; clear HO248; clear BK255; clear HB; have HO244 := n0_; have HO248 := n1_; have BK255 := n2_; have HB := n3_; have BK262 := n4_; have GW262 := n5_; have GE262 := n6_; have NB255_262 := n7_; have NB262_255 := n8_; clear n0_ n1_ n2_ n3_ n4_ n5_ n6_ n7_ n8_; clear hb hbox hg; have hnb29 := NB262_255.out; have hnc29 := NB255_262.out; have hcz30_0 : w28.cell? ⟨gb262, 0, none⟩ = some (.string (⟨#[]⟩ : ByteArray)) := (blk_cell BK262.out 0).trans rfl; have hcz30_1 : w28.cell? ⟨gb262, 1, none⟩ = some (.int .u64 0) := (blk_cell BK262.out 1).trans rfl; have hcz30_2 : w28.cell? ⟨gb262, 2, none⟩ = some (.bool false) := (blk_cell BK262.out 2).trans rfl; have hcz30_3 : w28.cell? ⟨gb262, 3, none⟩ = some (.string (⟨#[]⟩ : ByteArray)) := (blk_cell BK262.out 3).trans rfl; have hfz30_0 := blk_frozen BK262.out 0; have hfz30_1 := blk_frozen BK262.out 1; have hfz30_2 := blk_frozen BK262.out 2; have hfz30_3 := blk_frozen BK262.out 3; obtain ⟨Ao31, co31, eo31⟩ := Kd.R_slice HO244.out; subst eo31; obtain ⟨Ao32, co32, eo32⟩ := Kd.R_slice HO248.out; subst eo32) | ((with_reducible refine gate_callee (f := 16) rfl ?_); refine goesL_ (some 55) rfl rfl Try.func16 (by kernel_rfl) rfl #[.slice Ao31 t241.length co31, .slice Ao32 t245.length co32] rfl (by (try simp only [List.map_toArray, List.map_cons, List.map_nil]); first | done | rfl | (simp only [List.length_drop, List.length_take]; rfl) | (simp (disch := omega) only [IntWalk.u64_in, IntWalk.i64_in, IntWalk.u8_in]; rfl)) ?_; (with_reducible refine (screeref07_Same.calls kj5 _ _ t241 _ _ t245 true _ ?side1 ?side2 ?side3 ?side4 A14.out).mono ?_); (case side1 => refine (Kd.R_reads' (e := 35) (base := w.heap.size) (ok := fun k_ => (((True ∧ some k_ ≠ (.slice Ao32 t245.length co32 : Value).ownBlock) ∧ k_ ≠ gb255) ∧ k_ ≠ gb262)) (n := t241.length) (c := co31) ?_).2.2; exact (by (with_reducible repeat (first | apply Kd.R_alloc | apply Kd.R_drewN | apply Kd.R_drew)); exact (Kd.R_mono (Kd.R_far (p := ⟨gb262, 3, none⟩) (Kd.R_far (p := ⟨gb262, 2, none⟩) (Kd.R_far (p := ⟨gb262, 1, none⟩) (Kd.R_far (p := ⟨gb262, 0, none⟩) (Kd.R_mono HO244.out (fun k_ hk => (⟨hk, hk.2⟩ : _ ∧ k_ ≠ gb262))) (fun _ hk => hk.2) (.string t256)) (fun _ hk => hk.2) (.int .u64 t257)) (fun _ hk => hk.2) (.bool t258)) (fun _ hk => hk.2) (.string t259)) (fun _ h_ => h_.1)))); (case side2 => exact (Kd.R_reads' HO244.out).2.1); (case side3 => refine (Kd.R_reads' (e := 35) (base := w.heap.size) (ok := fun k_ => (((True ∧ some k_ ≠ (.slice Ao31 t241.length co31 : Value).ownBlock) ∧ k_ ≠ gb255) ∧ k_ ≠ gb262)) (n := t245.length) (c := co32) ?_).2.2; exact (by (with_reducible repeat (first | apply Kd.R_alloc | apply Kd.R_drewN | apply Kd.R_drew)); exact (Kd.R_mono (Kd.R_far (p := ⟨gb262, 3, none⟩) (Kd.R_far (p := ⟨gb262, 2, none⟩) (Kd.R_far (p := ⟨gb262, 1, none⟩) (Kd.R_far (p := ⟨gb262, 0, none⟩) (Kd.R_mono HO248.out (fun k_ hk => (⟨hk, hk.2⟩ : _ ∧ k_ ≠ gb262))) (fun _ hk => hk.2) (.string t256)) (fun _ hk => hk.2) (.int .u64 t257)) (fun _ hk => hk.2) (.bool t258)) (fun _ hk => hk.2) (.string t259)) (fun _ h_ => h_.1)))); (case side4 => exact (Kd.R_reads' HO248.out).2.1); rintro e w' ⟨rfl, ⟨nd, rfl⟩⟩; refine ⟨_, rfl, ?_⟩; have hcz33_0 : w28.cell? ⟨gb255, 0, none⟩ = some (.string t249) := (blk_cell BK255.out 0).trans rfl; have hcz33_1 : w28.cell? ⟨gb255, 1, none⟩ = some (.int .u64 t250) := (blk_cell BK255.out 1).trans rfl; have hcz33_2 : w28.cell? ⟨gb255, 2, none⟩ = some (.bool t251) := (blk_cell BK255.out 2).trans rfl; have hcz33_3 : w28.cell? ⟨gb255, 3, none⟩ = some (.string t252) := (blk_cell BK255.out 3).trans rfl; have hfz33_0 := blk_frozen BK255.out 0; have hfz33_1 := blk_frozen BK255.out 1; have hfz33_2 := blk_frozen BK255.out 2; have hfz33_3 := blk_frozen BK255.out 3) | (go_at_call 21; (with_reducible refine (block_Count.calls kj5 a0 t264 _ A20.out).mono ?_); rintro e w' ⟨rfl, ⟨nd, rfl⟩⟩) | (go_at_call 22; (with_reducible refine (screeref09_Count.calls kj5 a0 t265 _ A21.out).mono ?_); rintro e w' ⟨rfl, ⟨nd, rfl⟩⟩))
                    go_ret
                    exact ⟨by first | rfl | (simp [errW_none, errW_some] <;> rfl) | (simp (disch := omega) only [← i64_w, IntWalk.i64_in]; rfl) | (simp [*, errW_none, errW_some] <;> rfl), by repeat (first | (with_reducible first | exact HB.out | apply below_alloc | apply pw_below_drewN | apply below_drew1 | refine below_set ?_ GE255.out | refine below_set ?_ GE262.out) | exact HB.out)⟩
                  · rw [if_neg c19] at H
                    exact absurd H (by simp)
                · rw [if_neg c18] at H
                  exact absurd H (by simp)
              · rw [if_neg c17] at H
                exact absurd H (by simp)
            · rw [if_neg c16] at H
              exact absurd H (by simp)
          · replace c15 := Bool.eq_false_iff.mpr c15
            subst c15
            have H1 : (none) = some r := by rw [if_neg (show ¬ (false = true) by decide)] at H; exact H
            clear H
            have H := H1
            clear H1
            exact absurd H (by simp)
  · replace c5 := Bool.eq_false_iff.mpr c5
    subst c5
    have H1 : (none) = some r := by rw [if_neg (show ¬ (false = true) by decide)] at H; exact H
    clear H
    have H := H1
    clear H1
    exact absurd H (by simp)

/-- THE ONE PURE STATEMENT of screelaw09_BlockReads: yours. -/
def screelaw09_BlockReads.Pure : Prop := ∀ (a0 : ByteArray) (a1 : ByteArray) (a2 : Int), a0.size ≤ 140737488351232 → a1.size ≤ 140737488351232 → (Lit.int .u64 a2).wf = true → ∃ k, screelaw09_BlockReads.f k a0 a1 a2 = some true
theorem screelaw09_BlockReads.walk (P : screelaw09_BlockReads.Pure) (a0 : ByteArray) (a1 : ByteArray) (a2 : Int) (w : World) (w0 : a0.size ≤ 140737488351232) (w1 : a1.size ≤ 140737488351232) (w2 : (Lit.int .u64 a2).wf = true) :
    Calls Try.prog 4 #[.string a0, .string a1, .int .u64 a2] w fun e w' => e = .returned (.bool true) ∧ Below w.heap.size w w' := by
  obtain ⟨k, h⟩ := P a0 a1 a2 w0 w1 w2
  refine (screelaw09_BlockReads.calls k a0 a1 a2 true w h).mono ?_
  rintro e w' ⟨rfl, hd⟩
  exact ⟨rfl, hd⟩

/-! ### screelaw09_BlockBack: function 5 -/
mutual
def screelaw09_BlockBack.j0 : Nat → List (S35) → ByteArray → Bool → Option (Bool)
  | 0, _, _, _ => none
  | k + 1, x0, x1, x21 => if x21 = true then (some true) else ((block_Encode.f k x0).bind fun bt268 => (if bt268.2 = 0 then ((block_Decode.f k bt268.1).bind fun bt270 => (if bt270.2 = 0 then ((screeref07_Same.f k x0 bt270.1).bind fun t274 => (if t274 = true then ((block_Count.f k bt268.1).bind fun t275 => (if t275 = (x0.length : Int) then (screelaw09_BlockBack.j1 k x1) else (none))) else (none))) else (none))) else (if bt268.1.toList = ([] : List UInt8) then (screelaw09_BlockBack.j1 k x1) else (none))))
def screelaw09_BlockBack.j1 : Nat → ByteArray → Option (Bool)
  | 0, _ => none
  | k + 1, x1 => (block_Decode.f k x1).bind fun bt276 => (if bt276.2 = 0 then ((block_Encode.f k bt276.1).bind fun bt280 => (if bt280.2 = 0 then (some (bt280.1.toList == x1.toList)) else (none))) else (some ((bt276.1.length : Int) == 0)))
end
def screelaw09_BlockBack.f (k : Nat) (l0 : List (S35)) (a1 : ByteArray) : Option (Bool) := (screelaw09_awake.f k).bind fun t266 => (if t266 = true then ((screelaw09_large.f k l0).bind fun t267 => (if t267 = true then (screelaw09_BlockBack.j0 k l0 a1 true) else (screelaw09_BlockBack.j0 k l0 a1 (decide ((a1.size : Int) > 8192))))) else (none))
theorem screelaw09_BlockBack.mono_l : ∀ k, (∀ y0 y1 y2, LeO (screelaw09_BlockBack.j0 k y0 y1 y2) (screelaw09_BlockBack.j0 (k + 1) y0 y1 y2)) ∧ (∀ y0, LeO (screelaw09_BlockBack.j1 k y0) (screelaw09_BlockBack.j1 (k + 1) y0))
  | 0 => ⟨fun _ _ _ r h => by simp [screelaw09_BlockBack.j0] at h, fun _ r h => by simp [screelaw09_BlockBack.j1] at h⟩
  | k + 1 => by
    obtain ⟨ih0, ih1⟩ := screelaw09_BlockBack.mono_l k
    refine ⟨?_, ?_⟩
    · intro y0 y1 y2
      unfold screelaw09_BlockBack.j0
      repeat' first
      | (with_reducible exact ih0 _ _ _)
      | (with_reducible exact ih1 _)
      | (with_reducible exact block_Count.mono _ _)
      | (with_reducible exact block_Decode.mono _ _)
      | (with_reducible exact block_Encode.mono _ _)
      | (with_reducible exact screelaw09_awake.mono _)
      | (with_reducible exact screelaw09_large.mono _ _)
      | (with_reducible exact screeref07_Same.mono _ _ _)
      | (with_reducible exact LeO.refl _)
      | (with_reducible exact LeO.none _)
      | (with_reducible refine LeO.ite ?_ ?_)
      | (with_reducible refine LeO.bind ?_ (fun _ => ?_))
      | exact ih0 _ _ _
      | exact ih1 _
      | exact block_Count.mono _ _
      | exact block_Decode.mono _ _
      | exact block_Encode.mono _ _
      | exact screelaw09_awake.mono _
      | exact screelaw09_large.mono _ _
      | exact screeref07_Same.mono _ _ _
      | exact LeO.none _
      | refine LeO.ite ?_ ?_
      | refine LeO.bind ?_ (fun _ => ?_)
    · intro y0
      unfold screelaw09_BlockBack.j1
      repeat' first
      | (with_reducible exact ih0 _ _ _)
      | (with_reducible exact ih1 _)
      | (with_reducible exact block_Count.mono _ _)
      | (with_reducible exact block_Decode.mono _ _)
      | (with_reducible exact block_Encode.mono _ _)
      | (with_reducible exact screelaw09_awake.mono _)
      | (with_reducible exact screelaw09_large.mono _ _)
      | (with_reducible exact screeref07_Same.mono _ _ _)
      | (with_reducible exact LeO.refl _)
      | (with_reducible exact LeO.none _)
      | (with_reducible refine LeO.ite ?_ ?_)
      | (with_reducible refine LeO.bind ?_ (fun _ => ?_))
      | exact ih0 _ _ _
      | exact ih1 _
      | exact block_Count.mono _ _
      | exact block_Decode.mono _ _
      | exact block_Encode.mono _ _
      | exact screelaw09_awake.mono _
      | exact screelaw09_large.mono _ _
      | exact screeref07_Same.mono _ _ _
      | exact LeO.none _
      | refine LeO.ite ?_ ?_
      | refine LeO.bind ?_ (fun _ => ?_)
theorem screelaw09_BlockBack.mono : ∀ a0 a1 k, LeO (screelaw09_BlockBack.f k a0 a1) (screelaw09_BlockBack.f (k + 1) a0 a1) := by
  intro a0 a1 k
  obtain ⟨ih0, ih1⟩ := screelaw09_BlockBack.mono_l k
  unfold screelaw09_BlockBack.f
  repeat' first
      | (with_reducible exact ih0 _ _ _)
      | (with_reducible exact ih1 _)
      | (with_reducible exact block_Count.mono _ _)
      | (with_reducible exact block_Decode.mono _ _)
      | (with_reducible exact block_Encode.mono _ _)
      | (with_reducible exact screelaw09_awake.mono _)
      | (with_reducible exact screelaw09_large.mono _ _)
      | (with_reducible exact screeref07_Same.mono _ _ _)
      | (with_reducible exact LeO.refl _)
      | (with_reducible exact LeO.none _)
      | (with_reducible refine LeO.ite ?_ ?_)
      | (with_reducible refine LeO.bind ?_ (fun _ => ?_))
      | exact ih0 _ _ _
      | exact ih1 _
      | exact block_Count.mono _ _
      | exact block_Decode.mono _ _
      | exact block_Encode.mono _ _
      | exact screelaw09_awake.mono _
      | exact screelaw09_large.mono _ _
      | exact screeref07_Same.mono _ _ _
      | exact LeO.none _
      | refine LeO.ite ?_ ?_
      | refine LeO.bind ?_ (fun _ => ?_)
set_option maxHeartbeats 8000000 in
set_option maxRecDepth 100000 in
theorem screelaw09_BlockBack.calls (k : Nat) (A0 : Option Addr) (c0 : Nat) (l0 : List (S35)) (a1 : ByteArray) (r : Bool) (w : World) (hr0 : Kd.C k35 w A0 l0.length l0) (hc0 : l0.length ≤ c0) (h : screelaw09_BlockBack.f k l0 a1 = some r) :
    Calls Try.prog 5 #[.slice A0 l0.length c0, .string a1] w fun e w' => e = .returned (.bool r) ∧ Below w.heap.size w w' := by
  have HR0 := Aside0.mk hr0
  have HC0 := Aside0.mk hc0
  clear hr0 hc0
  have HB := Aside0.mk (Below.refl w.heap.size w)
  have H : ((screelaw09_awake.f k).bind fun t266 => (if t266 = true then ((screelaw09_large.f k l0).bind fun t267 => (if t267 = true then (screelaw09_BlockBack.j0 k l0 a1 true) else (screelaw09_BlockBack.j0 k l0 a1 (decide ((a1.size : Int) > 8192))))) else (none))) = some r := h
  clear h
  replace H := Option.bind_eq_some_iff.mp H
  obtain ⟨t266, A30, H⟩ := H
  replace H : (if t266 = true then ((screelaw09_large.f k l0).bind fun t267 => (if t267 = true then (screelaw09_BlockBack.j0 k l0 a1 true) else (screelaw09_BlockBack.j0 k l0 a1 (decide ((a1.size : Int) > 8192))))) else (none)) = some r := H
  have A3 := Aside0.mk A30
  clear A30
  by_cases c4 : t266 = true
  · subst c4
    have H1 : ((screelaw09_large.f k l0).bind fun t267 => (if t267 = true then (screelaw09_BlockBack.j0 k l0 a1 true) else (screelaw09_BlockBack.j0 k l0 a1 (decide ((a1.size : Int) > 8192))))) = some r := by rw [if_pos rfl] at H; exact H
    clear H
    have H := H1
    clear H1
    have HC5 := Aside0.mk H
    clear H
    go_enter Try.func5, Try.ntmps5
    go_upto_region 3 with (first | ((with_reducible refine gate_callee (f := 10) rfl ?_); refine goesL_ (some 13) rfl rfl Try.func10 (by kernel_rfl) rfl #[] rfl (by (try simp only [List.map_toArray, List.map_cons, List.map_nil]); first | done | rfl | (simp only [List.length_drop, List.length_take]; rfl) | (simp (disch := omega) only [IntWalk.u64_in, IntWalk.i64_in, IntWalk.u8_in]; rfl)) ?_; (with_reducible refine (screelaw09_awake.calls k  true _ A3.out).mono ?_); rintro e w6 ⟨rfl, hb⟩; refine ⟨_, rfl, ?_⟩; have n0_ := Aside0.mk (below_step (by repeat (first | (with_reducible first | exact HB.out | apply below_alloc | apply pw_below_drewN | apply below_drew1) | exact HB.out)) hb); clear HB; have HB := n0_; clear n0_; (try clear hb); (try clear hb2); (try clear hk); (try clear hi); (try clear A3)))
    (try simp only [Act.put, List.setIfInBounds_toArray, List.set_cons_zero, List.set_cons_succ])
    go_cut [21] (fun v21 wc => ∃ (kq : Nat) (x21_4 : Bool), v21 = .bool x21_4 ∧ Aside0 (screelaw09_BlockBack.j0 kq l0 a1 x21_4 = some r) ∧ Aside0 (kq ≤ k) ∧ Aside0 (Below w.heap.size w wc))
    case first =>
      have H := HC5.out
      clear HC5
      replace H := Option.bind_eq_some_iff.mp H
      obtain ⟨t267, A70, H⟩ := H
      replace H : (if t267 = true then (screelaw09_BlockBack.j0 k l0 a1 true) else (screelaw09_BlockBack.j0 k l0 a1 (decide ((a1.size : Int) > 8192)))) = some r := H
      have A7 := Aside0.mk A70
      clear A70
      by_cases c8 : t267 = true
      · subst c8
        have H1 : (screelaw09_BlockBack.j0 k l0 a1 true) = some r := by rw [if_pos rfl] at H; exact H
        clear H
        have H := H1
        clear H1
        have H' := Aside0.mk H
        clear H
        go_wp2_with (first | ((with_reducible refine gate_callee (f := 11) rfl ?_); refine goesL_ (some 16) rfl rfl Try.func11 (by kernel_rfl) rfl #[.slice A0 l0.length c0] rfl (by (try simp only [List.map_toArray, List.map_cons, List.map_nil]); first | done | rfl | (simp only [List.length_drop, List.length_take]; rfl) | (simp (disch := omega) only [IntWalk.u64_in, IntWalk.i64_in, IntWalk.u8_in]; rfl)) ?_; (with_reducible refine (screelaw09_large.calls k _ _ l0 true _ ?side1 ?side2 A7.out).mono ?_); (case side1 => repeat (first | exact (Kd.C_below HR0.out HB.out) | (with_reducible refine Kd.C_alloc ?_ _) | (with_reducible refine Kd.C_drewN ?_ _) | (with_reducible refine Kd.C_drew ?_))); (case side2 => exact HC0.out); rintro e w' ⟨rfl, ⟨nd, rfl⟩⟩; refine ⟨_, rfl, ?_⟩))
        go_meet
        case rel => exact ⟨_, (true), (by first | rfl | (simp; done) | (simp [*]; done)), (by first | (with_reducible exact H') | exact H' | (subst_vars; exact H')), ⟨by first | omega | exact Nat.le_refl _⟩, ⟨by repeat (first | (with_reducible first | exact HB.out | apply below_alloc | apply pw_below_drewN | apply below_drew1) | exact HB.out)⟩⟩
      · replace c8 := Bool.eq_false_iff.mpr c8
        subst c8
        have H1 : (screelaw09_BlockBack.j0 k l0 a1 (decide ((a1.size : Int) > 8192))) = some r := by rw [if_neg (show ¬ (false = true) by decide)] at H; exact H
        clear H
        have H := H1
        clear H1
        have H' := Aside0.mk H
        clear H
        go_wp2_with (first | ((with_reducible refine gate_callee (f := 11) rfl ?_); refine goesL_ (some 16) rfl rfl Try.func11 (by kernel_rfl) rfl #[.slice A0 l0.length c0] rfl (by (try simp only [List.map_toArray, List.map_cons, List.map_nil]); first | done | rfl | (simp only [List.length_drop, List.length_take]; rfl) | (simp (disch := omega) only [IntWalk.u64_in, IntWalk.i64_in, IntWalk.u8_in]; rfl)) ?_; (with_reducible refine (screelaw09_large.calls k _ _ l0 false _ ?side1 ?side2 A7.out).mono ?_); (case side1 => repeat (first | exact (Kd.C_below HR0.out HB.out) | (with_reducible refine Kd.C_alloc ?_ _) | (with_reducible refine Kd.C_drewN ?_ _) | (with_reducible refine Kd.C_drew ?_))); (case side2 => exact HC0.out); rintro e w' ⟨rfl, ⟨nd, rfl⟩⟩; refine ⟨_, rfl, ?_⟩))
        go_meet
        case rel => exact ⟨_, (decide ((a1.size : Int) > 8192)), (by first | rfl | (simp; done) | (simp [*]; done)), (by first | (with_reducible exact H') | exact H' | (subst_vars; exact H')), ⟨by first | omega | exact Nat.le_refl _⟩, ⟨by repeat (first | (with_reducible first | exact HB.out | apply below_alloc | apply pw_below_drewN | apply below_drew1) | exact HB.out)⟩⟩
    case rest =>
      clear HC5
      try clear c1
      try clear p2
      try clear c4
      try clear c5
      try clear c8
      obtain ⟨kq, x21_4, rfl, HA, HJ4, HB⟩ := hcut
      cases kq with
      | zero => exact absurd HA.out (by simp [screelaw09_BlockBack.j0])
      | succ kj4 =>
        have H := HA.out
        clear HA
        simp only [screelaw09_BlockBack.j0] at H
        by_cases c9 : x21_4 = true
        · subst c9
          have H1 : (some true) = some r := by rw [if_pos rfl] at H; exact H
          clear H
          have H := H1
          clear H1
          obtain rfl := Option.some.inj H
          go_wp2
          go_ret
          exact ⟨by first | rfl | (simp [errW_none, errW_some] <;> rfl) | (simp (disch := omega) only [← i64_w, IntWalk.i64_in]; rfl) | (simp [*, errW_none, errW_some] <;> rfl), by repeat (first | (with_reducible first | exact HB.out | apply below_alloc | apply pw_below_drewN | apply below_drew1) | exact HB.out)⟩
        · replace c9 := Bool.eq_false_iff.mpr c9
          subst c9
          have H1 : ((block_Encode.f kj4 l0).bind fun bt268 => (if bt268.2 = 0 then ((block_Decode.f kj4 bt268.1).bind fun bt270 => (if bt270.2 = 0 then ((screeref07_Same.f kj4 l0 bt270.1).bind fun t274 => (if t274 = true then ((block_Count.f kj4 bt268.1).bind fun t275 => (if t275 = (l0.length : Int) then (screelaw09_BlockBack.j1 kj4 a1) else (none))) else (none))) else (none))) else (if bt268.1.toList = ([] : List UInt8) then (screelaw09_BlockBack.j1 kj4 a1) else (none)))) = some r := by rw [if_neg (show ¬ (false = true) by decide)] at H; exact H
          clear H
          have H := H1
          clear H1
          replace H := Option.bind_eq_some_iff.mp H
          obtain ⟨⟨t268, t269⟩, A100, H⟩ := H
          replace H : (if t269 = 0 then ((block_Decode.f kj4 t268).bind fun bt270 => (if bt270.2 = 0 then ((screeref07_Same.f kj4 l0 bt270.1).bind fun t274 => (if t274 = true then ((block_Count.f kj4 t268).bind fun t275 => (if t275 = (l0.length : Int) then (screelaw09_BlockBack.j1 kj4 a1) else (none))) else (none))) else (none))) else (if t268.toList = ([] : List UInt8) then (screelaw09_BlockBack.j1 kj4 a1) else (none))) = some r := H
          have A10 := Aside0.mk A100
          clear A100
          have HC11 := Aside0.mk H
          clear H
          go_upto_if 28 with (first | ((with_reducible refine gate_callee (f := 12) rfl ?_); refine goesL_ (some 24) rfl rfl Try.func12 (by kernel_rfl) rfl #[.slice A0 l0.length c0] rfl (by (try simp only [List.map_toArray, List.map_cons, List.map_nil]); first | done | rfl | (simp only [List.length_drop, List.length_take]; rfl) | (simp (disch := omega) only [IntWalk.u64_in, IntWalk.i64_in, IntWalk.u8_in]; rfl)) ?_; (with_reducible refine (block_Encode.calls kj4 _ _ l0 t268 t269 _ ?side1 ?side2 A10.out).mono ?_); (case side1 => repeat (first | exact (Kd.C_below HR0.out HB.out) | (with_reducible refine Kd.C_alloc ?_ _) | (with_reducible refine Kd.C_drewN ?_ _) | (with_reducible refine Kd.C_drew ?_))); (case side2 => exact HC0.out); rintro e w12 ⟨rfl, hb⟩; refine ⟨_, rfl, ?_⟩; have n0_ := Aside0.mk (below_step (by repeat (first | (with_reducible first | exact HB.out | apply below_alloc | apply pw_below_drewN | apply below_drew1) | exact HB.out)) hb); clear HB; have HB := n0_; clear n0_; (try clear hb); (try clear hb2); (try clear hk); (try clear hi); (try clear A10)))
          (try simp only [Act.put, List.setIfInBounds_toArray, List.set_cons_zero, List.set_cons_succ])
          go_cut [] (fun wc => ∃ (kq : Nat), Aside0 (screelaw09_BlockBack.j1 kq a1 = some r) ∧ Aside0 (kq ≤ kj4) ∧ Aside0 (Below w.heap.size w wc))
          case first =>
            have H := HC11.out
            clear HC11
            by_cases c13 : t269 = 0
            · rw [if_pos c13] at H
              have c13b0 : (t269 == 0) = true := beq_iff_eq.mpr c13
              have c13b1 : (t269 != 0) = false := bne_eq_false_iff_eq.mpr c13
              clear c13
              (first | rw [c13b0] | (simp only [i64_w, i32_w]; rw [c13b0]) | skip)
              replace H := Option.bind_eq_some_iff.mp H
              obtain ⟨⟨t270, t271⟩, A140, H⟩ := H
              replace H : (if t271 = 0 then ((screeref07_Same.f kj4 l0 t270).bind fun t274 => (if t274 = true then ((block_Count.f kj4 t268).bind fun t275 => (if t275 = (l0.length : Int) then (screelaw09_BlockBack.j1 kj4 a1) else (none))) else (none))) else (none)) = some r := H
              have A14 := Aside0.mk A140
              clear A140
              by_cases c15 : t271 = 0
              · rw [if_pos c15] at H
                have c15b0 : (t271 == 0) = true := beq_iff_eq.mpr c15
                have c15b1 : (t271 != 0) = false := bne_eq_false_iff_eq.mpr c15
                clear c15
                replace H := Option.bind_eq_some_iff.mp H
                obtain ⟨t274, A160, H⟩ := H
                replace H : (if t274 = true then ((block_Count.f kj4 t268).bind fun t275 => (if t275 = (l0.length : Int) then (screelaw09_BlockBack.j1 kj4 a1) else (none))) else (none)) = some r := H
                have A16 := Aside0.mk A160
                clear A160
                by_cases c17 : t274 = true
                · subst c17
                  have H1 : ((block_Count.f kj4 t268).bind fun t275 => (if t275 = (l0.length : Int) then (screelaw09_BlockBack.j1 kj4 a1) else (none))) = some r := by rw [if_pos rfl] at H; exact H
                  clear H
                  have H := H1
                  clear H1
                  replace H := Option.bind_eq_some_iff.mp H
                  obtain ⟨t275, A180, H⟩ := H
                  replace H : (if t275 = (l0.length : Int) then (screelaw09_BlockBack.j1 kj4 a1) else (none)) = some r := H
                  have A18 := Aside0.mk A180
                  clear A180
                  by_cases c19 : t275 = (l0.length : Int)
                  · rw [if_pos c19] at H
                    have c19b0 : (t275 == (l0.length : Int)) = true := beq_iff_eq.mpr c19
                    have c19b1 : (t275 != (l0.length : Int)) = false := bne_eq_false_iff_eq.mpr c19
                    clear c19
                    have H' := Aside0.mk H
                    clear H
                    go_wp2_with (first | ((with_reducible refine gate_callee (f := 17) rfl ?_); refine goesL_ (some 31) rfl rfl Try.func17 (by kernel_rfl) rfl #[.string t268] rfl (by (try simp only [List.map_toArray, List.map_cons, List.map_nil]); first | done | rfl | (simp only [List.length_drop, List.length_take]; rfl) | (simp (disch := omega) only [IntWalk.u64_in, IntWalk.i64_in, IntWalk.u8_in]; rfl)) ?_; (with_reducible refine (block_Decode.calls kj4 t268 t270 t271 _ A14.out).mono ?_); rintro e w20 ⟨v272, rfl, ho0, hb⟩; refine ⟨_, rfl, ?_⟩; have n0_ := Aside0.mk (Kd.R_lower ho0 (below_size (by repeat (first | (with_reducible first | exact HB.out | apply below_alloc | apply pw_below_drewN | apply below_drew1) | exact HB.out)))); have n1_ := Aside0.mk (below_step (by repeat (first | (with_reducible first | exact HB.out | apply below_alloc | apply pw_below_drewN | apply below_drew1) | exact HB.out)) hb); clear HB; have HO273 := n0_; have HB := n1_; clear n0_ n1_; (try clear hb); (try clear hb2); (try clear hk); (try clear hi); (try clear ho0); (try clear A14); obtain ⟨Ao21, co21, eo21⟩ := Kd.R_slice HO273.out; subst eo21) | (go_at_call 16; (with_reducible refine (screeref07_Same.calls kj4 _ _ l0 _ _ t270 true _ ?side1 ?side2 ?side3 ?side4 A16.out).mono ?_); (case side1 => repeat (first | exact (Kd.C_below HR0.out HB.out) | (with_reducible refine Kd.C_alloc ?_ _) | (with_reducible refine Kd.C_drewN ?_ _) | (with_reducible refine Kd.C_drew ?_))); (case side2 => exact HC0.out); (case side3 => repeat (first | exact (Kd.R_reads' HO273.out).2.2 | (with_reducible refine Kd.C_alloc ?_ _) | (with_reducible refine Kd.C_drewN ?_ _) | (with_reducible refine Kd.C_drew ?_))); (case side4 => exact (Kd.R_reads' HO273.out).2.1); rintro e w' ⟨rfl, ⟨nd, rfl⟩⟩) | (go_at_call 21; (with_reducible refine (block_Count.calls kj4 t268 t275 _ A18.out).mono ?_); rintro e w' ⟨rfl, ⟨nd, rfl⟩⟩))
                    go_meet
                    case rel => exact ⟨_, (by first | (with_reducible exact H') | exact H' | (subst_vars; exact H')), ⟨by have := HJ4.out; first | omega | exact Nat.le_refl _⟩, ⟨by repeat (first | (with_reducible first | exact HB.out | apply below_alloc | apply pw_below_drewN | apply below_drew1) | exact HB.out)⟩⟩
                  · rw [if_neg c19] at H
                    exact absurd H (by simp)
                · replace c17 := Bool.eq_false_iff.mpr c17
                  subst c17
                  have H1 : (none) = some r := by rw [if_neg (show ¬ (false = true) by decide)] at H; exact H
                  clear H
                  have H := H1
                  clear H1
                  exact absurd H (by simp)
              · rw [if_neg c15] at H
                exact absurd H (by simp)
            · rw [if_neg c13] at H
              have c13b0 : (t269 == 0) = false := beq_eq_false_iff_ne.mpr c13
              have c13b1 : (t269 != 0) = true := bne_iff_ne.mpr c13
              (first | rw [c13b0] | (simp only [i64_w, i32_w]; rw [c13b0]) | skip)
              by_cases c22 : t268.toList = ([] : List UInt8)
              · rw [if_pos c22] at H
                have c22b0 : (t268.toList == ([] : List UInt8)) = true := beq_iff_eq.mpr c22
                have c22b1 : (t268.toList != ([] : List UInt8)) = false := bne_eq_false_iff_eq.mpr c22
                clear c22
                have H' := Aside0.mk H
                clear H
                go_wp2
                go_meet
                case rel => exact ⟨_, (by first | (with_reducible exact H') | exact H' | (subst_vars; exact H')), ⟨by have := HJ4.out; first | omega | exact Nat.le_refl _⟩, ⟨by repeat (first | (with_reducible first | exact HB.out | apply below_alloc | apply pw_below_drewN | apply below_drew1) | exact HB.out)⟩⟩
              · rw [if_neg c22] at H
                exact absurd H (by simp)
          case rest =>
            clear HC11
            try clear c1
            try clear c2
            try clear p2
            try clear c4
            try clear c5
            try clear c8
            try clear c9
            try clear c10
            try clear c11
            try clear c12
            try clear c13
            try clear c13b0
            try clear c13b1
            try clear c15
            try clear c15b0
            try clear c15b1
            try clear c17
            try clear c19
            try clear c19b0
            try clear c19b1
            try clear c22
            try clear c22b0
            try clear c22b1
            try clear p2
            obtain ⟨kq, HA, HJ10, HB⟩ := hcut
            cases kq with
            | zero => exact absurd HA.out (by simp [screelaw09_BlockBack.j1])
            | succ kj10 =>
              have H := HA.out
              clear HA
              simp only [screelaw09_BlockBack.j1] at H
              replace H := Option.bind_eq_some_iff.mp H
              obtain ⟨⟨t276, t277⟩, A230, H⟩ := H
              replace H : (if t277 = 0 then ((block_Encode.f kj10 t276).bind fun bt280 => (if bt280.2 = 0 then (some (bt280.1.toList == a1.toList)) else (none))) else (some ((t276.length : Int) == 0))) = some r := H
              have A23 := Aside0.mk A230
              clear A230
              by_cases c24 : t277 = 0
              · rw [if_pos c24] at H
                have c24b0 : (t277 == 0) = true := beq_iff_eq.mpr c24
                have c24b1 : (t277 != 0) = false := bne_eq_false_iff_eq.mpr c24
                clear c24
                replace H := Option.bind_eq_some_iff.mp H
                obtain ⟨⟨t280, t281⟩, A250, H⟩ := H
                replace H : (if t281 = 0 then (some (t280.toList == a1.toList)) else (none)) = some r := H
                have A25 := Aside0.mk A250
                clear A250
                by_cases c26 : t281 = 0
                · rw [if_pos c26] at H
                  have c26b0 : (t281 == 0) = true := beq_iff_eq.mpr c26
                  have c26b1 : (t281 != 0) = false := bne_eq_false_iff_eq.mpr c26
                  clear c26
                  obtain rfl := Option.some.inj H
                  go_wp2_with (first | ((with_reducible refine gate_callee (f := 17) rfl ?_); refine goesL_ (some 53) rfl rfl Try.func17 (by kernel_rfl) rfl #[.string a1] rfl (by (try simp only [List.map_toArray, List.map_cons, List.map_nil]); first | done | rfl | (simp only [List.length_drop, List.length_take]; rfl) | (simp (disch := omega) only [IntWalk.u64_in, IntWalk.i64_in, IntWalk.u8_in]; rfl)) ?_; (with_reducible refine (block_Decode.calls kj10 a1 t276 t277 _ A23.out).mono ?_); rintro e w27 ⟨v278, rfl, ho0, hb⟩; refine ⟨_, rfl, ?_⟩; have n0_ := Aside0.mk (Kd.R_lower ho0 (below_size (by repeat (first | (with_reducible first | exact HB.out | apply below_alloc | apply pw_below_drewN | apply below_drew1) | exact HB.out)))); have n1_ := Aside0.mk (below_step (by repeat (first | (with_reducible first | exact HB.out | apply below_alloc | apply pw_below_drewN | apply below_drew1) | exact HB.out)) hb); clear HB; have HO279 := n0_; have HB := n1_; clear n0_ n1_; (try clear hb); (try clear hb2); (try clear hk); (try clear hi); (try clear ho0); (try clear A23); obtain ⟨Ao28, co28, eo28⟩ := Kd.R_slice HO279.out; subst eo28) | ((with_reducible refine gate_callee (f := 12) rfl ?_); refine goesL_ (some 63) rfl rfl Try.func12 (by kernel_rfl) rfl #[.slice Ao28 t276.length co28] rfl (by (try simp only [List.map_toArray, List.map_cons, List.map_nil]); first | done | rfl | (simp only [List.length_drop, List.length_take]; rfl) | (simp (disch := omega) only [IntWalk.u64_in, IntWalk.i64_in, IntWalk.u8_in]; rfl)) ?_; (with_reducible refine (block_Encode.calls kj10 _ _ t276 t280 t281 _ ?side1 ?side2 A25.out).mono ?_); (case side1 => repeat (first | exact (Kd.R_reads' HO279.out).2.2 | (with_reducible refine Kd.C_alloc ?_ _) | (with_reducible refine Kd.C_drewN ?_ _) | (with_reducible refine Kd.C_drew ?_))); (case side2 => exact (Kd.R_reads' HO279.out).2.1); rintro e w29 ⟨rfl, hb⟩; refine ⟨_, rfl, ?_⟩; have n0_ := Aside0.mk (Kd.R_below (by (with_reducible repeat (first | apply Kd.R_alloc | apply Kd.R_drewN | apply Kd.R_drew)); exact HO279.out) hb); have n1_ := Aside0.mk (below_step (by repeat (first | (with_reducible first | exact HB.out | apply below_alloc | apply pw_below_drewN | apply below_drew1) | exact HB.out)) hb); clear HO279; clear HB; have HO279 := n0_; have HB := n1_; clear n0_ n1_; (try clear hb); (try clear hb2); (try clear hk); (try clear hi); (try clear A25)))
                  go_ret
                  exact ⟨by first | rfl | (simp [errW_none, errW_some] <;> rfl) | (simp (disch := omega) only [← i64_w, IntWalk.i64_in]; rfl) | (simp [*, errW_none, errW_some] <;> rfl), by repeat (first | (with_reducible first | exact HB.out | apply below_alloc | apply pw_below_drewN | apply below_drew1) | exact HB.out)⟩
                · rw [if_neg c26] at H
                  exact absurd H (by simp)
              · rw [if_neg c24] at H
                have c24b0 : (t277 == 0) = false := beq_eq_false_iff_ne.mpr c24
                have c24b1 : (t277 != 0) = true := bne_iff_ne.mpr c24
                obtain rfl := Option.some.inj H
                go_wp2_with (first | ((with_reducible refine gate_callee (f := 17) rfl ?_); refine goesL_ (some 53) rfl rfl Try.func17 (by kernel_rfl) rfl #[.string a1] rfl (by (try simp only [List.map_toArray, List.map_cons, List.map_nil]); first | done | rfl | (simp only [List.length_drop, List.length_take]; rfl) | (simp (disch := omega) only [IntWalk.u64_in, IntWalk.i64_in, IntWalk.u8_in]; rfl)) ?_; (with_reducible refine (block_Decode.calls kj10 a1 t276 t277 _ A23.out).mono ?_); rintro e w30 ⟨v278, rfl, ho0, hb⟩; refine ⟨_, rfl, ?_⟩; have n0_ := Aside0.mk (Kd.R_lower ho0 (below_size (by repeat (first | (with_reducible first | exact HB.out | apply below_alloc | apply pw_below_drewN | apply below_drew1) | exact HB.out)))); have n1_ := Aside0.mk (below_step (by repeat (first | (with_reducible first | exact HB.out | apply below_alloc | apply pw_below_drewN | apply below_drew1) | exact HB.out)) hb); clear HB; have HO279 := n0_; have HB := n1_; clear n0_ n1_; (try clear hb); (try clear hb2); (try clear hk); (try clear hi); (try clear ho0); (try clear A23); obtain ⟨Ao31, co31, eo31⟩ := Kd.R_slice HO279.out; subst eo31))
                go_ret
                exact ⟨by first | rfl | (simp [errW_none, errW_some] <;> rfl) | (simp (disch := omega) only [← i64_w, IntWalk.i64_in]; rfl) | (simp [*, errW_none, errW_some] <;> rfl), by repeat (first | (with_reducible first | exact HB.out | apply below_alloc | apply pw_below_drewN | apply below_drew1) | exact HB.out)⟩
  · replace c4 := Bool.eq_false_iff.mpr c4
    subst c4
    have H1 : (none) = some r := by rw [if_neg (show ¬ (false = true) by decide)] at H; exact H
    clear H
    have H := H1
    clear H1
    exact absurd H (by simp)

end Go.Proofs.Ytcogolbgfkikfaa.P
