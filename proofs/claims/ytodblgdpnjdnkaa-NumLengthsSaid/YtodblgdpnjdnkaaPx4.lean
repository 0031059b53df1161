-- Printed by a program of this session's own (wip/tools/pprint.sh, over the kit's print, with given contracts): not typed by hand.
import Derived.Test.YtodblgdpnjdnkaaPx0
import Derived.Test.YtodblgdpnjdnkaaPx1
import Derived.Test.YtodblgdpnjdnkaaPx2
namespace Go.Proofs.Ytodblgdpnjdnkaa.P
open Go.RowKit Go.Proofs.YtodblgdpnjdnkaaW.PrintWords Go.Proofs.YtodblgdpnjdnkaaW.PrintLast Go.Proofs.YtodblgdpnjdnkaaW.PrintMore
attribute [local go_sem] max2_int min2_int max_two min_two max_three min_three max_four min_four   -- for this text's walks alone
set_option linter.unusedVariables false
set_option linter.unusedSimpArgs false

/-! ### screelaw01_NumBack: function 5 -/
def screelaw01_NumBack.j0 : Nat → ByteArray → Bool → Option (Bool)
  | 0, _, _ => none
  | k + 1, x1, x70 => if x70 = true then (some false) else ((num_Take.f k x1).bind fun bt187 => (if bt187.2.2 = true then ((num_Short.f k bt187.1).bind fun t190 => (if t190.size + bt187.2.1.size ≤ 9223372036854775807 then (some ((t190 ++ bt187.2.1).toList == x1.toList)) else (none))) else (if bt187.1 = 0 then (some (bt187.2.1.toList == ([] : List UInt8))) else (some false))))
def screelaw01_NumBack.f (k : Nat) (a0 : Int) (a1 : ByteArray) : Option (Bool) := (screelaw01_awake.f k).bind fun t176 => (if t176 = true then (if (a1.size : Int) > 4096 then (some true) else ((num_Short.f k a0).bind fun t177 => (if t177.size + a1.size ≤ 9223372036854775807 then ((num_Take.f k (t177 ++ a1)).bind fun bt178 => ((num_Long.f a0).bind fun t181 => ((num_Unlong.f k t181).bind fun bt182 => ((num_Fall.f a0).bind fun t184 => ((num_Unfall.f k t184).bind fun bt185 => (if bt178.1 = a0 then (if bt178.2.1.toList = a1.toList then (if bt178.2.2 = true then (if bt182.1 = a0 then (if bt182.2 = true then (if bt185.1 = a0 then (screelaw01_NumBack.j0 k a1 (!bt185.2)) else (screelaw01_NumBack.j0 k a1 true)) else (screelaw01_NumBack.j0 k a1 true)) else (screelaw01_NumBack.j0 k a1 true)) else (screelaw01_NumBack.j0 k a1 true)) else (screelaw01_NumBack.j0 k a1 true)) else (screelaw01_NumBack.j0 k a1 true))))))) else (none)))) else (some false))
theorem screelaw01_NumBack.mono_l : ∀ k, (∀ y0 y1, LeO (screelaw01_NumBack.j0 k y0 y1) (screelaw01_NumBack.j0 (k + 1) y0 y1))
  | 0 => fun _ _ r h => by simp [screelaw01_NumBack.j0] at h
  | k + 1 => by
    have ih0 := screelaw01_NumBack.mono_l k
    · intro y0 y1
      unfold screelaw01_NumBack.j0
      repeat' first
      | (with_reducible exact ih0 _ _)
      | (with_reducible exact num_Short.mono _ _)
      | (with_reducible exact num_Take.mono _ _)
      | (with_reducible exact num_Unfall.mono _ _)
      | (with_reducible exact num_Unlong.mono _ _)
      | (with_reducible exact screelaw01_awake.mono _)
      | (with_reducible exact LeO.refl _)
      | (with_reducible exact LeO.none _)
      | (with_reducible refine LeO.ite ?_ ?_)
      | (with_reducible refine LeO.bind ?_ (fun _ => ?_))
      | exact ih0 _ _
      | exact num_Short.mono _ _
      | exact num_Take.mono _ _
      | exact num_Unfall.mono _ _
      | exact num_Unlong.mono _ _
      | exact screelaw01_awake.mono _
      | exact LeO.none _
      | refine LeO.ite ?_ ?_
      | refine LeO.bind ?_ (fun _ => ?_)
theorem screelaw01_NumBack.mono : ∀ a0 a1 k, LeO (screelaw01_NumBack.f k a0 a1) (screelaw01_NumBack.f (k + 1) a0 a1) := by
  intro a0 a1 k
  have ih0 := screelaw01_NumBack.mono_l k
  unfold screelaw01_NumBack.f
  repeat' first
      | (with_reducible exact ih0 _ _)
      | (with_reducible exact num_Short.mono _ _)
      | (with_reducible exact num_Take.mono _ _)
      | (with_reducible exact num_Unfall.mono _ _)
      | (with_reducible exact num_Unlong.mono _ _)
      | (with_reducible exact screelaw01_awake.mono _)
      | (with_reducible exact LeO.refl _)
      | (with_reducible exact LeO.none _)
      | (with_reducible refine LeO.ite ?_ ?_)
      | (with_reducible refine LeO.bind ?_ (fun _ => ?_))
      | exact ih0 _ _
      | exact num_Short.mono _ _
      | exact num_Take.mono _ _
      | exact num_Unfall.mono _ _
      | exact num_Unlong.mono _ _
      | exact screelaw01_awake.mono _
      | exact LeO.none _
      | refine LeO.ite ?_ ?_
      | refine LeO.bind ?_ (fun _ => ?_)
set_option maxHeartbeats 8000000 in
set_option maxRecDepth 100000 in
theorem screelaw01_NumBack.calls (k : Nat) (a0 : Int) (a1 : ByteArray) (r : Bool) (w : World) (h : screelaw01_NumBack.f k a0 a1 = some r) :
    Calls Try.prog 5 #[.int .u64 a0, .string a1] w fun e w' => e = .returned (.bool r) ∧ Below w.heap.size w w' := by
  have HB := Aside0.mk (Below.refl w.heap.size w)
  have H : ((screelaw01_awake.f k).bind fun t176 => (if t176 = true then (if (a1.size : Int) > 4096 then (some true) else ((num_Short.f k a0).bind fun t177 => (if t177.size + a1.size ≤ 9223372036854775807 then ((num_Take.f k (t177 ++ a1)).bind fun bt178 => ((num_Long.f a0).bind fun t181 => ((num_Unlong.f k t181).bind fun bt182 => ((num_Fall.f a0).bind fun t184 => ((num_Unfall.f k t184).bind fun bt185 => (if bt178.1 = a0 then (if bt178.2.1.toList = a1.toList then (if bt178.2.2 = true then (if bt182.1 = a0 then (if bt182.2 = true then (if bt185.1 = a0 then (screelaw01_NumBack.j0 k a1 (!bt185.2)) else (screelaw01_NumBack.j0 k a1 true)) else (screelaw01_NumBack.j0 k a1 true)) else (screelaw01_NumBack.j0 k a1 true)) else (screelaw01_NumBack.j0 k a1 true)) else (screelaw01_NumBack.j0 k a1 true)) else (screelaw01_NumBack.j0 k a1 true))))))) else (none)))) else (some false))) = some r := h
  clear h
  replace H := Option.bind_eq_some_iff.mp H
  obtain ⟨t176, A30, H⟩ := H
  replace H : (if t176 = true then (if (a1.size : Int) > 4096 then (some true) else ((num_Short.f k a0).bind fun t177 => (if t177.size + a1.size ≤ 9223372036854775807 then ((num_Take.f k (t177 ++ a1)).bind fun bt178 => ((num_Long.f a0).bind fun t181 => ((num_Unlong.f k t181).bind fun bt182 => ((num_Fall.f a0).bind fun t184 => ((num_Unfall.f k t184).bind fun bt185 => (if bt178.1 = a0 then (if bt178.2.1.toList = a1.toList then (if bt178.2.2 = true then (if bt182.1 = a0 then (if bt182.2 = true then (if bt185.1 = a0 then (screelaw01_NumBack.j0 k a1 (!bt185.2)) else (screelaw01_NumBack.j0 k a1 true)) else (screelaw01_NumBack.j0 k a1 true)) else (screelaw01_NumBack.j0 k a1 true)) else (screelaw01_NumBack.j0 k a1 true)) else (screelaw01_NumBack.j0 k a1 true)) else (screelaw01_NumBack.j0 k a1 true))))))) else (none)))) else (some false)) = some r := H
  have A3 := Aside0.mk A30
  clear A30
  by_cases c4 : t176 = true
  · subst c4
    have H1 : (if (a1.size : Int) > 4096 then (some true) else ((num_Short.f k a0).bind fun t177 => (if t177.size + a1.size ≤ 9223372036854775807 then ((num_Take.f k (t177 ++ a1)).bind fun bt178 => ((num_Long.f a0).bind fun t181 => ((num_Unlong.f k t181).bind fun bt182 => ((num_Fall.f a0).bind fun t184 => ((num_Unfall.f k t184).bind fun bt185 => (if bt178.1 = a0 then (if bt178.2.1.toList = a1.toList then (if bt178.2.2 = true then (if bt182.1 = a0 then (if bt182.2 = true then (if bt185.1 = a0 then (screelaw01_NumBack.j0 k a1 (!bt185.2)) else (screelaw01_NumBack.j0 k a1 true)) else (screelaw01_NumBack.j0 k a1 true)) else (screelaw01_NumBack.j0 k a1 true)) else (screelaw01_NumBack.j0 k a1 true)) else (screelaw01_NumBack.j0 k a1 true)) else (screelaw01_NumBack.j0 k a1 true))))))) else (none)))) = some r := by rw [if_pos rfl] at H; exact H
    clear H
    have H := H1
    clear H1
    by_cases c5 : (a1.size : Int) > 4096
    · rw [if_pos c5] at H
      have c5b0 : decide (4096 < (a1.size : Int)) = true := decide_eq_true c5
      have c5b1 : decide (4096 < a1.size) = true := decide_eq_true (by omega)
      clear c5
      obtain rfl := Option.some.inj H
      go_enter Try.func5, Try.ntmps5
      go_wp2_with (first | ((with_reducible refine gate_callee (f := 10) rfl ?_); refine goesL_ (some 15) rfl rfl Try.func10 (by kernel_rfl) rfl #[] rfl (by (try simp only [List.map_toArray, List.map_cons, List.map_nil]); first | done | rfl | (simp only [List.length_drop, List.length_take]; rfl)) ?_; (with_reducible refine (screelaw01_awake.calls k  true _ A3.out).mono ?_); rintro e w6 ⟨rfl, hb⟩; refine ⟨_, rfl, ?_⟩; have n0_ := Aside0.mk (below_step (by repeat (first | (with_reducible first | exact HB.out | apply below_alloc | apply pw_below_drewN | apply below_drew1) | exact HB.out)) hb); clear HB; have HB := n0_; clear n0_; (try clear hb); (try clear hb2); (try clear hk); (try clear hi); (try clear A3)))
      go_ret
      exact ⟨by first | rfl | (simp [errW_none, errW_some] <;> rfl) | (simp [*, errW_none, errW_some] <;> rfl), by repeat (first | (with_reducible first | exact HB.out | apply below_alloc | apply pw_below_drewN | apply below_drew1) | exact HB.out)⟩
    · rw [if_neg c5] at H
      have c5b0 : decide (4096 < (a1.size : Int)) = false := decide_eq_false c5
      have c5b1 : decide (4096 < a1.size) = false := decide_eq_false (by omega)
      clear c5
      replace H := Option.bind_eq_some_iff.mp H
      obtain ⟨t177, A70, H⟩ := H
      replace H : (if t177.size + a1.size ≤ 9223372036854775807 then ((num_Take.f k (t177 ++ a1)).bind fun bt178 => ((num_Long.f a0).bind fun t181 => ((num_Unlong.f k t181).bind fun bt182 => ((num_Fall.f a0).bind fun t184 => ((num_Unfall.f k t184).bind fun bt185 => (if bt178.1 = a0 then (if bt178.2.1.toList = a1.toList then (if bt178.2.2 = true then (if bt182.1 = a0 then (if bt182.2 = true then (if bt185.1 = a0 then (screelaw01_NumBack.j0 k a1 (!bt185.2)) else (screelaw01_NumBack.j0 k a1 true)) else (screelaw01_NumBack.j0 k a1 true)) else (screelaw01_NumBack.j0 k a1 true)) else (screelaw01_NumBack.j0 k a1 true)) else (screelaw01_NumBack.j0 k a1 true)) else (screelaw01_NumBack.j0 k a1 true))))))) else (none)) = some r := H
      have A7 := Aside0.mk A70
      clear A70
      by_cases c8 : t177.size + a1.size ≤ 9223372036854775807
      · rw [if_pos c8] at H
        have c8b0 := eq_true c8
        have c8b1 : decide (t177.size + a1.size ≤ 9223372036854775807) = true := decide_eq_true c8
        try have c8b2 : (9223372036854775807 < t177.size + a1.size) = False := eq_false (Nat.not_lt.2 c8)
        replace H := Option.bind_eq_some_iff.mp H
        obtain ⟨⟨t178, t179, t180⟩, A90, H⟩ := H
        replace H : ((num_Long.f a0).bind fun t181 => ((num_Unlong.f k t181).bind fun bt182 => ((num_Fall.f a0).bind fun t184 => ((num_Unfall.f k t184).bind fun bt185 => (if t178 = a0 then (if t179.toList = a1.toList then (if t180 = true then (if bt182.1 = a0 then (if bt182.2 = true then (if bt185.1 = a0 then (screelaw01_NumBack.j0 k a1 (!bt185.2)) else (screelaw01_NumBack.j0 k a1 true)) else (screelaw01_NumBack.j0 k a1 true)) else (screelaw01_NumBack.j0 k a1 true)) else (screelaw01_NumBack.j0 k a1 true)) else (screelaw01_NumBack.j0 k a1 true)) else (screelaw01_NumBack.j0 k a1 true)))))) = some r := H
        have A9 := Aside0.mk A90
        clear A90
        replace H := Option.bind_eq_some_iff.mp H
        obtain ⟨t181, A100, H⟩ := H
        replace H : ((num_Unlong.f k t181).bind fun bt182 => ((num_Fall.f a0).bind fun t184 => ((num_Unfall.f k t184).bind fun bt185 => (if t178 = a0 then (if t179.toList = a1.toList then (if t180 = true then (if bt182.1 = a0 then (if bt182.2 = true then (if bt185.1 = a0 then (screelaw01_NumBack.j0 k a1 (!bt185.2)) else (screelaw01_NumBack.j0 k a1 true)) else (screelaw01_NumBack.j0 k a1 true)) else (screelaw01_NumBack.j0 k a1 true)) else (screelaw01_NumBack.j0 k a1 true)) else (screelaw01_NumBack.j0 k a1 true)) else (screelaw01_NumBack.j0 k a1 true))))) = some r := H
        have A10 := Aside0.mk A100
        clear A100
        replace H := Option.bind_eq_some_iff.mp H
        obtain ⟨⟨t182, t183⟩, A110, H⟩ := H
        replace H : ((num_Fall.f a0).bind fun t184 => ((num_Unfall.f k t184).bind fun bt185 => (if t178 = a0 then (if t179.toList = a1.toList then (if t180 = true then (if t182 = a0 then (if t183 = true then (if bt185.1 = a0 then (screelaw01_NumBack.j0 k a1 (!bt185.2)) else (screelaw01_NumBack.j0 k a1 true)) else (screelaw01_NumBack.j0 k a1 true)) else (screelaw01_NumBack.j0 k a1 true)) else (screelaw01_NumBack.j0 k a1 true)) else (screelaw01_NumBack.j0 k a1 true)) else (screelaw01_NumBack.j0 k a1 true)))) = some r := H
        have A11 := Aside0.mk A110
        clear A110
        replace H := Option.bind_eq_some_iff.mp H
        obtain ⟨t184, A120, H⟩ := H
        replace H : ((num_Unfall.f k t184).bind fun bt185 => (if t178 = a0 then (if t179.toList = a1.toList then (if t180 = true then (if t182 = a0 then (if t183 = true then (if bt185.1 = a0 then (screelaw01_NumBack.j0 k a1 (!bt185.2)) else (screelaw01_NumBack.j0 k a1 true)) else (screelaw01_NumBack.j0 k a1 true)) else (screelaw01_NumBack.j0 k a1 true)) else (screelaw01_NumBack.j0 k a1 true)) else (screelaw01_NumBack.j0 k a1 true)) else (screelaw01_NumBack.j0 k a1 true))) = some r := H
        have A12 := Aside0.mk A120
        clear A120
        replace H := Option.bind_eq_some_iff.mp H
        obtain ⟨⟨t185, t186⟩, A130, H⟩ := H
        replace H : (if t178 = a0 then (if t179.toList = a1.toList then (if t180 = true then (if t182 = a0 then (if t183 = true then (if t185 = a0 then (screelaw01_NumBack.j0 k a1 (!t186)) else (screelaw01_NumBack.j0 k a1 true)) else (screelaw01_NumBack.j0 k a1 true)) else (screelaw01_NumBack.j0 k a1 true)) else (screelaw01_NumBack.j0 k a1 true)) else (screelaw01_NumBack.j0 k a1 true)) else (screelaw01_NumBack.j0 k a1 true)) = some r := H
        have A13 := Aside0.mk A130
        clear A130
        have HC14 := Aside0.mk H
        clear H
        go_enter Try.func5, Try.ntmps5
        go_upto_region 8 with (first | ((with_reducible refine gate_callee (f := 10) rfl ?_); refine goesL_ (some 15) rfl rfl Try.func10 (by kernel_rfl) rfl #[] rfl (by (try simp only [List.map_toArray, List.map_cons, List.map_nil]); first | done | rfl | (simp only [List.length_drop, List.length_take]; rfl)) ?_; (with_reducible refine (screelaw01_awake.calls k  true _ A3.out).mono ?_); rintro e w15 ⟨rfl, hb⟩; refine ⟨_, rfl, ?_⟩; have n0_ := Aside0.mk (below_step (by repeat (first | (with_reducible first | exact HB.out | apply below_alloc | apply pw_below_drewN | apply below_drew1) | exact HB.out)) hb); clear HB; have HB := n0_; clear n0_; (try clear hb); (try clear hb2); (try clear hk); (try clear hi); (try clear A3)) | ((with_reducible refine gate_callee (f := 11) rfl ?_); refine goesL_ (some 22) rfl rfl Try.func11 (by kernel_rfl) rfl #[.int .u64 a0] rfl (by (try simp only [List.map_toArray, List.map_cons, List.map_nil]); first | done | rfl | (simp only [List.length_drop, List.length_take]; rfl)) ?_; (with_reducible refine (num_Short.calls k a0 t177 _ A7.out).mono ?_); rintro e w16 ⟨rfl, hb⟩; refine ⟨_, rfl, ?_⟩; have n0_ := Aside0.mk (below_step (by repeat (first | (with_reducible first | exact HB.out | apply below_alloc | apply pw_below_drewN | apply below_drew1) | exact HB.out)) hb); clear HB; have HB := n0_; clear n0_; (try clear hb); (try clear hb2); (try clear hk); (try clear hi); (try clear A7)) | ((with_reducible refine gate_callee (f := 23) rfl ?_); refine goesL_ (some 25) rfl rfl Try.func23 (by kernel_rfl) rfl #[.string (t177 ++ a1)] rfl (by (try simp only [List.map_toArray, List.map_cons, List.map_nil]); first | done | rfl | (simp only [List.length_drop, List.length_take]; rfl)) ?_; (with_reducible refine (num_Take.calls k (t177 ++ a1) t178 t179 t180 _ A9.out).mono ?_); rintro e w' ⟨rfl, ⟨nd, rfl⟩⟩; refine ⟨_, rfl, ?_⟩) | ((with_reducible refine gate_callee (f := 13) rfl ?_); refine goesL_ (some 31) rfl rfl Try.func13 (by kernel_rfl) rfl #[.int .u64 a0] rfl (by (try simp only [List.map_toArray, List.map_cons, List.map_nil]); first | done | rfl | (simp only [List.length_drop, List.length_take]; rfl)) ?_; (with_reducible refine (num_Long.calls a0 t181 _ A10.out).mono ?_); rintro e w17 ⟨rfl, hb⟩; refine ⟨_, rfl, ?_⟩; have n0_ := Aside0.mk (below_step (by repeat (first | (with_reducible first | exact HB.out | apply below_alloc | apply pw_below_drewN | apply below_drew1) | exact HB.out)) hb); clear HB; have HB := n0_; clear n0_; (try clear hb); (try clear hb2); (try clear hk); (try clear hi); (try clear A10)) | ((with_reducible refine gate_callee (f := 25) rfl ?_); refine goesL_ (some 32) rfl rfl Try.func25 (by kernel_rfl) rfl #[.string t181] rfl (by (try simp only [List.map_toArray, List.map_cons, List.map_nil]); first | done | rfl | (simp only [List.length_drop, List.length_take]; rfl)) ?_; (with_reducible refine (num_Unlong.calls k t181 t182 t183 _ A11.out).mono ?_); rintro e w' ⟨rfl, ⟨nd, rfl⟩⟩; refine ⟨_, rfl, ?_⟩) | ((with_reducible refine gate_callee (f := 15) rfl ?_); refine goesL_ (some 37) rfl rfl Try.func15 (by kernel_rfl) rfl #[.int .u64 a0] rfl (by (try simp only [List.map_toArray, List.map_cons, List.map_nil]); first | done | rfl | (simp only [List.length_drop, List.length_take]; rfl)) ?_; (with_reducible refine (num_Fall.calls a0 t184 _ A12.out).mono ?_); rintro e w18 ⟨rfl, hb⟩; refine ⟨_, rfl, ?_⟩; have n0_ := Aside0.mk (below_step (by repeat (first | (with_reducible first | exact HB.out | apply below_alloc | apply pw_below_drewN | apply below_drew1) | exact HB.out)) hb); clear HB; have HB := n0_; clear n0_; (try clear hb); (try clear hb2); (try clear hk); (try clear hi); (try clear A12)) | ((with_reducible refine gate_callee (f := 27) rfl ?_); refine goesL_ (some 38) rfl rfl Try.func27 (by kernel_rfl) rfl #[.string t184] rfl (by (try simp only [List.map_toArray, List.map_cons, List.map_nil]); first | done | rfl | (simp only [List.length_drop, List.length_take]; rfl)) ?_; (with_reducible refine (num_Unfall.calls k t184 t185 t186 _ A13.out).mono ?_); rintro e w' ⟨rfl, ⟨nd, rfl⟩⟩; refine ⟨_, rfl, ?_⟩))
        (try simp only [Act.put, List.setIfInBounds_toArray, List.set_cons_zero, List.set_cons_succ])
        go_cut [70] (fun v70 wc => ∃ (kq : Nat) (x70_13 : Bool), v70 = .bool x70_13 ∧ Aside0 (screelaw01_NumBack.j0 kq a1 x70_13 = some r) ∧ Aside0 (kq ≤ k) ∧ Aside0 (Below w.heap.size w wc))
        case first =>
          have H := HC14.out
          clear HC14
          by_cases c19 : t178 = a0
          · rw [if_pos c19] at H
            have c19b0 : (t178 == a0) = true := beq_iff_eq.mpr c19
            have c19b1 : (t178 != a0) = false := bne_eq_false_iff_eq.mpr c19
            clear c19
            (first | rw [c19b0] | (simp only [i64_w, i32_w]; rw [c19b0]) | skip)
            by_cases c20 : t179.toList = a1.toList
            · rw [if_pos c20] at H
              have c20b0 : (t179.toList == a1.toList) = true := beq_iff_eq.mpr c20
              have c20b1 : (t179.toList != a1.toList) = false := bne_eq_false_iff_eq.mpr c20
              clear c20
              by_cases c21 : t180 = true
              · subst c21
                have H1 : (if t182 = a0 then (if t183 = true then (if t185 = a0 then (screelaw01_NumBack.j0 k a1 (!t186)) else (screelaw01_NumBack.j0 k a1 true)) else (screelaw01_NumBack.j0 k a1 true)) else (screelaw01_NumBack.j0 k a1 true)) = some r := by rw [if_pos rfl] at H; exact H
                clear H
                have H := H1
                clear H1
                by_cases c22 : t182 = a0
                · rw [if_pos c22] at H
                  have c22b0 : (t182 == a0) = true := beq_iff_eq.mpr c22
                  have c22b1 : (t182 != a0) = false := bne_eq_false_iff_eq.mpr c22
                  clear c22
                  by_cases c23 : t183 = true
                  · subst c23
                    have H1 : (if t185 = a0 then (screelaw01_NumBack.j0 k a1 (!t186)) else (screelaw01_NumBack.j0 k a1 true)) = some r := by rw [if_pos rfl] at H; exact H
                    clear H
                    have H := H1
                    clear H1
                    by_cases c24 : t185 = a0
                    · rw [if_pos c24] at H
                      have c24b0 : (t185 == a0) = true := beq_iff_eq.mpr c24
                      have c24b1 : (t185 != a0) = false := bne_eq_false_iff_eq.mpr c24
                      clear c24
                      have H' := Aside0.mk H
                      clear H
                      go_wp2
                      go_meet
                      case rel => exact ⟨_, (!t186), (by first | rfl | (simp; done) | (simp [*]; done)), (by first | (with_reducible exact H') | exact H' | (subst_vars; exact H')), ⟨by first | omega | exact Nat.le_refl _⟩, ⟨by repeat (first | (with_reducible first | exact HB.out | apply below_alloc | apply pw_below_drewN | apply below_drew1) | exact HB.out)⟩⟩
                    · rw [if_neg c24] at H
                      have c24b0 : (t185 == a0) = false := beq_eq_false_iff_ne.mpr c24
                      have c24b1 : (t185 != a0) = true := bne_iff_ne.mpr c24
                      have H' := Aside0.mk H
                      clear H
                      go_wp2
                      go_meet
                      case rel => exact ⟨_, (true), (by first | rfl | (simp; done) | (simp [*]; done)), (by first | (with_reducible exact H') | exact H' | (subst_vars; exact H')), ⟨by first | omega | exact Nat.le_refl _⟩, ⟨by repeat (first | (with_reducible first | exact HB.out | apply below_alloc | apply pw_below_drewN | apply below_drew1) | exact HB.out)⟩⟩
                  · replace c23 := Bool.eq_false_iff.mpr c23
                    subst c23
                    have H1 : (screelaw01_NumBack.j0 k a1 true) = some r := by rw [if_neg (show ¬ (false = true) by decide)] at H; exact H
                    clear H
                    have H := H1
                    clear H1
                    have H' := Aside0.mk H
                    clear H
                    go_wp2
                    go_meet
                    case rel => exact ⟨_, (true), (by first | rfl | (simp; done) | (simp [*]; done)), (by first | (with_reducible exact H') | exact H' | (subst_vars; exact H')), ⟨by first | omega | exact Nat.le_refl _⟩, ⟨by repeat (first | (with_reducible first | exact HB.out | apply below_alloc | apply pw_below_drewN | apply below_drew1) | exact HB.out)⟩⟩
                · rw [if_neg c22] at H
                  have c22b0 : (t182 == a0) = false := beq_eq_false_iff_ne.mpr c22
                  have c22b1 : (t182 != a0) = true := bne_iff_ne.mpr c22
                  have H' := Aside0.mk H
                  clear H
                  go_wp2
                  go_meet
                  case rel => exact ⟨_, (true), (by first | rfl | (simp; done) | (simp [*]; done)), (by first | (with_reducible exact H') | exact H' | (subst_vars; exact H')), ⟨by first | omega | exact Nat.le_refl _⟩, ⟨by repeat (first | (with_reducible first | exact HB.out | apply below_alloc | apply pw_below_drewN | apply below_drew1) | exact HB.out)⟩⟩
              · replace c21 := Bool.eq_false_iff.mpr c21
                subst c21
                have H1 : (screelaw01_NumBack.j0 k a1 true) = some r := by rw [if_neg (show ¬ (false = true) by decide)] at H; exact H
                clear H
                have H := H1
                clear H1
                have H' := Aside0.mk H
                clear H
                go_wp2
                go_meet
                case rel => exact ⟨_, (true), (by first | rfl | (simp; done) | (simp [*]; done)), (by first | (with_reducible exact H') | exact H' | (subst_vars; exact H')), ⟨by first | omega | exact Nat.le_refl _⟩, ⟨by repeat (first | (with_reducible first | exact HB.out | apply below_alloc | apply pw_below_drewN | apply below_drew1) | exact HB.out)⟩⟩
            · rw [if_neg c20] at H
              have c20b0 : (t179.toList == a1.toList) = false := beq_eq_false_iff_ne.mpr c20
              have c20b1 : (t179.toList != a1.toList) = true := bne_iff_ne.mpr c20
              have H' := Aside0.mk H
              clear H
              go_wp2
              go_meet
              case rel => exact ⟨_, (true), (by first | rfl | (simp; done) | (simp [*]; done)), (by first | (with_reducible exact H') | exact H' | (subst_vars; exact H')), ⟨by first | omega | exact Nat.le_refl _⟩, ⟨by repeat (first | (with_reducible first | exact HB.out | apply below_alloc | apply pw_below_drewN | apply below_drew1) | exact HB.out)⟩⟩
          · rw [if_neg c19] at H
            have c19b0 : (t178 == a0) = false := beq_eq_false_iff_ne.mpr c19
            have c19b1 : (t178 != a0) = true := bne_iff_ne.mpr c19
            (first | rw [c19b0] | (simp only [i64_w, i32_w]; rw [c19b0]) | skip)
            have H' := Aside0.mk H
            clear H
            go_wp2
            go_meet
            case rel => exact ⟨_, (true), (by first | rfl | (simp; done) | (simp [*]; done)), (by first | (with_reducible exact H') | exact H' | (subst_vars; exact H')), ⟨by first | omega | exact Nat.le_refl _⟩, ⟨by repeat (first | (with_reducible first | exact HB.out | apply below_alloc | apply pw_below_drewN | apply below_drew1) | exact HB.out)⟩⟩
        case rest =>
          clear HC14
          try clear c1
          try clear c2
          try clear p2
          try clear c4
          try clear c5
          try clear c5b0
          try clear c5b1
          try clear c8
          try clear c8b0
          try clear c8b1
          try clear c8b2
          try clear c10
          try clear c11
          try clear c13
          try clear c15
          try clear c19
          try clear c19b0
          try clear c19b1
          try clear c20
          try clear c20b0
          try clear c20b1
          try clear c21
          try clear c22
          try clear c22b0
          try clear c22b1
          try clear c23
          try clear c24
          try clear c24b0
          try clear c24b1
          obtain ⟨kq, x70_13, rfl, HA, HJ13, HB⟩ := hcut
          cases kq with
          | zero => exact absurd HA.out (by simp [screelaw01_NumBack.j0])
          | succ kj13 =>
            have H := HA.out
            clear HA
            simp only [screelaw01_NumBack.j0] at H
            by_cases c25 : x70_13 = true
            · subst c25
              have H1 : (some false) = some r := by rw [if_pos rfl] at H; exact H
              clear H
              have H := H1
              clear H1
              obtain rfl := Option.some.inj H
              go_wp2
              go_ret
              exact ⟨by first | rfl | (simp [errW_none, errW_some] <;> rfl) | (simp [*, errW_none, errW_some] <;> rfl), by repeat (first | (with_reducible first | exact HB.out | apply below_alloc | apply pw_below_drewN | apply below_drew1) | exact HB.out)⟩
            · replace c25 := Bool.eq_false_iff.mpr c25
              subst c25
              have H1 : ((num_Take.f kj13 a1).bind fun bt187 => (if bt187.2.2 = true then ((num_Short.f kj13 bt187.1).bind fun t190 => (if t190.size + bt187.2.1.size ≤ 9223372036854775807 then (some ((t190 ++ bt187.2.1).toList == a1.toList)) else (none))) else (if bt187.1 = 0 then (some (bt187.2.1.toList == ([] : List UInt8))) else (some false)))) = some r := by rw [if_neg (show ¬ (false = true) by decide)] at H; exact H
              clear H
              have H := H1
              clear H1
              replace H := Option.bind_eq_some_iff.mp H
              obtain ⟨⟨t187, t188, t189⟩, A260, H⟩ := H
              replace H : (if t189 = true then ((num_Short.f kj13 t187).bind fun t190 => (if t190.size + t188.size ≤ 9223372036854775807 then (some ((t190 ++ t188).toList == a1.toList)) else (none))) else (if t187 = 0 then (some (t188.toList == ([] : List UInt8))) else (some false))) = some r := H
              have A26 := Aside0.mk A260
              clear A260
              by_cases c27 : t189 = true
              · subst c27
                have H1 : ((num_Short.f kj13 t187).bind fun t190 => (if t190.size + t188.size ≤ 9223372036854775807 then (some ((t190 ++ t188).toList == a1.toList)) else (none))) = some r := by rw [if_pos rfl] at H; exact H
                clear H
                have H := H1
                clear H1
                replace H := Option.bind_eq_some_iff.mp H
                obtain ⟨t190, A280, H⟩ := H
                replace H : (if t190.size + t188.size ≤ 9223372036854775807 then (some ((t190 ++ t188).toList == a1.toList)) else (none)) = some r := H
                have A28 := Aside0.mk A280
                clear A280
                by_cases c29 : t190.size + t188.size ≤ 9223372036854775807
                · rw [if_pos c29] at H
                  have c29b0 := eq_true c29
                  have c29b1 : decide (t190.size + t188.size ≤ 9223372036854775807) = true := decide_eq_true c29
                  try have c29b2 : (9223372036854775807 < t190.size + t188.size) = False := eq_false (Nat.not_lt.2 c29)
                  obtain rfl := Option.some.inj H
                  go_wp2_with (first | ((with_reducible refine gate_callee (f := 23) rfl ?_); refine goesL_ (some 73) rfl rfl Try.func23 (by kernel_rfl) rfl #[.string a1] rfl (by (try simp only [List.map_toArray, List.map_cons, List.map_nil]); first | done | rfl | (simp only [List.length_drop, List.length_take]; rfl)) ?_; (with_reducible refine (num_Take.calls kj13 a1 t187 t188 true _ A26.out).mono ?_); rintro e w' ⟨rfl, ⟨nd, rfl⟩⟩; refine ⟨_, rfl, ?_⟩) | ((with_reducible refine gate_callee (f := 11) rfl ?_); refine goesL_ (some 79) rfl rfl Try.func11 (by kernel_rfl) rfl #[.int .u64 t187] rfl (by (try simp only [List.map_toArray, List.map_cons, List.map_nil]); first | done | rfl | (simp only [List.length_drop, List.length_take]; rfl)) ?_; (with_reducible refine (num_Short.calls kj13 t187 t190 _ A28.out).mono ?_); rintro e w30 ⟨rfl, hb⟩; refine ⟨_, rfl, ?_⟩; have n0_ := Aside0.mk (below_step (by repeat (first | (with_reducible first | exact HB.out | apply below_alloc | apply pw_below_drewN | apply below_drew1) | exact HB.out)) hb); clear HB; have HB := n0_; clear n0_; (try clear hb); (try clear hb2); (try clear hk); (try clear hi); (try clear A28)))
                  go_ret
                  exact ⟨by first | rfl | (simp [errW_none, errW_some] <;> rfl) | (simp [*, errW_none, errW_some] <;> rfl), by repeat (first | (with_reducible first | exact HB.out | apply below_alloc | apply pw_below_drewN | apply below_drew1) | exact HB.out)⟩
                · rw [if_neg c29] at H
                  exact absurd H (by simp)
              · replace c27 := Bool.eq_false_iff.mpr c27
                subst c27
                have H1 : (if t187 = 0 then (some (t188.toList == ([] : List UInt8))) else (some false)) = some r := by rw [if_neg (show ¬ (false = true) by decide)] at H; exact H
                clear H
                have H := H1
                clear H1
                by_cases c31 : t187 = 0
                · rw [if_pos c31] at H
                  have c31b0 : (t187 == 0) = true := beq_iff_eq.mpr c31
                  have c31b1 : (t187 != 0) = false := bne_eq_false_iff_eq.mpr c31
                  clear c31
                  obtain rfl := Option.some.inj H
                  go_wp2_with (first | ((with_reducible refine gate_callee (f := 23) rfl ?_); refine goesL_ (some 73) rfl rfl Try.func23 (by kernel_rfl) rfl #[.string a1] rfl (by (try simp only [List.map_toArray, List.map_cons, List.map_nil]); first | done | rfl | (simp only [List.length_drop, List.length_take]; rfl)) ?_; (with_reducible refine (num_Take.calls kj13 a1 t187 t188 false _ A26.out).mono ?_); rintro e w' ⟨rfl, ⟨nd, rfl⟩⟩; refine ⟨_, rfl, ?_⟩))
                  go_ret
                  exact ⟨by first | rfl | (simp [errW_none, errW_some] <;> rfl) | (simp [*, errW_none, errW_some] <;> rfl), by repeat (first | (with_reducible first | exact HB.out | apply below_alloc | apply pw_below_drewN | apply below_drew1) | exact HB.out)⟩
                · rw [if_neg c31] at H
                  have c31b0 : (t187 == 0) = false := beq_eq_false_iff_ne.mpr c31
                  have c31b1 : (t187 != 0) = true := bne_iff_ne.mpr c31
                  obtain rfl := Option.some.inj H
                  go_wp2_with (first | ((with_reducible refine gate_callee (f := 23) rfl ?_); refine goesL_ (some 73) rfl rfl Try.func23 (by kernel_rfl) rfl #[.string a1] rfl (by (try simp only [List.map_toArray, List.map_cons, List.map_nil]); first | done | rfl | (simp only [List.length_drop, List.length_take]; rfl)) ?_; (with_reducible refine (num_Take.calls kj13 a1 t187 t188 false _ A26.out).mono ?_); rintro e w' ⟨rfl, ⟨nd, rfl⟩⟩; refine ⟨_, rfl, ?_⟩))
                  go_ret
                  exact ⟨by first | rfl | (simp [errW_none, errW_some] <;> rfl) | (simp [*, errW_none, errW_some] <;> rfl), by repeat (first | (with_reducible first | exact HB.out | apply below_alloc | apply pw_below_drewN | apply below_drew1) | exact HB.out)⟩
      · rw [if_neg c8] at H
        exact absurd H (by simp)
  · replace c4 := Bool.eq_false_iff.mpr c4
    subst c4
    have H1 : (some false) = some r := by rw [if_neg (show ¬ (false = true) by decide)] at H; exact H
    clear H
    have H := H1
    clear H1
    obtain rfl := Option.some.inj H
    go_enter Try.func5, Try.ntmps5
    go_wp2_with (first | ((with_reducible refine gate_callee (f := 10) rfl ?_); refine goesL_ (some 15) rfl rfl Try.func10 (by kernel_rfl) rfl #[] rfl (by (try simp only [List.map_toArray, List.map_cons, List.map_nil]); first | done | rfl | (simp only [List.length_drop, List.length_take]; rfl)) ?_; (with_reducible refine (screelaw01_awake.calls k  false _ A3.out).mono ?_); rintro e w32 ⟨rfl, hb⟩; refine ⟨_, rfl, ?_⟩; have n0_ := Aside0.mk (below_step (by repeat (first | (with_reducible first | exact HB.out | apply below_alloc | apply pw_below_drewN | apply below_drew1) | exact HB.out)) hb); clear HB; have HB := n0_; clear n0_; (try clear hb); (try clear hb2); (try clear hk); (try clear hi); (try clear A3)))
    go_ret
    exact ⟨by first | rfl | (simp [errW_none, errW_some] <;> rfl) | (simp [*, errW_none, errW_some] <;> rfl), by repeat (first | (with_reducible first | exact HB.out | apply below_alloc | apply pw_below_drewN | apply below_drew1) | exact HB.out)⟩

/-- THE ONE PURE STATEMENT of screelaw01_NumBack: yours. -/
def screelaw01_NumBack.Pure : Prop := ∀ (a0 : Int) (a1 : ByteArray), (Lit.int .u64 a0).wf = true → a1.size ≤ 140737488351232 → ∃ k, screelaw01_NumBack.f k a0 a1 = some true
theorem screelaw01_NumBack.walk (P : screelaw01_NumBack.Pure) (a0 : Int) (a1 : ByteArray) (w : World) (w0 : (Lit.int .u64 a0).wf = true) (w1 : a1.size ≤ 140737488351232) :
    Calls Try.prog 5 #[.int .u64 a0, .string a1] w fun e w' => e = .returned (.bool true) ∧ Below w.heap.size w w' := by
  obtain ⟨k, h⟩ := P a0 a1 w0 w1
  refine (screelaw01_NumBack.calls k a0 a1 true w h).mono ?_
  rintro e w' ⟨rfl, hd⟩
  exact ⟨rfl, hd⟩

/-! ### screelaw01_NumOrder: function 6 -/
def screelaw01_NumOrder.j0 : Nat → Int → Int → Bool → Option (Bool)
  | 0, _, _, _ => none
  | k + 1, x0, x1, x41 => if x41 = true then (some false) else ((num_Short.f k x0).bind fun t198 => ((num_Short.f k x1).bind fun t199 => (if (mn (t198.size : Int) (t199.size : Int)) > 0 then (if 0 ≤ (mn (t198.size : Int) (t199.size : Int)) then (if (mn (t198.size : Int) (t199.size : Int)) ≤ (t198.size : Int) then (if (mn (t198.size : Int) (t199.size : Int)) ≤ (t199.size : Int) then (some ((x0 == x1) == ((t198.extract 0 ((mn (t198.size : Int) (t199.size : Int)) : Int).toNat).toList == (t199.extract 0 ((mn (t198.size : Int) (t199.size : Int)) : Int).toNat).toList))) else (none)) else (none)) else (none)) else (some false))))
def screelaw01_NumOrder.f (k : Nat) (a0 : Int) (a1 : Int) : Option (Bool) := (screelaw01_awake.f k).bind fun t191 => (if t191 = true then ((num_Long.f a0).bind fun t192 => ((num_Long.f a1).bind fun t193 => (if ((Op.bytesLess t192.toList t193.toList) != (decide (a0 < a1))) = true then (screelaw01_NumOrder.j0 k a0 a1 true) else ((num_Fall.f a0).bind fun t194 => ((num_Fall.f a1).bind fun t195 => (if ((Op.bytesLess t194.toList t195.toList) != (decide (a0 > a1))) = true then (screelaw01_NumOrder.j0 k a0 a1 true) else ((num_Long.f a0).bind fun t196 => (if (t196.size : Int) = 8 then ((num_Fall.f a1).bind fun t197 => (screelaw01_NumOrder.j0 k a0 a1 ((t197.size : Int) != 8))) else (screelaw01_NumOrder.j0 k a0 a1 true))))))))) else (some false))
theorem screelaw01_NumOrder.mono_l : ∀ k, (∀ y0 y1 y2, LeO (screelaw01_NumOrder.j0 k y0 y1 y2) (screelaw01_NumOrder.j0 (k + 1) y0 y1 y2))
  | 0 => fun _ _ _ r h => by simp [screelaw01_NumOrder.j0] at h
  | k + 1 => by
    have ih0 := screelaw01_NumOrder.mono_l k
    · intro y0 y1 y2
      unfold screelaw01_NumOrder.j0
      repeat' first
      | (with_reducible exact ih0 _ _ _)
      | (with_reducible exact num_Short.mono _ _)
      | (with_reducible exact screelaw01_awake.mono _)
      | (with_reducible exact LeO.refl _)
      | (with_reducible exact LeO.none _)
      | (with_reducible refine LeO.ite ?_ ?_)
      | (with_reducible refine LeO.bind ?_ (fun _ => ?_))
      | exact ih0 _ _ _
      | exact num_Short.mono _ _
      | exact screelaw01_awake.mono _
      | exact LeO.none _
      | refine LeO.ite ?_ ?_
      | refine LeO.bind ?_ (fun _ => ?_)
theorem screelaw01_NumOrder.mono : ∀ a0 a1 k, LeO (screelaw01_NumOrder.f k a0 a1) (screelaw01_NumOrder.f (k + 1) a0 a1) := by
  intro a0 a1 k
  have ih0 := screelaw01_NumOrder.mono_l k
  unfold screelaw01_NumOrder.f
  repeat' first
      | (with_reducible exact ih0 _ _ _)
      | (with_reducible exact num_Short.mono _ _)
      | (with_reducible exact screelaw01_awake.mono _)
      | (with_reducible exact LeO.refl _)
      | (with_reducible exact LeO.none _)
      | (with_reducible refine LeO.ite ?_ ?_)
      | (with_reducible refine LeO.bind ?_ (fun _ => ?_))
      | exact ih0 _ _ _
      | exact num_Short.mono _ _
      | exact screelaw01_awake.mono _
      | exact LeO.none _
      | refine LeO.ite ?_ ?_
      | refine LeO.bind ?_ (fun _ => ?_)
set_option maxHeartbeats 8000000 in
set_option maxRecDepth 100000 in
theorem screelaw01_NumOrder.calls (k : Nat) (a0 : Int) (a1 : Int) (r : Bool) (w : World) (h : screelaw01_NumOrder.f k a0 a1 = some r) :
    Calls Try.prog 6 #[.int .u64 a0, .int .u64 a1] w fun e w' => e = .returned (.bool r) ∧ Below w.heap.size w w' := by
  have HB := Aside0.mk (Below.refl w.heap.size w)
  have H : ((screelaw01_awake.f k).bind fun t191 => (if t191 = true then ((num_Long.f a0).bind fun t192 => ((num_Long.f a1).bind fun t193 => (if ((Op.bytesLess t192.toList t193.toList) != (decide (a0 < a1))) = true then (screelaw01_NumOrder.j0 k a0 a1 true) else ((num_Fall.f a0).bind fun t194 => ((num_Fall.f a1).bind fun t195 => (if ((Op.bytesLess t194.toList t195.toList) != (decide (a0 > a1))) = true then (screelaw01_NumOrder.j0 k a0 a1 true) else ((num_Long.f a0).bind fun t196 => (if (t196.size : Int) = 8 then ((num_Fall.f a1).bind fun t197 => (screelaw01_NumOrder.j0 k a0 a1 ((t197.size : Int) != 8))) else (screelaw01_NumOrder.j0 k a0 a1 true))))))))) else (some false))) = some r := h
  clear h
  replace H := Option.bind_eq_some_iff.mp H
  obtain ⟨t191, A30, H⟩ := H
  replace H : (if t191 = true then ((num_Long.f a0).bind fun t192 => ((num_Long.f a1).bind fun t193 => (if ((Op.bytesLess t192.toList t193.toList) != (decide (a0 < a1))) = true then (screelaw01_NumOrder.j0 k a0 a1 true) else ((num_Fall.f a0).bind fun t194 => ((num_Fall.f a1).bind fun t195 => (if ((Op.bytesLess t194.toList t195.toList) != (decide (a0 > a1))) = true then (screelaw01_NumOrder.j0 k a0 a1 true) else ((num_Long.f a0).bind fun t196 => (if (t196.size : Int) = 8 then ((num_Fall.f a1).bind fun t197 => (screelaw01_NumOrder.j0 k a0 a1 ((t197.size : Int) != 8))) else (screelaw01_NumOrder.j0 k a0 a1 true))))))))) else (some false)) = some r := H
  have A3 := Aside0.mk A30
  clear A30
  by_cases c4 : t191 = true
  · subst c4
    have H1 : ((num_Long.f a0).bind fun t192 => ((num_Long.f a1).bind fun t193 => (if ((Op.bytesLess t192.toList t193.toList) != (decide (a0 < a1))) = true then (screelaw01_NumOrder.j0 k a0 a1 true) else ((num_Fall.f a0).bind fun t194 => ((num_Fall.f a1).bind fun t195 => (if ((Op.bytesLess t194.toList t195.toList) != (decide (a0 > a1))) = true then (screelaw01_NumOrder.j0 k a0 a1 true) else ((num_Long.f a0).bind fun t196 => (if (t196.size : Int) = 8 then ((num_Fall.f a1).bind fun t197 => (screelaw01_NumOrder.j0 k a0 a1 ((t197.size : Int) != 8))) else (screelaw01_NumOrder.j0 k a0 a1 true))))))))) = some r := by rw [if_pos rfl] at H; exact H
    clear H
    have H := H1
    clear H1
    have HC5 := Aside0.mk H
    clear H
    go_enter Try.func6, Try.ntmps6
    go_upto_region 3 with (first | (go_at_call 10; (with_reducible refine (screelaw01_awake.calls k  true _ A3.out).mono ?_); rintro e w6 ⟨rfl, hb⟩; have n0_ := Aside0.mk (below_step (by repeat (first | (with_reducible first | exact HB.out | apply below_alloc | apply pw_below_drewN | apply below_drew1) | exact HB.out)) hb); clear HB; have HB := n0_; clear n0_; (try clear hb); (try clear hb2); (try clear hk); (try clear hi); (try clear A3)))
    repeat (go_quiet (first | (go_at_call 10; (with_reducible refine (screelaw01_awake.calls k  true _ A3.out).mono ?_); rintro e w6 ⟨rfl, hb⟩; have n0_ := Aside0.mk (below_step (by repeat (first | (with_reducible first | exact HB.out | apply below_alloc | apply pw_below_drewN | apply below_drew1) | exact HB.out)) hb); clear HB; have HB := n0_; clear n0_; (try clear hb); (try clear hb2); (try clear hk); (try clear hi); (try clear A3))); go_upto_region 3 with (first | (go_at_call 10; (with_reducible refine (screelaw01_awake.calls k  true _ A3.out).mono ?_); rintro e w6 ⟨rfl, hb⟩; have n0_ := Aside0.mk (below_step (by repeat (first | (with_reducible first | exact HB.out | apply below_alloc | apply pw_below_drewN | apply below_drew1) | exact HB.out)) hb); clear HB; have HB := n0_; clear n0_; (try clear hb); (try clear hb2); (try clear hk); (try clear hi); (try clear A3))))
    (try simp only [Act.put, List.setIfInBounds_toArray, List.set_cons_zero, List.set_cons_succ])
    go_cut [41] (fun v41 wc => ∃ (kq : Nat) (x41_4 : Bool), v41 = .bool x41_4 ∧ Aside0 (screelaw01_NumOrder.j0 kq a0 a1 x41_4 = some r) ∧ Aside0 (kq ≤ k) ∧ Aside0 (Below w.heap.size w wc))
    case first =>
      have H := HC5.out
      clear HC5
      replace H := Option.bind_eq_some_iff.mp H
      obtain ⟨t192, A70, H⟩ := H
      replace H : ((num_Long.f a1).bind fun t193 => (if ((Op.bytesLess t192.toList t193.toList) != (decide (a0 < a1))) = true then (screelaw01_NumOrder.j0 k a0 a1 true) else ((num_Fall.f a0).bind fun t194 => ((num_Fall.f a1).bind fun t195 => (if ((Op.bytesLess t194.toList t195.toList) != (decide (a0 > a1))) = true then (screelaw01_NumOrder.j0 k a0 a1 true) else ((num_Long.f a0).bind fun t196 => (if (t196.size : Int) = 8 then ((num_Fall.f a1).bind fun t197 => (screelaw01_NumOrder.j0 k a0 a1 ((t197.size : Int) != 8))) else (screelaw01_NumOrder.j0 k a0 a1 true)))))))) = some r := H
      have A7 := Aside0.mk A70
      clear A70
      replace H := Option.bind_eq_some_iff.mp H
      obtain ⟨t193, A80, H⟩ := H
      replace H : (if ((Op.bytesLess t192.toList t193.toList) != (decide (a0 < a1))) = true then (screelaw01_NumOrder.j0 k a0 a1 true) else ((num_Fall.f a0).bind fun t194 => ((num_Fall.f a1).bind fun t195 => (if ((Op.bytesLess t194.toList t195.toList) != (decide (a0 > a1))) = true then (screelaw01_NumOrder.j0 k a0 a1 true) else ((num_Long.f a0).bind fun t196 => (if (t196.size : Int) = 8 then ((num_Fall.f a1).bind fun t197 => (screelaw01_NumOrder.j0 k a0 a1 ((t197.size : Int) != 8))) else (screelaw01_NumOrder.j0 k a0 a1 true))))))) = some r := H
      have A8 := Aside0.mk A80
      clear A80
      by_cases c9 : ((Op.bytesLess t192.toList t193.toList) != (decide (a0 < a1))) = true
      · rw [if_pos c9] at H
        have c9b0 : ((Op.bytesLess t192.toList t193.toList) != (decide (a0 < a1))) = true := c9
        (try (have c9b1 : decide ((Op.bytesLess t192.toList t193.toList) = (decide (a0 < a1))) = false := by simpa using c9))
        (try (have c9b2 : ((Op.bytesLess t192.toList t193.toList) == (decide (a0 < a1))) = false := by simpa using c9))
        (try (have c9b3 : ¬ ((Op.bytesLess t192.toList t193.toList) = (decide (a0 < a1))) := by simpa using c9))
        clear c9
        (first | rw [c9b0] | (simp only [i64_w, i32_w]; rw [c9b0]) | skip)
        have H' := Aside0.mk H
        clear H
        go_wp2_with (first | (go_at_call 13; (with_reducible refine (num_Long.calls a0 t192 _ A7.out).mono ?_); rintro e w10 ⟨rfl, hb⟩; have n0_ := Aside0.mk (below_step (by repeat (first | (with_reducible first | exact HB.out | apply below_alloc | apply pw_below_drewN | apply below_drew1) | exact HB.out)) hb); clear HB; have HB := n0_; clear n0_; (try clear hb); (try clear hb2); (try clear hk); (try clear hi); (try clear A7)) | (go_at_call 13; (with_reducible refine (num_Long.calls a1 t193 _ A8.out).mono ?_); rintro e w11 ⟨rfl, hb⟩; have n0_ := Aside0.mk (below_step (by repeat (first | (with_reducible first | exact HB.out | apply below_alloc | apply pw_below_drewN | apply below_drew1) | exact HB.out)) hb); clear HB; have HB := n0_; clear n0_; (try clear hb); (try clear hb2); (try clear hk); (try clear hi); (try clear A8)))
        repeat (go_quiet (first | (go_at_call 13; (with_reducible refine (num_Long.calls a0 t192 _ A7.out).mono ?_); rintro e w10 ⟨rfl, hb⟩; have n0_ := Aside0.mk (below_step (by repeat (first | (with_reducible first | exact HB.out | apply below_alloc | apply pw_below_drewN | apply below_drew1) | exact HB.out)) hb); clear HB; have HB := n0_; clear n0_; (try clear hb); (try clear hb2); (try clear hk); (try clear hi); (try clear A7)) | (go_at_call 13; (with_reducible refine (num_Long.calls a1 t193 _ A8.out).mono ?_); rintro e w11 ⟨rfl, hb⟩; have n0_ := Aside0.mk (below_step (by repeat (first | (with_reducible first | exact HB.out | apply below_alloc | apply pw_below_drewN | apply below_drew1) | exact HB.out)) hb); clear HB; have HB := n0_; clear n0_; (try clear hb); (try clear hb2); (try clear hk); (try clear hi); (try clear A8))); try go_wp2_with (first | (go_at_call 13; (with_reducible refine (num_Long.calls a0 t192 _ A7.out).mono ?_); rintro e w10 ⟨rfl, hb⟩; have n0_ := Aside0.mk (below_step (by repeat (first | (with_reducible first | exact HB.out | apply below_alloc | apply pw_below_drewN | apply below_drew1) | exact HB.out)) hb); clear HB; have HB := n0_; clear n0_; (try clear hb); (try clear hb2); (try clear hk); (try clear hi); (try clear A7)) | (go_at_call 13; (with_reducible refine (num_Long.calls a1 t193 _ A8.out).mono ?_); rintro e w11 ⟨rfl, hb⟩; have n0_ := Aside0.mk (below_step (by repeat (first | (with_reducible first | exact HB.out | apply below_alloc | apply pw_below_drewN | apply below_drew1) | exact HB.out)) hb); clear HB; have HB := n0_; clear n0_; (try clear hb); (try clear hb2); (try clear hk); (try clear hi); (try clear A8))))
        go_meet
        case rel => exact ⟨_, (true), (by first | rfl | (simp; done) | (simp [*]; done)), (by first | (with_reducible exact H') | exact H' | (subst_vars; exact H')), ⟨by first | omega | exact Nat.le_refl _⟩, ⟨by repeat (first | (with_reducible first | exact HB.out | apply below_alloc | apply pw_below_drewN | apply below_drew1) | exact HB.out)⟩⟩
      · rw [if_neg c9] at H
        have c9b0 : ((Op.bytesLess t192.toList t193.toList) != (decide (a0 < a1))) = false := by simpa using c9
        (try (have c9b1 : decide ((Op.bytesLess t192.toList t193.toList) = (decide (a0 < a1))) = true := by simpa using c9))
        (try (have c9b2 : ((Op.bytesLess t192.toList t193.toList) == (decide (a0 < a1))) = true := by simpa using c9))
        clear c9
        (first | rw [c9b0] | (simp only [i64_w, i32_w]; rw [c9b0]) | skip)
        replace H := Option.bind_eq_some_iff.mp H
        obtain ⟨t194, A120, H⟩ := H
        replace H : ((num_Fall.f a1).bind fun t195 => (if ((Op.bytesLess t194.toList t195.toList) != (decide (a0 > a1))) = true then (screelaw01_NumOrder.j0 k a0 a1 true) else ((num_Long.f a0).bind fun t196 => (if (t196.size : Int) = 8 then ((num_Fall.f a1).bind fun t197 => (screelaw01_NumOrder.j0 k a0 a1 ((t197.size : Int) != 8))) else (screelaw01_NumOrder.j0 k a0 a1 true))))) = some r := H
        have A12 := Aside0.mk A120
        clear A120
        replace H := Option.bind_eq_some_iff.mp H
        obtain ⟨t195, A130, H⟩ := H
        replace H : (if ((Op.bytesLess t194.toList t195.toList) != (decide (a0 > a1))) = true then (screelaw01_NumOrder.j0 k a0 a1 true) else ((num_Long.f a0).bind fun t196 => (if (t196.size : Int) = 8 then ((num_Fall.f a1).bind fun t197 => (screelaw01_NumOrder.j0 k a0 a1 ((t197.size : Int) != 8))) else (screelaw01_NumOrder.j0 k a0 a1 true)))) = some r := H
        have A13 := Aside0.mk A130
        clear A130
        by_cases c14 : ((Op.bytesLess t194.toList t195.toList) != (decide (a0 > a1))) = true
        · rw [if_pos c14] at H
          have c14b0 : ((Op.bytesLess t194.toList t195.toList) != (decide (a0 > a1))) = true := c14
          (try (have c14b1 : decide ((Op.bytesLess t194.toList t195.toList) = (decide (a0 > a1))) = false := by simpa using c14))
          (try (have c14b2 : ((Op.bytesLess t194.toList t195.toList) == (decide (a0 > a1))) = false := by simpa using c14))
          (try (have c14b3 : ¬ ((Op.bytesLess t194.toList t195.toList) = (decide (a0 > a1))) := by simpa using c14))
          clear c14
          have H' := Aside0.mk H
          clear H
          go_wp2_with (first | (go_at_call 13; (with_reducible refine (num_Long.calls a0 t192 _ A7.out).mono ?_); rintro e w15 ⟨rfl, hb⟩; have n0_ := Aside0.mk (below_step (by repeat (first | (with_reducible first | exact HB.out | apply below_alloc | apply pw_below_drewN | apply below_drew1) | exact HB.out)) hb); clear HB; have HB := n0_; clear n0_; (try clear hb); (try clear hb2); (try clear hk); (try clear hi); (try clear A7)) | (go_at_call 13; (with_reducible refine (num_Long.calls a1 t193 _ A8.out).mono ?_); rintro e w16 ⟨rfl, hb⟩; have n0_ := Aside0.mk (below_step (by repeat (first | (with_reducible first | exact HB.out | apply below_alloc | apply pw_below_drewN | apply below_drew1) | exact HB.out)) hb); clear HB; have HB := n0_; clear n0_; (try clear hb); (try clear hb2); (try clear hk); (try clear hi); (try clear A8)) | (go_at_call 15; (with_reducible refine (num_Fall.calls a0 t194 _ A12.out).mono ?_); rintro e w17 ⟨rfl, hb⟩; have n0_ := Aside0.mk (below_step (by repeat (first | (with_reducible first | exact HB.out | apply below_alloc | apply pw_below_drewN | apply below_drew1) | exact HB.out)) hb); clear HB; have HB := n0_; clear n0_; (try clear hb); (try clear hb2); (try clear hk); (try clear hi); (try clear A12)) | (go_at_call 15; (with_reducible refine (num_Fall.calls a1 t195 _ A13.out).mono ?_); rintro e w18 ⟨rfl, hb⟩; have n0_ := Aside0.mk (below_step (by repeat (first | (with_reducible first | exact HB.out | apply below_alloc | apply pw_below_drewN | apply below_drew1) | exact HB.out)) hb); clear HB; have HB := n0_; clear n0_; (try clear hb); (try clear hb2); (try clear hk); (try clear hi); (try clear A13)))
          repeat (go_quiet (first | (go_at_call 13; (with_reducible refine (num_Long.calls a0 t192 _ A7.out).mono ?_); rintro e w15 ⟨rfl, hb⟩; have n0_ := Aside0.mk (below_step (by repeat (first | (with_reducible first | exact HB.out | apply below_alloc | apply pw_below_drewN | apply below_drew1) | exact HB.out)) hb); clear HB; have HB := n0_; clear n0_; (try clear hb); (try clear hb2); (try clear hk); (try clear hi); (try clear A7)) | (go_at_call 13; (with_reducible refine (num_Long.calls a1 t193 _ A8.out).mono ?_); rintro e w16 ⟨rfl, hb⟩; have n0_ := Aside0.mk (below_step (by repeat (first | (with_reducible first | exact HB.out | apply below_alloc | apply pw_below_drewN | apply below_drew1) | exact HB.out)) hb); clear HB; have HB := n0_; clear n0_; (try clear hb); (try clear hb2); (try clear hk); (try clear hi); (try clear A8)) | (go_at_call 15; (with_reducible refine (num_Fall.calls a0 t194 _ A12.out).mono ?_); rintro e w17 ⟨rfl, hb⟩; have n0_ := Aside0.mk (below_step (by repeat (first | (with_reducible first | exact HB.out | apply below_alloc | apply pw_below_drewN | apply below_drew1) | exact HB.out)) hb); clear HB; have HB := n0_; clear n0_; (try clear hb); (try clear hb2); (try clear hk); (try clear hi); (try clear A12)) | (go_at_call 15; (with_reducible refine (num_Fall.calls a1 t195 _ A13.out).mono ?_); rintro e w18 ⟨rfl, hb⟩; have n0_ := Aside0.mk (below_step (by repeat (first | (with_reducible first | exact HB.out | apply below_alloc | apply pw_below_drewN | apply below_drew1) | exact HB.out)) hb); clear HB; have HB := n0_; clear n0_; (try clear hb); (try clear hb2); (try clear hk); (try clear hi); (try clear A13))); try go_wp2_with (first | (go_at_call 13; (with_reducible refine (num_Long.calls a0 t192 _ A7.out).mono ?_); rintro e w15 ⟨rfl, hb⟩; have n0_ := Aside0.mk (below_step (by repeat (first | (with_reducible first | exact HB.out | apply below_alloc | apply pw_below_drewN | apply below_drew1) | exact HB.out)) hb); clear HB; have HB := n0_; clear n0_; (try clear hb); (try clear hb2); (try clear hk); (try clear hi); (try clear A7)) | (go_at_call 13; (with_reducible refine (num_Long.calls a1 t193 _ A8.out).mono ?_); rintro e w16 ⟨rfl, hb⟩; have n0_ := Aside0.mk (below_step (by repeat (first | (with_reducible first | exact HB.out | apply below_alloc | apply pw_below_drewN | apply below_drew1) | exact HB.out)) hb); clear HB; have HB := n0_; clear n0_; (try clear hb); (try clear hb2); (try clear hk); (try clear hi); (try clear A8)) | (go_at_call 15; (with_reducible refine (num_Fall.calls a0 t194 _ A12.out).mono ?_); rintro e w17 ⟨rfl, hb⟩; have n0_ := Aside0.mk (below_step (by repeat (first | (with_reducible first | exact HB.out | apply below_alloc | apply pw_below_drewN | apply below_drew1) | exact HB.out)) hb); clear HB; have HB := n0_; clear n0_; (try clear hb); (try clear hb2); (try clear hk); (try clear hi); (try clear A12)) | (go_at_call 15; (with_reducible refine (num_Fall.calls a1 t195 _ A13.out).mono ?_); rintro e w18 ⟨rfl, hb⟩; have n0_ := Aside0.mk (below_step (by repeat (first | (with_reducible first | exact HB.out | apply below_alloc | apply pw_below_drewN | apply below_drew1) | exact HB.out)) hb); clear HB; have HB := n0_; clear n0_; (try clear hb); (try clear hb2); (try clear hk); (try clear hi); (try clear A13))))
          go_meet
          case rel => exact ⟨_, (true), (by first | rfl | (simp; done) | (simp [*]; done)), (by first | (with_reducible exact H') | exact H' | (subst_vars; exact H')), ⟨by first | omega | exact Nat.le_refl _⟩, ⟨by repeat (first | (with_reducible first | exact HB.out | apply below_alloc | apply pw_below_drewN | apply below_drew1) | exact HB.out)⟩⟩
        · rw [if_neg c14] at H
          have c14b0 : ((Op.bytesLess t194.toList t195.toList) != (decide (a0 > a1))) = false := by simpa using c14
          (try (have c14b1 : decide ((Op.bytesLess t194.toList t195.toList) = (decide (a0 > a1))) = true := by simpa using c14))
          (try (have c14b2 : ((Op.bytesLess t194.toList t195.toList) == (decide (a0 > a1))) = true := by simpa using c14))
          clear c14
          replace H := Option.bind_eq_some_iff.mp H
          obtain ⟨t196, A190, H⟩ := H
          replace H : (if (t196.size : Int) = 8 then ((num_Fall.f a1).bind fun t197 => (screelaw01_NumOrder.j0 k a0 a1 ((t197.size : Int) != 8))) else (screelaw01_NumOrder.j0 k a0 a1 true)) = some r := H
          have A19 := Aside0.mk A190
          clear A190
          by_cases c20 : (t196.size : Int) = 8
          · rw [if_pos c20] at H
            have c20b0 : ((t196.size : Int) == 8) = true := beq_iff_eq.mpr c20
            have c20b1 : ((t196.size : Int) != 8) = false := bne_eq_false_iff_eq.mpr c20
            clear c20
            replace H := Option.bind_eq_some_iff.mp H
            obtain ⟨t197, A210, H⟩ := H
            replace H : (screelaw01_NumOrder.j0 k a0 a1 ((t197.size : Int) != 8)) = some r := H
            have A21 := Aside0.mk A210
            clear A210
            have H' := Aside0.mk H
            clear H
            go_wp2_with (first | (go_at_call 13; (with_reducible refine (num_Long.calls a0 t192 _ A7.out).mono ?_); rintro e w22 ⟨rfl, hb⟩; have n0_ := Aside0.mk (below_step (by repeat (first | (with_reducible first | exact HB.out | apply below_alloc | apply pw_below_drewN | apply below_drew1) | exact HB.out)) hb); clear HB; have HB := n0_; clear n0_; (try clear hb); (try clear hb2); (try clear hk); (try clear hi); (try clear A7)) | (go_at_call 13; (with_reducible refine (num_Long.calls a1 t193 _ A8.out).mono ?_); rintro e w23 ⟨rfl, hb⟩; have n0_ := Aside0.mk (below_step (by repeat (first | (with_reducible first | exact HB.out | apply below_alloc | apply pw_below_drewN | apply below_drew1) | exact HB.out)) hb); clear HB; have HB := n0_; clear n0_; (try clear hb); (try clear hb2); (try clear hk); (try clear hi); (try clear A8)) | (go_at_call 15; (with_reducible refine (num_Fall.calls a0 t194 _ A12.out).mono ?_); rintro e w24 ⟨rfl, hb⟩; have n0_ := Aside0.mk (below_step (by repeat (first | (with_reducible first | exact HB.out | apply below_alloc | apply pw_below_drewN | apply below_drew1) | exact HB.out)) hb); clear HB; have HB := n0_; clear n0_; (try clear hb); (try clear hb2); (try clear hk); (try clear hi); (try clear A12)) | (go_at_call 15; (with_reducible refine (num_Fall.calls a1 t195 _ A13.out).mono ?_); rintro e w25 ⟨rfl, hb⟩; have n0_ := Aside0.mk (below_step (by repeat (first | (with_reducible first | exact HB.out | apply below_alloc | apply pw_below_drewN | apply below_drew1) | exact HB.out)) hb); clear HB; have HB := n0_; clear n0_; (try clear hb); (try clear hb2); (try clear hk); (try clear hi); (try clear A13)) | (go_at_call 13; (with_reducible refine (num_Long.calls a0 t196 _ A19.out).mono ?_); rintro e w26 ⟨rfl, hb⟩; have n0_ := Aside0.mk (below_step (by repeat (first | (with_reducible first | exact HB.out | apply below_alloc | apply pw_below_drewN | apply below_drew1) | exact HB.out)) hb); clear HB; have HB := n0_; clear n0_; (try clear hb); (try clear hb2); (try clear hk); (try clear hi); (try clear A19)) | (go_at_call 15; (with_reducible refine (num_Fall.calls a1 t197 _ A21.out).mono ?_); rintro e w27 ⟨rfl, hb⟩; have n0_ := Aside0.mk (below_step (by repeat (first | (with_reducible first | exact HB.out | apply below_alloc | apply pw_below_drewN | apply below_drew1) | exact HB.out)) hb); clear HB; have HB := n0_; clear n0_; (try clear hb); (try clear hb2); (try clear hk); (try clear hi); (try clear A21)))
            repeat (go_quiet (first | (go_at_call 13; (with_reducible refine (num_Long.calls a0 t192 _ A7.out).mono ?_); rintro e w22 ⟨rfl, hb⟩; have n0_ := Aside0.mk (below_step (by repeat (first | (with_reducible first | exact HB.out | apply below_alloc | apply pw_below_drewN | apply below_drew1) | exact HB.out)) hb); clear HB; have HB := n0_; clear n0_; (try clear hb); (try clear hb2); (try clear hk); (try clear hi); (try clear A7)) | (go_at_call 13; (with_reducible refine (num_Long.calls a1 t193 _ A8.out).mono ?_); rintro e w23 ⟨rfl, hb⟩; have n0_ := Aside0.mk (below_step (by repeat (first | (with_reducible first | exact HB.out | apply below_alloc | apply pw_below_drewN | apply below_drew1) | exact HB.out)) hb); clear HB; have HB := n0_; clear n0_; (try clear hb); (try clear hb2); (try clear hk); (try clear hi); (try clear A8)) | (go_at_call 15; (with_reducible refine (num_Fall.calls a0 t194 _ A12.out).mono ?_); rintro e w24 ⟨rfl, hb⟩; have n0_ := Aside0.mk (below_step (by repeat (first | (with_reducible first | exact HB.out | apply below_alloc | apply pw_below_drewN | apply below_drew1) | exact HB.out)) hb); clear HB; have HB := n0_; clear n0_; (try clear hb); (try clear hb2); (try clear hk); (try clear hi); (try clear A12)) | (go_at_call 15; (with_reducible refine (num_Fall.calls a1 t195 _ A13.out).mono ?_); rintro e w25 ⟨rfl, hb⟩; have n0_ := Aside0.mk (below_step (by repeat (first | (with_reducible first | exact HB.out | apply below_alloc | apply pw_below_drewN | apply below_drew1) | exact HB.out)) hb); clear HB; have HB := n0_; clear n0_; (try clear hb); (try clear hb2); (try clear hk); (try clear hi); (try clear A13)) | (go_at_call 13; (with_reducible refine (num_Long.calls a0 t196 _ A19.out).mono ?_); rintro e w26 ⟨rfl, hb⟩; have n0_ := Aside0.mk (below_step (by repeat (first | (with_reducible first | exact HB.out | apply below_alloc | apply pw_below_drewN | apply below_drew1) | exact HB.out)) hb); clear HB; have HB := n0_; clear n0_; (try clear hb); (try clear hb2); (try clear hk); (try clear hi); (try clear A19)) | (go_at_call 15; (with_reducible refine (num_Fall.calls a1 t197 _ A21.out).mono ?_); rintro e w27 ⟨rfl, hb⟩; have n0_ := Aside0.mk (below_step (by repeat (first | (with_reducible first | exact HB.out | apply below_alloc | apply pw_below_drewN | apply below_drew1) | exact HB.out)) hb); clear HB; have HB := n0_; clear n0_; (try clear hb); (try clear hb2); (try clear hk); (try clear hi); (try clear A21))); try go_wp2_with (first | (go_at_call 13; (with_reducible refine (num_Long.calls a0 t192 _ A7.out).mono ?_); rintro e w22 ⟨rfl, hb⟩; have n0_ := Aside0.mk (below_step (by repeat (first | (with_reducible first | exact HB.out | apply below_alloc | apply pw_below_drewN | apply below_drew1) | exact HB.out)) hb); clear HB; have HB := n0_; clear n0_; (try clear hb); (try clear hb2); (try clear hk); (try clear hi); (try clear A7)) | (go_at_call 13; (with_reducible refine (num_Long.calls a1 t193 _ A8.out).mono ?_); rintro e w23 ⟨rfl, hb⟩; have n0_ := Aside0.mk (below_step (by repeat (first | (with_reducible first | exact HB.out | apply below_alloc | apply pw_below_drewN | apply below_drew1) | exact HB.out)) hb); clear HB; have HB := n0_; clear n0_; (try clear hb); (try clear hb2); (try clear hk); (try clear hi); (try clear A8)) | (go_at_call 15; (with_reducible refine (num_Fall.calls a0 t194 _ A12.out).mono ?_); rintro e w24 ⟨rfl, hb⟩; have n0_ := Aside0.mk (below_step (by repeat (first | (with_reducible first | exact HB.out | apply below_alloc | apply pw_below_drewN | apply below_drew1) | exact HB.out)) hb); clear HB; have HB := n0_; clear n0_; (try clear hb); (try clear hb2); (try clear hk); (try clear hi); (try clear A12)) | (go_at_call 15; (with_reducible refine (num_Fall.calls a1 t195 _ A13.out).mono ?_); rintro e w25 ⟨rfl, hb⟩; have n0_ := Aside0.mk (below_step (by repeat (first | (with_reducible first | exact HB.out | apply below_alloc | apply pw_below_drewN | apply below_drew1) | exact HB.out)) hb); clear HB; have HB := n0_; clear n0_; (try clear hb); (try clear hb2); (try clear hk); (try clear hi); (try clear A13)) | (go_at_call 13; (with_reducible refine (num_Long.calls a0 t196 _ A19.out).mono ?_); rintro e w26 ⟨rfl, hb⟩; have n0_ := Aside0.mk (below_step (by repeat (first | (with_reducible first | exact HB.out | apply below_alloc | apply pw_below_drewN | apply below_drew1) | exact HB.out)) hb); clear HB; have HB := n0_; clear n0_; (try clear hb); (try clear hb2); (try clear hk); (try clear hi); (try clear A19)) | (go_at_call 15; (with_reducible refine (num_Fall.calls a1 t197 _ A21.out).mono ?_); rintro e w27 ⟨rfl, hb⟩; have n0_ := Aside0.mk (below_step (by repeat (first | (with_reducible first | exact HB.out | apply below_alloc | apply pw_below_drewN | apply below_drew1) | exact HB.out)) hb); clear HB; have HB := n0_; clear n0_; (try clear hb); (try clear hb2); (try clear hk); (try clear hi); (try clear A21))))
            go_meet
            case rel => exact ⟨_, (((t197.size : Int) != 8)), (by first | rfl | (simp; done) | (simp [*]; done)), (by first | (with_reducible exact H') | exact H' | (subst_vars; exact H')), ⟨by first | omega | exact Nat.le_refl _⟩, ⟨by repeat (first | (with_reducible first | exact HB.out | apply below_alloc | apply pw_below_drewN | apply below_drew1) | exact HB.out)⟩⟩
          · rw [if_neg c20] at H
            have c20b0 : ((t196.size : Int) == 8) = false := beq_eq_false_iff_ne.mpr c20
            have c20b1 : ((t196.size : Int) != 8) = true := bne_iff_ne.mpr c20
            have H' := Aside0.mk H
            clear H
            go_wp2_with (first | (go_at_call 13; (with_reducible refine (num_Long.calls a0 t192 _ A7.out).mono ?_); rintro e w28 ⟨rfl, hb⟩; have n0_ := Aside0.mk (below_step (by repeat (first | (with_reducible first | exact HB.out | apply below_alloc | apply pw_below_drewN | apply below_drew1) | exact HB.out)) hb); clear HB; have HB := n0_; clear n0_; (try clear hb); (try clear hb2); (try clear hk); (try clear hi); (try clear A7)) | (go_at_call 13; (with_reducible refine (num_Long.calls a1 t193 _ A8.out).mono ?_); rintro e w29 ⟨rfl, hb⟩; have n0_ := Aside0.mk (below_step (by repeat (first | (with_reducible first | exact HB.out | apply below_alloc | apply pw_below_drewN | apply below_drew1) | exact HB.out)) hb); clear HB; have HB := n0_; clear n0_; (try clear hb); (try clear hb2); (try clear hk); (try clear hi); (try clear A8)) | (go_at_call 15; (with_reducible refine (num_Fall.calls a0 t194 _ A12.out).mono ?_); rintro e w30 ⟨rfl, hb⟩; have n0_ := Aside0.mk (below_step (by repeat (first | (with_reducible first | exact HB.out | apply below_alloc | apply pw_below_drewN | apply below_drew1) | exact HB.out)) hb); clear HB; have HB := n0_; clear n0_; (try clear hb); (try clear hb2); (try clear hk); (try clear hi); (try clear A12)) | (go_at_call 15; (with_reducible refine (num_Fall.calls a1 t195 _ A13.out).mono ?_); rintro e w31 ⟨rfl, hb⟩; have n0_ := Aside0.mk (below_step (by repeat (first | (with_reducible first | exact HB.out | apply below_alloc | apply pw_below_drewN | apply below_drew1) | exact HB.out)) hb); clear HB; have HB := n0_; clear n0_; (try clear hb); (try clear hb2); (try clear hk); (try clear hi); (try clear A13)) | (go_at_call 13; (with_reducible refine (num_Long.calls a0 t196 _ A19.out).mono ?_); rintro e w32 ⟨rfl, hb⟩; have n0_ := Aside0.mk (below_step (by repeat (first | (with_reducible first | exact HB.out | apply below_alloc | apply pw_below_drewN | apply below_drew1) | exact HB.out)) hb); clear HB; have HB := n0_; clear n0_; (try clear hb); (try clear hb2); (try clear hk); (try clear hi); (try clear A19)))
            repeat (go_quiet (first | (go_at_call 13; (with_reducible refine (num_Long.calls a0 t192 _ A7.out).mono ?_); rintro e w28 ⟨rfl, hb⟩; have n0_ := Aside0.mk (below_step (by repeat (first | (with_reducible first | exact HB.out | apply below_alloc | apply pw_below_drewN | apply below_drew1) | exact HB.out)) hb); clear HB; have HB := n0_; clear n0_; (try clear hb); (try clear hb2); (try clear hk); (try clear hi); (try clear A7)) | (go_at_call 13; (with_reducible refine (num_Long.calls a1 t193 _ A8.out).mono ?_); rintro e w29 ⟨rfl, hb⟩; have n0_ := Aside0.mk (below_step (by repeat (first | (with_reducible first | exact HB.out | apply below_alloc | apply pw_below_drewN | apply below_drew1) | exact HB.out)) hb); clear HB; have HB := n0_; clear n0_; (try clear hb); (try clear hb2); (try clear hk); (try clear hi); (try clear A8)) | (go_at_call 15; (with_reducible refine (num_Fall.calls a0 t194 _ A12.out).mono ?_); rintro e w30 ⟨rfl, hb⟩; have n0_ := Aside0.mk (below_step (by repeat (first | (with_reducible first | exact HB.out | apply below_alloc | apply pw_below_drewN | apply below_drew1) | exact HB.out)) hb); clear HB; have HB := n0_; clear n0_; (try clear hb); (try clear hb2); (try clear hk); (try clear hi); (try clear A12)) | (go_at_call 15; (with_reducible refine (num_Fall.calls a1 t195 _ A13.out).mono ?_); rintro e w31 ⟨rfl, hb⟩; have n0_ := Aside0.mk (below_step (by repeat (first | (with_reducible first | exact HB.out | apply below_alloc | apply pw_below_drewN | apply below_drew1) | exact HB.out)) hb); clear HB; have HB := n0_; clear n0_; (try clear hb); (try clear hb2); (try clear hk); (try clear hi); (try clear A13)) | (go_at_call 13; (with_reducible refine (num_Long.calls a0 t196 _ A19.out).mono ?_); rintro e w32 ⟨rfl, hb⟩; have n0_ := Aside0.mk (below_step (by repeat (first | (with_reducible first | exact HB.out | apply below_alloc | apply pw_below_drewN | apply below_drew1) | exact HB.out)) hb); clear HB; have HB := n0_; clear n0_; (try clear hb); (try clear hb2); (try clear hk); (try clear hi); (try clear A19))); try go_wp2_with (first | (go_at_call 13; (with_reducible refine (num_Long.calls a0 t192 _ A7.out).mono ?_); rintro e w28 ⟨rfl, hb⟩; have n0_ := Aside0.mk (below_step (by repeat (first | (with_reducible first | exact HB.out | apply below_alloc | apply pw_below_drewN | apply below_drew1) | exact HB.out)) hb); clear HB; have HB := n0_; clear n0_; (try clear hb); (try clear hb2); (try clear hk); (try clear hi); (try clear A7)) | (go_at_call 13; (with_reducible refine (num_Long.calls a1 t193 _ A8.out).mono ?_); rintro e w29 ⟨rfl, hb⟩; have n0_ := Aside0.mk (below_step (by repeat (first | (with_reducible first | exact HB.out | apply below_alloc | apply pw_below_drewN | apply below_drew1) | exact HB.out)) hb); clear HB; have HB := n0_; clear n0_; (try clear hb); (try clear hb2); (try clear hk); (try clear hi); (try clear A8)) | (go_at_call 15; (with_reducible refine (num_Fall.calls a0 t194 _ A12.out).mono ?_); rintro e w30 ⟨rfl, hb⟩; have n0_ := Aside0.mk (below_step (by repeat (first | (with_reducible first | exact HB.out | apply below_alloc | apply pw_below_drewN | apply below_drew1) | exact HB.out)) hb); clear HB; have HB := n0_; clear n0_; (try clear hb); (try clear hb2); (try clear hk); (try clear hi); (try clear A12)) | (go_at_call 15; (with_reducible refine (num_Fall.calls a1 t195 _ A13.out).mono ?_); rintro e w31 ⟨rfl, hb⟩; have n0_ := Aside0.mk (below_step (by repeat (first | (with_reducible first | exact HB.out | apply below_alloc | apply pw_below_drewN | apply below_drew1) | exact HB.out)) hb); clear HB; have HB := n0_; clear n0_; (try clear hb); (try clear hb2); (try clear hk); (try clear hi); (try clear A13)) | (go_at_call 13; (with_reducible refine (num_Long.calls a0 t196 _ A19.out).mono ?_); rintro e w32 ⟨rfl, hb⟩; have n0_ := Aside0.mk (below_step (by repeat (first | (with_reducible first | exact HB.out | apply below_alloc | apply pw_below_drewN | apply below_drew1) | exact HB.out)) hb); clear HB; have HB := n0_; clear n0_; (try clear hb); (try clear hb2); (try clear hk); (try clear hi); (try clear A19))))
            go_meet
            case rel => exact ⟨_, (true), (by first | rfl | (simp; done) | (simp [*]; done)), (by first | (with_reducible exact H') | exact H' | (subst_vars; exact H')), ⟨by first | omega | exact Nat.le_refl _⟩, ⟨by repeat (first | (with_reducible first | exact HB.out | apply below_alloc | apply pw_below_drewN | apply below_drew1) | exact HB.out)⟩⟩
    case rest =>
      clear HC5
      try clear c1
      try clear c2
      try clear p2
      try clear c4
      try clear c6
      try clear c9
      try clear c9b0
      try clear c9b1
      try clear c9b2
      try clear c14
      try clear c14b0
      try clear c14b1
      try clear c14b2
      try clear c20
      try clear c20b0
      try clear c20b1
      obtain ⟨kq, x41_4, rfl, HA, HJ4, HB⟩ := hcut
      cases kq with
      | zero => exact absurd HA.out (by simp [screelaw01_NumOrder.j0])
      | succ kj4 =>
        have H := HA.out
        clear HA
        simp only [screelaw01_NumOrder.j0] at H
        by_cases c33 : x41_4 = true
        · subst c33
          have H1 : (some false) = some r := by rw [if_pos rfl] at H; exact H
          clear H
          have H := H1
          clear H1
          obtain rfl := Option.some.inj H
          go_wp2
          repeat (go_quiet (fail); try go_wp2)
          go_ret
          exact ⟨by first | rfl | (simp [errW_none, errW_some] <;> rfl) | (simp [*, errW_none, errW_some] <;> rfl), by repeat (first | (with_reducible first | exact HB.out | apply below_alloc | apply pw_below_drewN | apply below_drew1) | exact HB.out)⟩
        · replace c33 := Bool.eq_false_iff.mpr c33
          subst c33
          have H1 : ((num_Short.f kj4 a0).bind fun t198 => ((num_Short.f kj4 a1).bind fun t199 => (if (mn (t198.size : Int) (t199.size : Int)) > 0 then (if 0 ≤ (mn (t198.size : Int) (t199.size : Int)) then (if (mn (t198.size : Int) (t199.size : Int)) ≤ (t198.size : Int) then (if (mn (t198.size : Int) (t199.size : Int)) ≤ (t199.size : Int) then (some ((a0 == a1) == ((t198.extract 0 ((mn (t198.size : Int) (t199.size : Int)) : Int).toNat).toList == (t199.extract 0 ((mn (t198.size : Int) (t199.size : Int)) : Int).toNat).toList))) else (none)) else (none)) else (none)) else (some false)))) = some r := by rw [if_neg (show ¬ (false = true) by decide)] at H; exact H
          clear H
          have H := H1
          clear H1
          replace H := Option.bind_eq_some_iff.mp H
          obtain ⟨t198, A340, H⟩ := H
          replace H : ((num_Short.f kj4 a1).bind fun t199 => (if (mn (t198.size : Int) (t199.size : Int)) > 0 then (if 0 ≤ (mn (t198.size : Int) (t199.size : Int)) then (if (mn (t198.size : Int) (t199.size : Int)) ≤ (t198.size : Int) then (if (mn (t198.size : Int) (t199.size : Int)) ≤ (t199.size : Int) then (some ((a0 == a1) == ((t198.extract 0 ((mn (t198.size : Int) (t199.size : Int)) : Int).toNat).toList == (t199.extract 0 ((mn (t198.size : Int) (t199.size : Int)) : Int).toNat).toList))) else (none)) else (none)) else (none)) else (some false))) = some r := H
          have A34 := Aside0.mk A340
          clear A340
          replace H := Option.bind_eq_some_iff.mp H
          obtain ⟨t199, A350, H⟩ := H
          replace H : (if (mn (t198.size : Int) (t199.size : Int)) > 0 then (if 0 ≤ (mn (t198.size : Int) (t199.size : Int)) then (if (mn (t198.size : Int) (t199.size : Int)) ≤ (t198.size : Int) then (if (mn (t198.size : Int) (t199.size : Int)) ≤ (t199.size : Int) then (some ((a0 == a1) == ((t198.extract 0 ((mn (t198.size : Int) (t199.size : Int)) : Int).toNat).toList == (t199.extract 0 ((mn (t198.size : Int) (t199.size : Int)) : Int).toNat).toList))) else (none)) else (none)) else (none)) else (some false)) = some r := H
          have A35 := Aside0.mk A350
          clear A350
          obtain ⟨ji36, hji36⟩ : ∃ j_ : Int, (mn (t198.size : Int) (t199.size : Int)) = j_ := ⟨_, rfl⟩
          replace H : (if (ji36) > 0 then (if 0 ≤ (ji36) then (if (ji36) ≤ (t198.size : Int) then (if (ji36) ≤ (t199.size : Int) then (some ((a0 == a1) == ((t198.extract 0 ((ji36) : Int).toNat).toList == (t199.extract 0 ((ji36) : Int).toNat).toList))) else (none)) else (none)) else (none)) else (some false)) = some r := by first | (rw [hji36] at H; exact H) | (simp only [hji36] at H ⊢; exact H)
          (try rw [hji36] at A34)
          (try rw [hji36] at A35)
          (try (have hji36l : 0 ≤ ji36 := by (rw [← hji36]; unfold mn; (repeat' split) <;> omega)))
          (try (have hji36m : 0 ≤ ji36 := by omega))
          have hji36_n : (if t199.size < t198.size then (t199.size : Int) else (t198.size : Int)) = ji36 := by first | (have z_ := hji36; unfold mn at z_; simp only [Int.ofNat_lt] at z_; exact z_)
          have hji36_ : (if (t199.size : Int) < (t198.size : Int) then (t199.size : Int) else (t198.size : Int)) = ji36 := hji36
          by_cases c37 : (ji36) > 0
          · rw [if_pos c37] at H
            have c37b0 : decide (0 < (ji36)) = true := decide_eq_true c37
            clear c37
            by_cases c38 : 0 ≤ (ji36)
            · rw [if_pos c38] at H
              have c38b0 := eq_true c38
              have c38b1 : decide (0 ≤ (ji36)) = true := decide_eq_true c38
              clear c38
              by_cases c39 : (ji36) ≤ (t198.size : Int)
              · rw [if_pos c39] at H
                have c39b0 := eq_true c39
                have c39b1 : decide ((ji36) ≤ (t198.size : Int)) = true := decide_eq_true c39
                clear c39
                have c40b0 := eq_true (of_decide_eq_true (by first | (with_reducible assumption) | assumption) : 0 ≤ (ji36))
                by_cases c41 : (ji36) ≤ (t199.size : Int)
                · rw [if_pos c41] at H
                  have c41b0 := eq_true c41
                  have c41b1 : decide ((ji36) ≤ (t199.size : Int)) = true := decide_eq_true c41
                  clear c41
                  obtain rfl := Option.some.inj H
                  go_wp2_with (first | (go_at_call 11; (with_reducible refine (num_Short.calls kj4 a0 t198 _ A34.out).mono ?_); rintro e w42 ⟨rfl, hb⟩; have n0_ := Aside0.mk (below_step (by repeat (first | (with_reducible first | exact HB.out | apply below_alloc | apply pw_below_drewN | apply below_drew1) | exact HB.out)) hb); clear HB; have HB := n0_; clear n0_; (try clear hb); (try clear hb2); (try clear hk); (try clear hi); (try clear A34)) | (go_at_call 11; (with_reducible refine (num_Short.calls kj4 a1 t199 _ A35.out).mono ?_); rintro e w43 ⟨rfl, hb⟩; have n0_ := Aside0.mk (below_step (by repeat (first | (with_reducible first | exact HB.out | apply below_alloc | apply pw_below_drewN | apply below_drew1) | exact HB.out)) hb); clear HB; have HB := n0_; clear n0_; (try clear hb); (try clear hb2); (try clear hk); (try clear hi); (try clear A35)))
                  repeat (go_quiet (first | (go_at_call 11; (with_reducible refine (num_Short.calls kj4 a0 t198 _ A34.out).mono ?_); rintro e w42 ⟨rfl, hb⟩; have n0_ := Aside0.mk (below_step (by repeat (first | (with_reducible first | exact HB.out | apply below_alloc | apply pw_below_drewN | apply below_drew1) | exact HB.out)) hb); clear HB; have HB := n0_; clear n0_; (try clear hb); (try clear hb2); (try clear hk); (try clear hi); (try clear A34)) | (go_at_call 11; (with_reducible refine (num_Short.calls kj4 a1 t199 _ A35.out).mono ?_); rintro e w43 ⟨rfl, hb⟩; have n0_ := Aside0.mk (below_step (by repeat (first | (with_reducible first | exact HB.out | apply below_alloc | apply pw_below_drewN | apply below_drew1) | exact HB.out)) hb); clear HB; have HB := n0_; clear n0_; (try clear hb); (try clear hb2); (try clear hk); (try clear hi); (try clear A35))); try go_wp2_with (first | (go_at_call 11; (with_reducible refine (num_Short.calls kj4 a0 t198 _ A34.out).mono ?_); rintro e w42 ⟨rfl, hb⟩; have n0_ := Aside0.mk (below_step (by repeat (first | (with_reducible first | exact HB.out | apply below_alloc | apply pw_below_drewN | apply below_drew1) | exact HB.out)) hb); clear HB; have HB := n0_; clear n0_; (try clear hb); (try clear hb2); (try clear hk); (try clear hi); (try clear A34)) | (go_at_call 11; (with_reducible refine (num_Short.calls kj4 a1 t199 _ A35.out).mono ?_); rintro e w43 ⟨rfl, hb⟩; have n0_ := Aside0.mk (below_step (by repeat (first | (with_reducible first | exact HB.out | apply below_alloc | apply pw_below_drewN | apply below_drew1) | exact HB.out)) hb); clear HB; have HB := n0_; clear n0_; (try clear hb); (try clear hb2); (try clear hk); (try clear hi); (try clear A35))))
                  go_ret
                  exact ⟨by first | rfl | (simp [errW_none, errW_some] <;> rfl) | (simp only [← hji36]; first | rfl | (simp [errW_none, errW_some] <;> rfl)) | (simp [*, errW_none, errW_some] <;> rfl), by repeat (first | (with_reducible first | exact HB.out | apply below_alloc | apply pw_below_drewN | apply below_drew1) | exact HB.out)⟩
                · rw [if_neg c41] at H
                  exact absurd H (by simp)
              · rw [if_neg c39] at H
                exact absurd H (by simp)
            · rw [if_neg c38] at H
              exact absurd H (by simp)
          · rw [if_neg c37] at H
            have c37b0 : decide (0 < (ji36)) = false := decide_eq_false c37
            clear c37
            obtain rfl := Option.some.inj H
            go_wp2_with (first | (go_at_call 11; (with_reducible refine (num_Short.calls kj4 a0 t198 _ A34.out).mono ?_); rintro e w44 ⟨rfl, hb⟩; have n0_ := Aside0.mk (below_step (by repeat (first | (with_reducible first | exact HB.out | apply below_alloc | apply pw_below_drewN | apply below_drew1) | exact HB.out)) hb); clear HB; have HB := n0_; clear n0_; (try clear hb); (try clear hb2); (try clear hk); (try clear hi); (try clear A34)) | (go_at_call 11; (with_reducible refine (num_Short.calls kj4 a1 t199 _ A35.out).mono ?_); rintro e w45 ⟨rfl, hb⟩; have n0_ := Aside0.mk (below_step (by repeat (first | (with_reducible first | exact HB.out | apply below_alloc | apply pw_below_drewN | apply below_drew1) | exact HB.out)) hb); clear HB; have HB := n0_; clear n0_; (try clear hb); (try clear hb2); (try clear hk); (try clear hi); (try clear A35)))
            repeat (go_quiet (first | (go_at_call 11; (with_reducible refine (num_Short.calls kj4 a0 t198 _ A34.out).mono ?_); rintro e w44 ⟨rfl, hb⟩; have n0_ := Aside0.mk (below_step (by repeat (first | (with_reducible first | exact HB.out | apply below_alloc | apply pw_below_drewN | apply below_drew1) | exact HB.out)) hb); clear HB; have HB := n0_; clear n0_; (try clear hb); (try clear hb2); (try clear hk); (try clear hi); (try clear A34)) | (go_at_call 11; (with_reducible refine (num_Short.calls kj4 a1 t199 _ A35.out).mono ?_); rintro e w45 ⟨rfl, hb⟩; have n0_ := Aside0.mk (below_step (by repeat (first | (with_reducible first | exact HB.out | apply below_alloc | apply pw_below_drewN | apply below_drew1) | exact HB.out)) hb); clear HB; have HB := n0_; clear n0_; (try clear hb); (try clear hb2); (try clear hk); (try clear hi); (try clear A35))); try go_wp2_with (first | (go_at_call 11; (with_reducible refine (num_Short.calls kj4 a0 t198 _ A34.out).mono ?_); rintro e w44 ⟨rfl, hb⟩; have n0_ := Aside0.mk (below_step (by repeat (first | (with_reducible first | exact HB.out | apply below_alloc | apply pw_below_drewN | apply below_drew1) | exact HB.out)) hb); clear HB; have HB := n0_; clear n0_; (try clear hb); (try clear hb2); (try clear hk); (try clear hi); (try clear A34)) | (go_at_call 11; (with_reducible refine (num_Short.calls kj4 a1 t199 _ A35.out).mono ?_); rintro e w45 ⟨rfl, hb⟩; have n0_ := Aside0.mk (below_step (by repeat (first | (with_reducible first | exact HB.out | apply below_alloc | apply pw_below_drewN | apply below_drew1) | exact HB.out)) hb); clear HB; have HB := n0_; clear n0_; (try clear hb); (try clear hb2); (try clear hk); (try clear hi); (try clear A35))))
            go_ret
            exact ⟨by first | rfl | (simp [errW_none, errW_some] <;> rfl) | (simp only [← hji36]; first | rfl | (simp [errW_none, errW_some] <;> rfl)) | (simp [*, errW_none, errW_some] <;> rfl), by repeat (first | (with_reducible first | exact HB.out | apply below_alloc | apply pw_below_drewN | apply below_drew1) | exact HB.out)⟩
  · replace c4 := Bool.eq_false_iff.mpr c4
    subst c4
    have H1 : (some false) = some r := by rw [if_neg (show ¬ (false = true) by decide)] at H; exact H
    clear H
    have H := H1
    clear H1
    obtain rfl := Option.some.inj H
    go_enter Try.func6, Try.ntmps6
    go_wp2_with (first | (go_at_call 10; (with_reducible refine (screelaw01_awake.calls k  false _ A3.out).mono ?_); rintro e w46 ⟨rfl, hb⟩; have n0_ := Aside0.mk (below_step (by repeat (first | (with_reducible first | exact HB.out | apply below_alloc | apply pw_below_drewN | apply below_drew1) | exact HB.out)) hb); clear HB; have HB := n0_; clear n0_; (try clear hb); (try clear hb2); (try clear hk); (try clear hi); (try clear A3)))
    repeat (go_quiet (first | (go_at_call 10; (with_reducible refine (screelaw01_awake.calls k  false _ A3.out).mono ?_); rintro e w46 ⟨rfl, hb⟩; have n0_ := Aside0.mk (below_step (by repeat (first | (with_reducible first | exact HB.out | apply below_alloc | apply pw_below_drewN | apply below_drew1) | exact HB.out)) hb); clear HB; have HB := n0_; clear n0_; (try clear hb); (try clear hb2); (try clear hk); (try clear hi); (try clear A3))); try go_wp2_with (first | (go_at_call 10; (with_reducible refine (screelaw01_awake.calls k  false _ A3.out).mono ?_); rintro e w46 ⟨rfl, hb⟩; have n0_ := Aside0.mk (below_step (by repeat (first | (with_reducible first | exact HB.out | apply below_alloc | apply pw_below_drewN | apply below_drew1) | exact HB.out)) hb); clear HB; have HB := n0_; clear n0_; (try clear hb); (try clear hb2); (try clear hk); (try clear hi); (try clear A3))))
    go_ret
    exact ⟨by first | rfl | (simp [errW_none, errW_some] <;> rfl) | (simp [*, errW_none, errW_some] <;> rfl), by repeat (first | (with_reducible first | exact HB.out | apply below_alloc | apply pw_below_drewN | apply below_drew1) | exact HB.out)⟩

/-- THE ONE PURE STATEMENT of screelaw01_NumOrder: yours. -/
def screelaw01_NumOrder.Pure : Prop := ∀ (a0 : Int) (a1 : Int), (Lit.int .u64 a0).wf = true → (Lit.int .u64 a1).wf = true → ∃ k, screelaw01_NumOrder.f k a0 a1 = some true
theorem screelaw01_NumOrder.walk (P : screelaw01_NumOrder.Pure) (a0 : Int) (a1 : Int) (w : World) (w0 : (Lit.int .u64 a0).wf = true) (w1 : (Lit.int .u64 a1).wf = true) :
    Calls Try.prog 6 #[.int .u64 a0, .int .u64 a1] w fun e w' => e = .returned (.bool true) ∧ Below w.heap.size w w' := by
  obtain ⟨k, h⟩ := P a0 a1 w0 w1
  refine (screelaw01_NumOrder.calls k a0 a1 true w h).mono ?_
  rintro e w' ⟨rfl, hd⟩
  exact ⟨rfl, hd⟩

end Go.Proofs.Ytodblgdpnjdnkaa.P
