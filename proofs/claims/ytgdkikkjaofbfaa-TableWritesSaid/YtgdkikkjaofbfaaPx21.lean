-- Printed by a program of this session's own (wip/tools/pprint.sh, over the kit's print, with given contracts): not typed by hand.
import Derived.Test.YtgdkikkjaofbfaaPx0
import Derived.Test.YtgdkikkjaofbfaaPx6
import Derived.Test.YtgdkikkjaofbfaaPx7
import Derived.Test.YtgdkikkjaofbfaaPx14
import Derived.Test.YtgdkikkjaofbfaaPx15
import Derived.Test.YtgdkikkjaofbfaaPx20
namespace Go.Proofs.Ytgdkikkjaofbfaa.P
open Go.RowKit Go.Proofs.YtgdkikkjaofbfaaW.PrintWords Go.Proofs.YtgdkikkjaofbfaaW.PrintLast Go.Proofs.YtgdkikkjaofbfaaW.PrintMore
attribute [local go_sem] max2_int min2_int max_two min_two max_three min_three max_four min_four   -- for this text's walks alone
set_option linter.unusedVariables false
set_option linter.unusedSimpArgs false
-- SQUEEZED3

/-! ### screelaw11_TableWrites: function 3 -/
def screelaw11_TableWrites.f (k : Nat) (l0 : List (S37)) : Option (Bool) := (screelaw11_awake.f k).bind fun t297 => (if t297 = true then ((screelaw11_large.f k l0).bind fun t298 => (if t298 = true then (some true) else ((some (([] : List (S37)) : List (S37))).bind fun y299 => (if y299.length + l0.length < 2932031007402 then ((some (y299 ++ l0 : List (S37))).bind fun y302 => ((table_Build.f k y302).bind fun bt305 => ((screeref11_Build.f k l0).bind fun bt307 => (if bt305.1.toList = bt307.1.toList then (if bt305.2 = bt307.2 then ((screeref07_Same.f k y302 l0).bind fun t309 => (some t309)) else (none)) else (none))))) else (none))))) else (none))
set_option maxHeartbeats 8000000 in
set_option maxRecDepth 100000 in
theorem screelaw11_TableWrites.calls (k : Nat) (A0 : Option Addr) (c0 : Nat) (l0 : List (S37)) (r : Bool) (w : World) (hr0 : Kd.C k37 w A0 l0.length l0) (hc0 : l0.length ≤ c0) (h : screelaw11_TableWrites.f k l0 = some r) :
  Calls Try.prog 3 #[.slice A0 l0.length c0] w fun e w' => e = .returned (.bool r) ∧ Below w.heap.size w w' := by
 have HR0 := Aside0.mk hr0
 have HC0 := Aside0.mk hc0
 clear hr0 hc0
 have HB := Aside0.mk (Below.refl w.heap.size w)
 have H : ((screelaw11_awake.f k).bind fun t297 => (if t297 = true then ((screelaw11_large.f k l0).bind fun t298 => (if t298 = true then (some true) else ((some (([] : List (S37)) : List (S37))).bind fun y299 => (if y299.length + l0.length < 2932031007402 then ((some (y299 ++ l0 : List (S37))).bind fun y302 => ((table_Build.f k y302).bind fun bt305 => ((screeref11_Build.f k l0).bind fun bt307 => (if bt305.1.toList = bt307.1.toList then (if bt305.2 = bt307.2 then ((screeref07_Same.f k y302 l0).bind fun t309 => (some t309)) else (none)) else (none))))) else (none))))) else (none))) = some r := h
 clear h
 replace H := Option.bind_eq_some_iff.mp H
 obtain ⟨t297, A20, H⟩ := H
 try dsimp only at H
 have A2 := Aside0.mk A20
 clear A20
 by_cases c3 : t297 = true
 rotate_left
 ·replace c3 := Bool.eq_false_iff.mpr c3
  subst c3
  rw [if_neg ff_] at H
  exact absurd H r22_
 subst c3
 rw [if_pos rfl] at H
 replace H := Option.bind_eq_some_iff.mp H
 obtain ⟨t298, A40, H⟩ := H
 try dsimp only at H
 have A4 := Aside0.mk A40
 clear A40
 by_cases c5 : t298 = true
 ·subst c5
  rw [if_pos rfl] at H
  obtain rfl := Option.some.inj H
  go_enter Try.func3, Try.ntmps3
  go_wp2_with (first | ((with_reducible refine gate_callee (f := 10) rfl ?_); refine goesL_ (some 8) rfl rfl Try.func10 r3_ rfl #[] rfl hA_ ?_; (with_reducible refine (screelaw11_awake.calls k  true _ A2.out).mono ?_); rintro e w6 ⟨rfl, hb⟩; refine ⟨_, rfl, ?_⟩; replace HB := Aside0.mk (below_step hB_ hb); clear hb A2) | ((with_reducible refine gate_callee (f := 11) rfl ?_); refine goesL_ (some 11) rfl rfl Try.func11 r3_ rfl #[.slice A0 l0.length c0] rfl hA_ ?_; (with_reducible refine (screelaw11_large.calls k _ _ l0 true _ ?side1 ?side2 A4.out).mono ?_); (case side1 => repeat (first | exact (Kd.C_below HR0.out HB.out) | (with_reducible refine Kd.C_alloc ?_ _) | (with_reducible refine Kd.C_drewN ?_ _) | (with_reducible refine Kd.C_drew ?_))); (case side2 => exact HC0.out); rintro e w' ⟨rfl, ⟨nd, rfl⟩⟩; refine ⟨_, rfl, ?_⟩))
  go_ret
  exact ⟨rf_, hB_⟩
 replace c5 := Bool.eq_false_iff.mpr c5
 subst c5
 rw [if_neg ff_] at H
 obtain ⟨y299, hy299⟩ : ∃ y_ : List (S37), y_ = (([] : List (S37))) := ⟨_, rfl⟩
 replace H : (if y299.length + l0.length < 2932031007402 then ((some (y299 ++ l0 : List (S37))).bind fun y302 => ((table_Build.f k y302).bind fun bt305 => ((screeref11_Build.f k l0).bind fun bt307 => (if bt305.1.toList = bt307.1.toList then (if bt305.2 = bt307.2 then ((screeref07_Same.f k y302 l0).bind fun t309 => (some t309)) else (none)) else (none))))) else (none)) = some r := by first | (rw [hy299]; with_reducible exact H) | (have H2_ := (Option.bind_some _ _).symm.trans H; rw [hy299]; with_reducible exact H2_) | (have H2_ := (Option.bind_some _ _).symm.trans H; with_reducible exact H2_) | with_reducible exact H | (rw [hy299]; exact H) | exact H
 have Ny299 := Aside0.mk hy299
 clear hy299
 by_cases c7 : y299.length + l0.length < 2932031007402
 rotate_left
 ·rw [if_neg c7] at H
  exact absurd H r22_
 rw [if_pos c7] at H
 have LMc7 := Aside0.mk c7
 clear c7
 obtain ⟨y302, hy302⟩ : ∃ y_ : List (S37), y_ = (y299 ++ l0) := ⟨_, rfl⟩
 replace H : ((table_Build.f k y302).bind fun bt305 => ((screeref11_Build.f k l0).bind fun bt307 => (if bt305.1.toList = bt307.1.toList then (if bt305.2 = bt307.2 then ((screeref07_Same.f k y302 l0).bind fun t309 => (some t309)) else (none)) else (none)))) = some r := by first | (rw [hy302]; with_reducible exact H) | (have H2_ := (Option.bind_some _ _).symm.trans H; rw [hy302]; with_reducible exact H2_) | (have H2_ := (Option.bind_some _ _).symm.trans H; with_reducible exact H2_) | with_reducible exact H | (rw [hy302]; exact H) | exact H
 have Ny302 := Aside0.mk hy302
 clear hy302
 replace H := Option.bind_eq_some_iff.mp H
 obtain ⟨⟨t305, t306⟩, A80, H⟩ := H
 try dsimp only at H
 have A8 := Aside0.mk A80
 clear A80
 replace H := Option.bind_eq_some_iff.mp H
 obtain ⟨⟨t307, t308⟩, A90, H⟩ := H
 try dsimp only at H
 have A9 := Aside0.mk A90
 clear A90
 by_cases c10 : t305.toList = t307.toList
 rotate_left
 ·rw [if_neg c10] at H
  exact absurd H r22_
 rw [if_pos c10] at H
 have c10b0 := beq_iff_eq.mpr c10
 have c10b1 := bne_eq_false_iff_eq.mpr c10
 clear c10
 by_cases c11 : t306 = t308
 rotate_left
 ·rw [if_neg c11] at H
  exact absurd H r22_
 rw [if_pos c11] at H
 have c11b0 := beq_iff_eq.mpr c11
 have c11b1 := bne_eq_false_iff_eq.mpr c11
 clear c11
 replace H := Option.bind_eq_some_iff.mp H
 obtain ⟨t309, A120, H⟩ := H
 try dsimp only at H
 have A12 := Aside0.mk A120
 clear A120
 obtain rfl := Option.some.inj H
 go_enter Try.func3, Try.ntmps3
 go_wp2_with (first | ((with_reducible refine gate_callee (f := 10) rfl ?_); refine goesL_ (some 8) rfl rfl Try.func10 r3_ rfl #[] rfl hA_ ?_; (with_reducible refine (screelaw11_awake.calls k  true _ A2.out).mono ?_); rintro e w13 ⟨rfl, hb⟩; refine ⟨_, rfl, ?_⟩; replace HB := Aside0.mk (below_step hB_ hb); clear hb A2) | ((with_reducible refine gate_callee (f := 11) rfl ?_); refine goesL_ (some 11) rfl rfl Try.func11 r3_ rfl #[.slice A0 l0.length c0] rfl hA_ ?_; (with_reducible refine (screelaw11_large.calls k _ _ l0 false _ ?side1 ?side2 A4.out).mono ?_); (case side1 => repeat (first | exact (Kd.C_below HR0.out HB.out) | (with_reducible refine Kd.C_alloc ?_ _) | (with_reducible refine Kd.C_drewN ?_ _) | (with_reducible refine Kd.C_drew ?_))); (case side2 => exact HC0.out); rintro e w' ⟨rfl, ⟨nd, rfl⟩⟩; refine ⟨_, rfl, ?_⟩) | ((with_reducible refine gate_dst (N := 12) rfl ?_); refine Kd.R_lit k37 _ 37 ?hg (N := 12) ?hd (xs := ([] : List (S37))) (inner := []) (ok := fun _ => True) (okp := fun _ => True) ?hr ?hp (fun _ hk => hk) trivial (Below.refl _ _) (Nat.le_refl _) r22_ ?_; (case hd => rfl); (case hg => rfl); (case hr => first | (go_simp; done) | (go_simp; rfl)); (case hp => exact (Reps.none _ _)); intro v300 w14 ho15 hb hg_ hnew_; clear hg_ hnew_; (first | rw [← Ny299.out] at ho15 | (simp only [Int.reduceToNat] at ho15; rw [← Ny299.out] at ho15)); have HO301 := Aside0.mk (Kd.R_lower ho15 (below_size hB_)); replace HB := Aside0.mk (below_step hB_ hb); clear hb ho15) | ((with_reducible refine gate_builtin (b := .append) (xs := #[.tmp 12, .tmp 13]) rfl ?_); at_builtin; refine Kd.R_append_rows k37 (w0 := w) w.heap.size rfl (.tmp 12) (.tmp 13) 22 37 (.agg #[(.string ⟨#[]⟩), (.int .u64 0), (.bool false), (.string ⟨#[]⟩)]) 48 rfl Try.underlying22 info37 rfl r24_ r21_ v300 y299 l0 _ _ _ (fun _ => True) (fun _ => False) rfl rfl ?aO ?aR (fun _ _ h => h) (fun _ h => h.elim) ?aF ?aB ?aS ?aL ?_; (case aR => repeat (first | exact (Kd.C_below HR0.out HB.out) | (with_reducible refine Kd.C_alloc ?_ _) | (with_reducible refine Kd.C_drewN ?_ _) | (with_reducible refine Kd.C_drew ?_))); (case aB => exact hB_); (case aF => exact (fun _ _ => trivial)); (case aO => exact (by (with_reducible repeat (first | apply Kd.R_alloc | apply Kd.R_drewN | apply Kd.R_drew)); exact HO301.out)); (case aS => exact (below_size hB_)); (case aL => have := LMc7.out; omega); intro v303 w16 ho hb hg hat; rw [← Ny302.out] at ho; replace HB := Aside0.mk (hb); have HO304 := Aside0.mk (ho); clear HO301; clear ho hb hg hat; obtain ⟨Ao17, co17, eo17⟩ := Kd.R_slice HO304.out; subst eo17) | ((with_reducible refine gate_callee (f := 12) rfl ?_); refine goesL_ (some 17) rfl rfl Try.func12 r3_ rfl #[.slice Ao17 y302.length co17] rfl hA_ ?_; (with_reducible refine (table_Build.calls k _ _ y302 t305 t306 _ ?side1 ?side2 A8.out).mono ?_); (case side1 => repeat (first | exact (Kd.R_reads' HO304.out).2.2 | (with_reducible refine Kd.C_alloc ?_ _) | (with_reducible refine Kd.C_drewN ?_ _) | (with_reducible refine Kd.C_drew ?_))); (case side2 => exact (Kd.R_reads' HO304.out).2.1); rintro e w18 ⟨rfl, hb⟩; refine ⟨_, rfl, ?_⟩; replace HO304 := Aside0.mk (Kd.R_below (by (with_reducible repeat (first | apply Kd.R_alloc | apply Kd.R_drewN | apply Kd.R_drew)); exact HO304.out) hb); replace HB := Aside0.mk (below_step hB_ hb); clear hb A8) | ((with_reducible refine gate_callee (f := 13) rfl ?_); refine goesL_ (some 22) rfl rfl Try.func13 r3_ rfl #[.slice A0 l0.length c0] rfl hA_ ?_; (with_reducible refine (screeref11_Build.calls k _ _ l0 t307 t308 _ ?side1 ?side2 A9.out).mono ?_); (case side1 => repeat (first | exact (Kd.C_below HR0.out HB.out) | (with_reducible refine Kd.C_alloc ?_ _) | (with_reducible refine Kd.C_drewN ?_ _) | (with_reducible refine Kd.C_drew ?_))); (case side2 => exact HC0.out); rintro e w19 ⟨rfl, hb⟩; refine ⟨_, rfl, ?_⟩; replace HO304 := Aside0.mk (Kd.R_below (by (with_reducible repeat (first | apply Kd.R_alloc | apply Kd.R_drewN | apply Kd.R_drew)); exact HO304.out) hb); replace HB := Aside0.mk (below_step hB_ hb); clear hb A9) | (go_at_call 14; (with_reducible refine (screeref07_Same.calls k _ _ y302 _ _ l0 t309 _ ?side1 ?side2 ?side3 ?side4 A12.out).mono ?_); (case side1 => repeat (first | exact (Kd.R_reads' HO304.out).2.2 | (with_reducible refine Kd.C_alloc ?_ _) | (with_reducible refine Kd.C_drewN ?_ _) | (with_reducible refine Kd.C_drew ?_))); (case side2 => exact (Kd.R_reads' HO304.out).2.1); (case side3 => repeat (first | exact (Kd.C_below HR0.out HB.out) | (with_reducible refine Kd.C_alloc ?_ _) | (with_reducible refine Kd.C_drewN ?_ _) | (with_reducible refine Kd.C_drew ?_))); (case side4 => exact HC0.out); rintro e w' ⟨rfl, ⟨nd, rfl⟩⟩))
 go_ret
 exact ⟨rf_, hB_⟩

end Go.Proofs.Ytgdkikkjaofbfaa.P
