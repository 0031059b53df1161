-- Printed by a program of this session's own (wip/tools/pprint.sh, over the kit's print, with given contracts): not typed by hand.
import Derived.Test.YtgdkikkjaofbfaaPx0
import Derived.Test.YtgdkikkjaofbfaaPx16
import Derived.Test.YtgdkikkjaofbfaaPx20
namespace Go.Proofs.Ytgdkikkjaofbfaa.P
open Go.RowKit Go.Proofs.YtgdkikkjaofbfaaW.PrintWords Go.Proofs.YtgdkikkjaofbfaaW.PrintLast Go.Proofs.YtgdkikkjaofbfaaW.PrintMore
attribute [local go_sem] max2_int min2_int max_two min_two max_three min_three max_four min_four   -- for this text's walks alone
set_option linter.unusedVariables false
set_option linter.unusedSimpArgs false
-- SQUEEZED4
-- SQUEEZED3

/-! ### qq: function 69 -/
mutual
def qq.l0 : Nat → ByteArray → ByteArray → List (S37) → ByteArray → Int → Option ((List (S37)) × Int)
 | 0, _, _, _, _, _ => none
 | k + 1, x0, x4, x5, x6, x7 => (qM.f k x0).bind fun t304 => (if x7 < t304 then ((qu.f k x4).bind fun bt307 => (if bt307.2.2 = true then (qq.j1 k x0 x5 x6 x7 bt307.1 bt307.2.1 (decide (bt307.1 > (IntKind.u64.wrap ((x6.size : Int)))))) else (qq.j1 k x0 x5 x6 x7 bt307.1 bt307.2.1 true))) else ((qg.f k x5).bind fun bt305 => (if bt305.2 = 0 then (if bt305.1.toList = x0.toList then (some (x5, 0)) else (some (([] : List (S37)), 2))) else (some (([] : List (S37)), 2)))))
def qq.j1 : Nat → ByteArray → List (S37) → ByteArray → Int → Int → ByteArray → Bool → Option ((List (S37)) × Int)
 | 0, _, _, _, _, _, _, _ => none
 | k + 1, x0, x5, x6, x7, x8, x9, x44 => if x44 = true then (some (([] : List (S37)), 2)) else ((qb1.f k x9).bind fun bt310 => (if bt310.2.2 = true then (if 0 ≤ (wrap64 (x8)) then (if (wrap64 (x8)) ≤ (x6.size : Int) then (if (x6.extract 0 ((wrap64 (x8)) : Int).toNat).size + bt310.1.size ≤ 9223372036854775807 then ((qu.f k bt310.2.1).bind fun bt313 => (if bt313.2.2 = true then (qq.j2 k x0 x5 ((x6.extract 0 ((wrap64 (x8)) : Int).toNat) ++ bt310.1) x7 bt313.1 bt313.2.1 ((bt313.2.1.size : Int) == 0)) else (qq.j2 k x0 x5 ((x6.extract 0 ((wrap64 (x8)) : Int).toNat) ++ bt310.1) x7 bt313.1 bt313.2.1 true))) else (none)) else (none)) else (none)) else (some (([] : List (S37)), 2))))
def qq.j2 : Nat → ByteArray → List (S37) → ByteArray → Int → Int → ByteArray → Bool → Option ((List (S37)) × Int)
 | 0, _, _, _, _, _, _, _ => none
 | k + 1, x0, x5, x6, x7, x14, x15, x71 => if x71 = true then (some (([] : List (S37)), 2)) else (if 1 ≤ (x15.size : Int) then ((qb1.f k (x15.extract 1 x15.size)).bind fun bt316 => (if bt316.2.2 = true then (if 0 < (x15.size : Int) then (if x5.length < 2932031007402 then (qq.l0 k x0 bt316.2.1 (x5 ++ [(⟨x6, x14, ((bt x15 0) == 1), bt316.1⟩ : S37)]) x6 (wrap64 (x7 + 1))) else (none)) else (none)) else (some (([] : List (S37)), 2)))) else (none))
end
def qq.f (k : Nat) (a0 : ByteArray) : Option ((List (S37)) × Int) := qq.l0 k a0 a0 (([] : List (S37))) (⟨#[]⟩ : ByteArray) 0
theorem qq.mono_l : ∀ k, (∀ y0 y1 y2 y3 y4, LeO (qq.l0 k y0 y1 y2 y3 y4) (qq.l0 (k + 1) y0 y1 y2 y3 y4)) ∧ (∀ y0 y1 y2 y3 y4 y5 y6, LeO (qq.j1 k y0 y1 y2 y3 y4 y5 y6) (qq.j1 (k + 1) y0 y1 y2 y3 y4 y5 y6)) ∧ (∀ y0 y1 y2 y3 y4 y5 y6, LeO (qq.j2 k y0 y1 y2 y3 y4 y5 y6) (qq.j2 (k + 1) y0 y1 y2 y3 y4 y5 y6))
 | 0 => ⟨fun _ _ _ _ _ r h => by simp [qq.l0] at h, fun _ _ _ _ _ _ _ r h => by simp [qq.j1] at h, fun _ _ _ _ _ _ _ r h => by simp [qq.j2] at h⟩
 | k + 1 => by
  obtain ⟨ih0, ih1, ih2⟩ := qq.mono_l k
  refine ⟨?_, ?_, ?_⟩
  ·intro y0 y1 y2 y3 y4
   unfold qq.l0
   repeat' first
   | (with_reducible exact ih0 _ _ _ _ _)
   | (with_reducible exact ih1 _ _ _ _ _ _ _)
   | (with_reducible exact ih2 _ _ _ _ _ _ _)
   | (with_reducible exact LeO.refl _)
   | (with_reducible exact LeO.none _)
   | (with_reducible refine LeO.ite ?_ ?_)
   | (with_reducible refine LeO.bind ?_ (fun _ => ?_))
   | exact ih0 _ _ _ _ _
   | exact ih1 _ _ _ _ _ _ _
   | exact ih2 _ _ _ _ _ _ _
   | exact qu.mono _ _
   | exact qM.mono _ _
   | exact qg.mono _ _
   | exact qb1.mono _ _
   | exact LeO.none _
   | refine LeO.ite ?_ ?_
   | refine LeO.bind ?_ (fun _ => ?_)
  ·intro y0 y1 y2 y3 y4 y5 y6
   unfold qq.j1
   repeat' first
   | (with_reducible exact ih0 _ _ _ _ _)
   | (with_reducible exact ih1 _ _ _ _ _ _ _)
   | (with_reducible exact ih2 _ _ _ _ _ _ _)
   | (with_reducible exact LeO.refl _)
   | (with_reducible exact LeO.none _)
   | (with_reducible refine LeO.ite ?_ ?_)
   | (with_reducible refine LeO.bind ?_ (fun _ => ?_))
   | exact ih0 _ _ _ _ _
   | exact ih1 _ _ _ _ _ _ _
   | exact ih2 _ _ _ _ _ _ _
   | exact qu.mono _ _
   | exact qM.mono _ _
   | exact qg.mono _ _
   | exact qb1.mono _ _
   | exact LeO.none _
   | refine LeO.ite ?_ ?_
   | refine LeO.bind ?_ (fun _ => ?_)
  ·intro y0 y1 y2 y3 y4 y5 y6
   unfold qq.j2
   repeat' first
   | (with_reducible exact ih0 _ _ _ _ _)
   | (with_reducible exact ih1 _ _ _ _ _ _ _)
   | (with_reducible exact ih2 _ _ _ _ _ _ _)
   | (with_reducible exact LeO.refl _)
   | (with_reducible exact LeO.none _)
   | (with_reducible refine LeO.ite ?_ ?_)
   | (with_reducible refine LeO.bind ?_ (fun _ => ?_))
   | exact ih0 _ _ _ _ _
   | exact ih1 _ _ _ _ _ _ _
   | exact ih2 _ _ _ _ _ _ _
   | exact qu.mono _ _
   | exact qM.mono _ _
   | exact qg.mono _ _
   | exact qb1.mono _ _
   | exact LeO.none _
   | refine LeO.ite ?_ ?_
   | refine LeO.bind ?_ (fun _ => ?_)
theorem qq.mono : ∀ a0 k, LeO (qq.f k a0) (qq.f (k + 1) a0) := by
 intro a0 k
 obtain ⟨ih0, ih1, ih2⟩ := qq.mono_l k
 unfold qq.f
 repeat' first
   | (with_reducible exact ih0 _ _ _ _ _)
   | (with_reducible exact ih1 _ _ _ _ _ _ _)
   | (with_reducible exact ih2 _ _ _ _ _ _ _)
   | (with_reducible exact LeO.refl _)
   | (with_reducible exact LeO.none _)
   | (with_reducible refine LeO.ite ?_ ?_)
   | (with_reducible refine LeO.bind ?_ (fun _ => ?_))
   | exact ih0 _ _ _ _ _
   | exact ih1 _ _ _ _ _ _ _
   | exact ih2 _ _ _ _ _ _ _
   | exact qu.mono _ _
   | exact qM.mono _ _
   | exact qg.mono _ _
   | exact qb1.mono _ _
   | exact LeO.none _
   | refine LeO.ite ?_ ?_
   | refine LeO.bind ?_ (fun _ => ?_)
set_option maxHeartbeats 8000000 in
set_option maxRecDepth 100000 in
theorem qq.calls (k : Nat) (a0 : ByteArray) (r1 : List (S37)) (r2 : Int) (w : World) (h : qq.f k a0 = some (r1, r2)) :
  Calls Try.prog 69 #[.string a0] w fun e w' => ∃ v0_ : Value, e = .returned (.tuple #[v0_, .int .i64 r2]) ∧ Kd.R k37 37 w' w.heap.size (fun _ => True) v0_ r1 ∧ Below w.heap.size w w' := by
 have hu37 := Try.underlying37
 have HB := Aside0.mk (Below.refl w.heap.size w)
 have H : (qq.l0 k a0 a0 (([] : List (S37))) (⟨#[]⟩ : ByteArray) 0) = some (r1, r2) := h
 clear h
 obtain ⟨y301, hy301⟩ : ∃ y_ : List (S37), y_ = (([] : List (S37))) := ⟨_, rfl⟩
 replace H : (qq.l0 k a0 a0 y301 (⟨#[]⟩ : ByteArray) 0) = some (r1, r2) := by first | (rw [hy301]; with_reducible exact H) | (have H2_ := (Option.bind_some _ _).symm.trans H; rw [hy301]; with_reducible exact H2_) | (have H2_ := (Option.bind_some _ _).symm.trans H; with_reducible exact H2_) | with_reducible exact H | (rw [hy301]; exact H) | exact H
 have Ny301 := Aside0.mk hy301
 clear hy301
 have H' := Aside0.mk H
 clear H
 go_enter Try.func69, Try.ntmps69
 go_wp2_with (first | ((with_reducible refine gate_dst (N := 23) rfl ?_); (try (refine gate_guard r37_ ?_; dsimp only)); refine Kd.R_lit k37 _ 37 ?hg (N := 23) ?hd (xs := ([] : List (S37))) (inner := []) (ok := fun _ => True) (okp := fun _ => True) ?hr ?hp (fun _ hk => hk) trivial (Below.refl _ _) (Nat.le_refl _) r17_ ?_; (case hd => rfl); (case hg => rfl); (case hr => first | (go_simp; done) | (go_simp; rfl)); (case hp => exact (Reps.none _ _)); intro v302 w2 ho3 hb hg_ hnew_; clear hg_ hnew_; (first | rw [← Ny301.out] at ho3 | (simp only [Int.reduceToNat] at ho3; rw [← Ny301.out] at ho3)); have HO303 := Aside0.mk (Kd.R_lower ho3 (below_size hB_)); replace HB := Aside0.mk (below_step hB_ hb); clear hb ho3))
 go_loopg [4, 5, 6, 7] k (fun kq v4 v5 v6 v7 w' => ∃ (x4_1 : ByteArray) (x5_1 : List (S37)) (x6_1 : ByteArray) (x7_1 : Int), v4 = .string x4_1 ∧ v6 = .string x6_1 ∧ v7 = .int .i64 x7_1 ∧ Aside0 (qq.l0 kq a0 x4_1 x5_1 x6_1 x7_1 = some (r1, r2)) ∧ Aside0 (kq ≤ k) ∧ Aside0 (Kd.R k37 37 w' w.heap.size (fun _ => True) v5 x5_1) ∧ Aside0 (Below w.heap.size w w'))
 case atStart => exact ⟨(a0), (y301), ((⟨#[]⟩ : ByteArray)), (0), rs_, rs_, rs_, H', ⟨Nat.le_refl _⟩, ⟨by (with_reducible repeat (first | apply Kd.R_alloc | apply Kd.R_drewN | apply Kd.R_drew)); exact HO303.out⟩, ⟨hB_⟩⟩
 case round =>
  clear H'
  obtain ⟨x4_1, x5_1, x6_1, x7_1, rfl, rfl, rfl, HA, HK1, HO_5, HB⟩ := hrel
  cases gk with
  | zero => exact absurd HA.out (by simp [qq.l0])
  | succ k1 =>
   have H := HA.out
   clear HA
   simp only [qq.l0] at H
   replace H := bs_ H
   obtain ⟨t304, A40, H⟩ := H
   try dsimp only at H
   have A4 := Aside0.mk A40
   clear A40
   by_cases c5 : x7_1 < t304
   rotate_left
   ·rw [if_neg c5] at H
    have c5b0 := decide_eq_false c5
    clear c5
    replace H := bs_ H
    obtain ⟨⟨t305, t306⟩, A330, H⟩ := H
    try dsimp only at H
    have A33 := Aside0.mk A330
    clear A330
    by_cases c34 : t306 = 0
    rotate_left
    ·rw [if_neg c34] at H
     have c34b0 := beq_eq_false_iff_ne.mpr c34
     have c34b1 := bne_iff_ne.mpr c34
     simp only [Option.some.injEq, Prod.mk.injEq] at H
     obtain ⟨rfl, rfl⟩ := H
     go_wp2_with (first | ((with_reducible refine gate_callee (f := 68) rfl ?_); refine goesL_ (some 26) rfl rfl Try.func68 r2_ rfl #[.string a0] rfl hA_ ?_; (with_reducible refine (qM.calls k1 a0 t304 _ A4.out).mono ?_); rintro e w' ⟨rfl, ⟨nd, rfl⟩⟩; refine ⟨_, rfl, ?_⟩; obtain ⟨Ao40, co40, eo40⟩ := Kd.R_slice HO_5.out; subst eo40) | ((with_reducible refine gate_callee (f := 35) rfl ?_); refine goesL_ (some 94) rfl rfl Try.func35 r2_ rfl #[.slice Ao40 x5_1.length co40] rfl hA_ ?_; (with_reducible refine (qg.calls k1 _ _ x5_1 t305 t306 _ ?side1 ?side2 A33.out).mono ?_); (case side1 => repeat (first | exact (Kd.R_reads' HO_5.out).2.2 | (with_reducible refine Kd.C_alloc ?_ _) | (with_reducible refine Kd.C_drewN ?_ _) | (with_reducible refine Kd.C_drew ?_))); (case side2 => exact (Kd.R_reads' HO_5.out).2.1); rintro e w41 ⟨rfl, hb⟩; refine ⟨_, rfl, ?_⟩; replace HO_5 := Aside0.mk (Kd.R_below r4_ hb); replace HB := Aside0.mk (below_step hB_ hb); clear hb A33))
     all_goals (try (exfalso; have y0_ := of_eq_true c14b0; have y1_ := of_eq_true c15b0; have y2_ := of_eq_true c16b0; have y3_ := of_eq_true c23b0; simp only [ByteArray.size_extract, ByteArray.size_append] at *; omega))
     go_ret2
     exact ⟨_, rf_, by first | exact Kd.R_nil _ _ _ _ _ | exact Kd.N_nil _ _ _ _ _ | exact Kd.V_nil _ _ _ _ _ | exact Kd.Q_nil _ _ _ _ _ | exact Kd.S_nil _ _ _ _ _, hB_⟩
    rw [if_pos c34] at H
    have c34b0 := beq_iff_eq.mpr c34
    have c34b1 := bne_eq_false_iff_eq.mpr c34
    clear c34
    by_cases c35 : t305.toList = a0.toList
    rotate_left
    ·rw [if_neg c35] at H
     have c35b0 := beq_eq_false_iff_ne.mpr c35
     have c35b1 := bne_iff_ne.mpr c35
     simp only [Option.some.injEq, Prod.mk.injEq] at H
     obtain ⟨rfl, rfl⟩ := H
     go_wp2_with (first | ((with_reducible refine gate_callee (f := 68) rfl ?_); refine goesL_ (some 26) rfl rfl Try.func68 r2_ rfl #[.string a0] rfl hA_ ?_; (with_reducible refine (qM.calls k1 a0 t304 _ A4.out).mono ?_); rintro e w' ⟨rfl, ⟨nd, rfl⟩⟩; refine ⟨_, rfl, ?_⟩; obtain ⟨Ao38, co38, eo38⟩ := Kd.R_slice HO_5.out; subst eo38) | ((with_reducible refine gate_callee (f := 35) rfl ?_); refine goesL_ (some 94) rfl rfl Try.func35 r2_ rfl #[.slice Ao38 x5_1.length co38] rfl hA_ ?_; (with_reducible refine (qg.calls k1 _ _ x5_1 t305 t306 _ ?side1 ?side2 A33.out).mono ?_); (case side1 => repeat (first | exact (Kd.R_reads' HO_5.out).2.2 | (with_reducible refine Kd.C_alloc ?_ _) | (with_reducible refine Kd.C_drewN ?_ _) | (with_reducible refine Kd.C_drew ?_))); (case side2 => exact (Kd.R_reads' HO_5.out).2.1); rintro e w39 ⟨rfl, hb⟩; refine ⟨_, rfl, ?_⟩; replace HO_5 := Aside0.mk (Kd.R_below r4_ hb); replace HB := Aside0.mk (below_step hB_ hb); clear hb A33))
     all_goals (try (exfalso; have y0_ := of_eq_true c14b0; have y1_ := of_eq_true c15b0; have y2_ := of_eq_true c16b0; have y3_ := of_eq_true c23b0; simp only [ByteArray.size_extract, ByteArray.size_append] at *; omega))
     go_ret2
     exact ⟨_, rf_, by first | exact Kd.R_nil _ _ _ _ _ | exact Kd.N_nil _ _ _ _ _ | exact Kd.V_nil _ _ _ _ _ | exact Kd.Q_nil _ _ _ _ _ | exact Kd.S_nil _ _ _ _ _, hB_⟩
    rw [if_pos c35] at H
    have c35b0 := beq_iff_eq.mpr c35
    have c35b1 := bne_eq_false_iff_eq.mpr c35
    clear c35
    simp only [Option.some.injEq, Prod.mk.injEq] at H
    obtain ⟨rfl, rfl⟩ := H
    go_wp2_with (first | ((with_reducible refine gate_callee (f := 68) rfl ?_); refine goesL_ (some 26) rfl rfl Try.func68 r2_ rfl #[.string a0] rfl hA_ ?_; (with_reducible refine (qM.calls k1 a0 t304 _ A4.out).mono ?_); rintro e w' ⟨rfl, ⟨nd, rfl⟩⟩; refine ⟨_, rfl, ?_⟩; obtain ⟨Ao36, co36, eo36⟩ := Kd.R_slice HO_5.out; subst eo36) | ((with_reducible refine gate_callee (f := 35) rfl ?_); refine goesL_ (some 94) rfl rfl Try.func35 r2_ rfl #[.slice Ao36 x5_1.length co36] rfl hA_ ?_; (with_reducible refine (qg.calls k1 _ _ x5_1 t305 t306 _ ?side1 ?side2 A33.out).mono ?_); (case side1 => repeat (first | exact (Kd.R_reads' HO_5.out).2.2 | (with_reducible refine Kd.C_alloc ?_ _) | (with_reducible refine Kd.C_drewN ?_ _) | (with_reducible refine Kd.C_drew ?_))); (case side2 => exact (Kd.R_reads' HO_5.out).2.1); rintro e w37 ⟨rfl, hb⟩; refine ⟨_, rfl, ?_⟩; replace HO_5 := Aside0.mk (Kd.R_below r4_ hb); replace HB := Aside0.mk (below_step hB_ hb); clear hb A33))
    all_goals (try (exfalso; have y0_ := of_eq_true c14b0; have y1_ := of_eq_true c15b0; have y2_ := of_eq_true c16b0; have y3_ := of_eq_true c23b0; simp only [ByteArray.size_extract, ByteArray.size_append] at *; omega))
    go_ret2
    exact ⟨_, rf_, r4_, hB_⟩
   rw [if_pos c5] at H
   have c5b0 := decide_eq_true c5
   clear c5
   replace H := bs_ H
   obtain ⟨⟨t307, t308, t309⟩, A60, H⟩ := H
   try dsimp only at H
   have A6 := Aside0.mk A60
   clear A60
   have HC7 := Aside0.mk H
   clear H
   go_upto_region 8 with (first | ((with_reducible refine gate_callee (f := 68) rfl ?_); refine goesL_ (some 26) rfl rfl Try.func68 r2_ rfl #[.string a0] rfl hA_ ?_; (with_reducible refine (qM.calls k1 a0 t304 _ A4.out).mono ?_); rintro e w' ⟨rfl, ⟨nd, rfl⟩⟩; refine ⟨_, rfl, ?_⟩) | ((with_reducible refine gate_callee (f := 87) rfl ?_); refine goesL_ (some 32) rfl rfl Try.func87 r2_ rfl #[.string x4_1] rfl hA_ ?_; (with_reducible refine (qu.calls k1 x4_1 t307 t308 t309 _ A6.out).mono ?_); rintro e w8 ⟨rfl, hb⟩; refine ⟨_, rfl, ?_⟩; replace HO_5 := Aside0.mk (Kd.R_below r4_ hb); replace HB := Aside0.mk (below_step hB_ hb); clear hb A6))
   (try simp only [Act.put, sp_])
   go_cut [44] (fun v44 wc => ∃ (kq : Nat) (x44_6 : Bool), v44 = .bool x44_6 ∧ Aside0 (qq.j1 kq a0 x5_1 x6_1 x7_1 t307 t308 x44_6 = some (r1, r2)) ∧ Aside0 (kq ≤ k1) ∧ Aside0 (Kd.R k37 37 wc w.heap.size (fun _ => True) u5 x5_1) ∧ Aside0 (Below w.heap.size w wc))
   case first =>
    have H := HC7.out
    clear HC7
    by_cases c9 : t309 = true
    ·subst c9
     rw [if_pos rfl] at H
     have H' := Aside0.mk H
     clear H
     go_wp2
     go_meet
     case rel => exact ⟨_, (decide (t307 > (IntKind.u64.wrap ((x6_1.size : Int))))), rs_, hH_, ⟨by have := HK1.out; first | omega | exact Nat.le_refl _⟩, ⟨r4_⟩, ⟨hB_⟩⟩
    replace c9 := Bool.eq_false_iff.mpr c9
    subst c9
    rw [if_neg ff_] at H
    have H' := Aside0.mk H
    clear H
    go_wp2
    go_meet
    case rel => exact ⟨_, (true), rs_, hH_, ⟨by have := HK1.out; first | omega | exact Nat.le_refl _⟩, ⟨r4_⟩, ⟨hB_⟩⟩
   case rest =>
    clear HC7
    try clear c5
    try clear c5b0
    obtain ⟨kq, x44_6, rfl, HA, HJ6, HO_5, HB⟩ := hcut
    cases kq with
    | zero => exact absurd HA.out (by simp [qq.j1])
    | succ kj6 =>
     have H := HA.out
     clear HA
     simp only [qq.j1] at H
     by_cases c10 : x44_6 = true
     ·subst c10
      rw [if_pos rfl] at H
      simp only [Option.some.injEq, Prod.mk.injEq] at H
      obtain ⟨rfl, rfl⟩ := H
      go_wp2
      go_ret2
      exact ⟨_, rf_, by first | exact Kd.R_nil _ _ _ _ _ | exact Kd.N_nil _ _ _ _ _ | exact Kd.V_nil _ _ _ _ _ | exact Kd.Q_nil _ _ _ _ _ | exact Kd.S_nil _ _ _ _ _, hB_⟩
     replace c10 := Bool.eq_false_iff.mpr c10
     subst c10
     rw [if_neg ff_] at H
     replace H := bs_ H
     obtain ⟨⟨t310, t311, t312⟩, A110, H⟩ := H
     try dsimp only at H
     have A11 := Aside0.mk A110
     clear A110
     by_cases c12 : t312 = true
     rotate_left
     ·replace c12 := Bool.eq_false_iff.mpr c12
      subst c12
      rw [if_neg ff_] at H
      simp only [Option.some.injEq, Prod.mk.injEq] at H
      obtain ⟨rfl, rfl⟩ := H
      go_wp2_with (first | ((with_reducible refine gate_callee (f := 88) rfl ?_); refine goesL_ (some 47) rfl rfl Try.func88 r2_ rfl #[.string t308] rfl hA_ ?_; (with_reducible refine (qb1.calls kj6 t308 t310 t311 false _ A11.out).mono ?_); rintro e w32 ⟨rfl, hb⟩; refine ⟨_, rfl, ?_⟩; replace HO_5 := Aside0.mk (Kd.R_below r4_ hb); replace HB := Aside0.mk (below_step hB_ hb); clear hb A11))
      all_goals (try (exfalso; have y0_ := of_eq_true c14b0; have y1_ := of_eq_true c15b0; have y2_ := of_eq_true c16b0; have y3_ := of_eq_true c23b0; simp only [ByteArray.size_extract, ByteArray.size_append] at *; omega))
      go_ret2
      exact ⟨_, rf_, by first | exact Kd.R_nil _ _ _ _ _ | exact Kd.N_nil _ _ _ _ _ | exact Kd.V_nil _ _ _ _ _ | exact Kd.Q_nil _ _ _ _ _ | exact Kd.S_nil _ _ _ _ _, hB_⟩
     subst c12
     rw [if_pos rfl] at H
     obtain ⟨ji13, hji13⟩ : ∃ j_ : Int, (wrap64 (t307)) = j_ := ⟨_, rfl⟩
     replace H : (if 0 ≤ (ji13) then (if (ji13) ≤ (x6_1.size : Int) then (if (x6_1.extract 0 ((ji13) : Int).toNat).size + t310.size ≤ 9223372036854775807 then ((qu.f kj6 t311).bind fun bt313 => (if bt313.2.2 = true then (qq.j2 kj6 a0 x5_1 ((x6_1.extract 0 ((ji13) : Int).toNat) ++ t310) x7_1 bt313.1 bt313.2.1 ((bt313.2.1.size : Int) == 0)) else (qq.j2 kj6 a0 x5_1 ((x6_1.extract 0 ((ji13) : Int).toNat) ++ t310) x7_1 bt313.1 bt313.2.1 true))) else (none)) else (none)) else (none)) = some (r1, r2) := by first | (rw [hji13] at H; exact H) | (simp only [hji13] at H ⊢; exact H)
     (try rw [hji13])
     (try rw [hji13] at A11)
     have hji13w : (IntKind.i64.wrap (t307)) = ji13 := (i64_w _).trans hji13
     by_cases c14 : 0 ≤ (ji13)
     rotate_left
     ·rw [if_neg c14] at H
      exact absurd H r17_
     rw [if_pos c14] at H
     have c14b0 := eq_true c14
     have c14b1 : decide (0 ≤ (ji13)) = true := decide_eq_true c14
     clear c14
     by_cases c15 : (ji13) ≤ (x6_1.size : Int)
     rotate_left
     ·rw [if_neg c15] at H
      exact absurd H r17_
     rw [if_pos c15] at H
     have c15b0 := eq_true c15
     have c15b1 : decide ((ji13) ≤ (x6_1.size : Int)) = true := decide_eq_true c15
     clear c15
     by_cases c16 : (x6_1.extract 0 ((ji13) : Int).toNat).size + t310.size ≤ 9223372036854775807
     rotate_left
     ·rw [if_neg c16] at H
      exact absurd H r17_
     rw [if_pos c16] at H
     have c16b0 := eq_true c16
     have c16b1 : decide ((x6_1.extract 0 ((ji13) : Int).toNat).size + t310.size ≤ 9223372036854775807) = true := decide_eq_true c16
     try have c16b2 : (9223372036854775807 < (x6_1.extract 0 ((ji13) : Int).toNat).size + t310.size) = False := eq_false (Nat.not_lt.2 c16)
     try (have c16b3 := c16b2; simp only [ByteArray.size_append] at c16b3)
     try (have c16b4 := c16b2; simp only [ByteArray.size_extract, ByteArray.size_append, Nat.sub_zero] at c16b4)
     replace H := bs_ H
     obtain ⟨⟨t313, t314, t315⟩, A170, H⟩ := H
     try dsimp only at H
     have A17 := Aside0.mk A170
     clear A170
     have HC18 := Aside0.mk H
     clear H
     go_upto_region 15 with (first | ((with_reducible refine gate_callee (f := 88) rfl ?_); refine goesL_ (some 47) rfl rfl Try.func88 r2_ rfl #[.string t308] rfl hA_ ?_; (with_reducible refine (qb1.calls kj6 t308 t310 t311 true _ A11.out).mono ?_); rintro e w19 ⟨rfl, hb⟩; refine ⟨_, rfl, ?_⟩; replace HO_5 := Aside0.mk (Kd.R_below r4_ hb); replace HB := Aside0.mk (below_step hB_ hb); clear hb A11) | ((with_reducible refine gate_callee (f := 87) rfl ?_); refine goesL_ (some 61) rfl rfl Try.func87 r2_ rfl #[.string t311] rfl hA_ ?_; (with_reducible refine (qu.calls kj6 t311 t313 t314 t315 _ A17.out).mono ?_); rintro e w20 ⟨rfl, hb⟩; refine ⟨_, rfl, ?_⟩; replace HO_5 := Aside0.mk (Kd.R_below r4_ hb); replace HB := Aside0.mk (below_step hB_ hb); clear hb A17))
     (try simp only [Act.put, sp_])
     go_cut [71] (fun v71 wc => ∃ (kq : Nat) (x71_17 : Bool), v71 = .bool x71_17 ∧ Aside0 (qq.j2 kq a0 x5_1 ((x6_1.extract 0 ((ji13) : Int).toNat) ++ t310) x7_1 t313 t314 x71_17 = some (r1, r2)) ∧ Aside0 (kq ≤ kj6) ∧ Aside0 (Kd.R k37 37 wc w.heap.size (fun _ => True) u5 x5_1) ∧ Aside0 (Below w.heap.size w wc))
     case first =>
      have H := HC18.out
      clear HC18
      by_cases c21 : t315 = true
      ·subst c21
       rw [if_pos rfl] at H
       have H' := Aside0.mk H
       clear H
       go_wp2
       go_meet
       case rel => exact ⟨_, (((t314.size : Int) == 0)), rs_, hH_, ⟨by have := HK1.out; have := HJ6.out; first | omega | exact Nat.le_refl _⟩, ⟨r4_⟩, ⟨hB_⟩⟩
      replace c21 := Bool.eq_false_iff.mpr c21
      subst c21
      rw [if_neg ff_] at H
      have H' := Aside0.mk H
      clear H
      go_wp2
      go_meet
      case rel => exact ⟨_, (true), rs_, hH_, ⟨by have := HK1.out; have := HJ6.out; first | omega | exact Nat.le_refl _⟩, ⟨r4_⟩, ⟨hB_⟩⟩
     case rest =>
      clear HC18
      try clear c5
      try clear c5b0
      try clear c10
      try clear c12
      try clear c14
      try clear c14b0
      try clear c14b1
      try clear c15
      try clear c15b0
      try clear c15b1
      try clear c16
      try clear c16b0
      try clear c16b1
      try clear c16b2
      obtain ⟨kq, x71_17, rfl, HA, HJ17, HO_5, HB⟩ := hcut
      cases kq with
      | zero => exact absurd HA.out (by simp [qq.j2])
      | succ kj17 =>
       have H := HA.out
       clear HA
       simp only [qq.j2] at H
       by_cases c22 : x71_17 = true
       ·subst c22
        rw [if_pos rfl] at H
        simp only [Option.some.injEq, Prod.mk.injEq] at H
        obtain ⟨rfl, rfl⟩ := H
        go_wp2
        all_goals (try (exfalso; have y0_ := of_eq_true c14b0; have y1_ := of_eq_true c15b0; have y2_ := of_eq_true c16b0; simp only [ByteArray.size_extract, ByteArray.size_append] at *; omega))
        go_ret2
        exact ⟨_, by first | rfl | (simp [errW_none, errW_some] <;> rfl) | (simp (disch := omega) only [← i64_w, IntWalk.i64_in]; rfl) | (simp only [← hji13]; first | rfl | (simp [errW_none, errW_some] <;> rfl)) | (simp [*, errW_none, errW_some] <;> rfl), by first | exact Kd.R_nil _ _ _ _ _ | exact Kd.N_nil _ _ _ _ _ | exact Kd.V_nil _ _ _ _ _ | exact Kd.Q_nil _ _ _ _ _ | exact Kd.S_nil _ _ _ _ _, hB_⟩
       replace c22 := Bool.eq_false_iff.mpr c22
       subst c22
       rw [if_neg ff_] at H
       by_cases c23 : 1 ≤ (t314.size : Int)
       rotate_left
       ·rw [if_neg c23] at H
        exact absurd H r17_
       rw [if_pos c23] at H
       have c23b0 := eq_true c23
       have c23b1 : decide (1 ≤ (t314.size : Int)) = true := decide_eq_true c23
       clear c23
       replace H := bs_ H
       obtain ⟨⟨t316, t317, t318⟩, A240, H⟩ := H
       try dsimp only at H
       have A24 := Aside0.mk A240
       clear A240
       by_cases c25 : t318 = true
       rotate_left
       ·replace c25 := Bool.eq_false_iff.mpr c25
        subst c25
        rw [if_neg ff_] at H
        simp only [Option.some.injEq, Prod.mk.injEq] at H
        obtain ⟨rfl, rfl⟩ := H
        go_wp2_with (first | ((with_reducible refine gate_callee (f := 88) rfl ?_); refine goesL_ (some 75) rfl rfl Try.func88 r2_ rfl #[.string (t314.extract 1 t314.size)] rfl hA_ ?_; (with_reducible refine (qb1.calls kj17 (t314.extract 1 t314.size) t316 t317 false _ A24.out).mono ?_); rintro e w31 ⟨rfl, hb⟩; refine ⟨_, rfl, ?_⟩; replace HO_5 := Aside0.mk (Kd.R_below r4_ hb); replace HB := Aside0.mk (below_step hB_ hb); clear hb A24))
        all_goals (try (exfalso; have y0_ := of_eq_true c14b0; have y1_ := of_eq_true c15b0; have y2_ := of_eq_true c16b0; have y3_ := of_eq_true c23b0; simp only [ByteArray.size_extract, ByteArray.size_append] at *; omega))
        go_ret2
        exact ⟨_, by first | rfl | (simp [errW_none, errW_some] <;> rfl) | (simp (disch := omega) only [← i64_w, IntWalk.i64_in]; rfl) | (simp only [← hji13]; first | rfl | (simp [errW_none, errW_some] <;> rfl)) | (simp [*, errW_none, errW_some] <;> rfl), by first | exact Kd.R_nil _ _ _ _ _ | exact Kd.N_nil _ _ _ _ _ | exact Kd.V_nil _ _ _ _ _ | exact Kd.Q_nil _ _ _ _ _ | exact Kd.S_nil _ _ _ _ _, hB_⟩
       subst c25
       rw [if_pos rfl] at H
       by_cases c26 : 0 < (t314.size : Int)
       rotate_left
       ·rw [if_neg c26] at H
        exact absurd H r17_
       rw [if_pos c26] at H
       have c26b0 := decide_eq_true c26
       have c26b1 : decide (0 < t314.size) = true := decide_eq_true r18_
       clear c26
       by_cases c28 : x5_1.length < 2932031007402
       rotate_left
       ·rw [if_neg c28] at H
        exact absurd H r17_
       rw [if_pos c28] at H
       have LMc28 := Aside0.mk c28
       clear c28
       obtain ⟨y319, hy319⟩ : ∃ y_ : List (S37), y_ = (x5_1 ++ [(⟨((x6_1.extract 0 ((ji13) : Int).toNat) ++ t310), t313, ((bt t314 0) == 1), t316⟩ : S37)]) := ⟨_, rfl⟩
       replace H : (qq.l0 kj17 a0 t317 y319 ((x6_1.extract 0 ((ji13) : Int).toNat) ++ t310) (wrap64 (x7_1 + 1))) = some (r1, r2) := by first | (rw [hy319]; with_reducible exact H) | (have H2_ := (Option.bind_some _ _).symm.trans H; rw [hy319]; with_reducible exact H2_) | (have H2_ := (Option.bind_some _ _).symm.trans H; with_reducible exact H2_) | with_reducible exact H | (rw [hy319]; exact H) | exact H
       have Ny319 := Aside0.mk hy319
       clear hy319
       have H' := Aside0.mk H
       clear H
       go_wp2_with (first | ((with_reducible refine gate_callee (f := 88) rfl ?_); refine goesL_ (some 75) rfl rfl Try.func88 r2_ rfl #[.string (t314.extract 1 t314.size)] rfl hA_ ?_; (with_reducible refine (qb1.calls kj17 (t314.extract 1 t314.size) t316 t317 true _ A24.out).mono ?_); rintro e w29 ⟨rfl, hb⟩; refine ⟨_, rfl, ?_⟩; replace HO_5 := Aside0.mk (Kd.R_below r4_ hb); replace HB := Aside0.mk (below_step hB_ hb); clear hb A24; have p27 : 0 ≤ (0 : Int) := r18_; have q27 : 0 < t314.size := (by have : (0 : Int) < (t314.size : Int) := of_decide_eq_true as_; omega); have hx27 : ∀ h : 0 < t314.size, ((t314[0]'h).toNat : Int) = bt t314 0 := bt_at t314 0; clear p27; have qi27 : (0 < (t314.size : Int)) = True := eq_true (of_decide_eq_true as_); replace q27 := eq_true q27) | ((with_reducible refine gate_builtin (b := .append) (xs := #[.tmp 81, .tmp 89]) rfl ?_); (try (refine gate_guard r37_ ?_; dsimp only)); at_builtin; refine Kd.R_append k37 (w0 := w) w.heap.size rfl (.tmp 81) (.tmp 89) 22 37 (.agg #[(.string ⟨#[]⟩), (.int .u64 0), (.bool false), (.string ⟨#[]⟩)]) 48 rfl Try.underlying22 info37 rfl r24_ r18_ u5 x5_1 (⟨((x6_1.extract 0 ((ji13) : Int).toNat) ++ t310), t313, ((bt t314 0) == 1), t316⟩ : S37) [.string ((x6_1.extract 0 ((ji13) : Int).toNat) ++ t310), .int .u64 t313, .bool ((bt t314 0) == 1), .string t316] (fun _ => True) (fun _ => False) rfl rfl ?aP (fun _ hk => hk.elim) ?aF ?aO ?aB ?aS ?aL ?_; (case aP => exact k37_mkM _ _ _ (⟨((x6_1.extract 0 ((ji13) : Int).toNat) ++ t310), t313, ((bt t314 0) == 1), t316⟩ : S37)); (case aB => exact hB_); (case aF => exact (fun _ _ => trivial)); (case aO => exact r4_); (case aS => exact (below_size hB_)); (case aL => have := LMc28.out; omega); intro v320 w30 ho hb hg hat; rw [← Ny319.out] at ho; replace HB := Aside0.mk (hb); have HO321 := Aside0.mk (ho); clear HO_5; clear ho hb hg hat))
       go_roundg kj17
       case measure => have := HK1.out; have := HJ6.out; have := HJ17.out; omega
       case rel => exact ⟨(t317), (y319), (((x6_1.extract 0 ((ji13) : Int).toNat) ++ t310)), (wrap64 (x7_1 + 1)), rs_, (by first | rfl | (simp; done) | (simp only [← hji13] <;> (first | rfl | simp)) | (simp [*]; done)), rs_, hH_, ⟨by have := HK1.out; have := HJ6.out; have := HJ17.out; omega⟩, ⟨by (with_reducible repeat (first | apply Kd.R_alloc | apply Kd.R_drewN | apply Kd.R_drew)); exact HO321.out⟩, ⟨hB_⟩⟩

/-! ### qm: function 44 -/
mutual
def qm.l0 : Nat → ByteArray → Int → List (S37) → Int → Option ((List (S37)))
 | 0, _, _, _, _ => none
 | k + 1, x0, x1, x5, x6 => if (x5.length : Int) < x1 then (if (wrap64 (x1 - (x5.length : Int))) > 8 then (qm.j1 k x0 x1 x5 x6 8) else (qm.j1 k x0 x1 x5 x6 (wrap64 (x1 - (x5.length : Int))))) else (some x5)
def qm.j1 : Nat → ByteArray → Int → List (S37) → Int → Int → Option ((List (S37)))
 | 0, _, _, _, _, _ => none
 | k + 1, x0, x1, x5, x6, x7 => qm.l1 k x0 x1 x5 x6 x7 false (wrap64 (x6 + 8))
def qm.l1 : Nat → ByteArray → Int → List (S37) → Int → Int → Bool → Int → Option ((List (S37)))
 | 0, _, _, _, _, _, _, _ => none
 | k + 1, x0, x1, x5, x6, x7, x8, x9 => if x9 ≤ (x0.size : Int) then (qm.j3 k x0 x1 x5 x6 x7 x8 x9 (!x8)) else (qm.j3 k x0 x1 x5 x6 x7 x8 x9 false)
def qm.j3 : Nat → ByteArray → Int → List (S37) → Int → Int → Bool → Int → Bool → Option ((List (S37)))
 | 0, _, _, _, _, _, _, _, _ => none
 | k + 1, x0, x1, x5, x6, x7, x8, x9, x32 => if x32 = true then (if 0 ≤ x6 then (if x6 ≤ x9 then (if x9 ≤ (x0.size : Int) then ((qM.f k (x0.extract (x6 : Int).toNat (x9 : Int).toNat)).bind fun t325 => (if t325 = x7 then ((qq.f k (x0.extract (x6 : Int).toNat (x9 : Int).toNat)).bind fun bt326 => (if bt326.2 = 0 then (if x5.length + bt326.1.length < 2932031007402 then (qm.l1 k x0 x1 (x5 ++ bt326.1) x9 x7 true (wrap64 (x9 + 1))) else (none)) else (qm.l1 k x0 x1 x5 x6 x7 x8 (wrap64 (x9 + 1))))) else (qm.l1 k x0 x1 x5 x6 x7 x8 (wrap64 (x9 + 1))))) else (none)) else (none)) else (none)) else (if x8 = true then (qm.l0 k x0 x1 x5 x6) else (some ([] : List (S37))))
end
def qm.f (k : Nat) (a0 : ByteArray) (a1 : Int) : Option ((List (S37))) := qm.l0 k a0 a1 (([] : List (S37))) 0
theorem qm.mono_l : ∀ k, (∀ y0 y1 y2 y3, LeO (qm.l0 k y0 y1 y2 y3) (qm.l0 (k + 1) y0 y1 y2 y3)) ∧ (∀ y0 y1 y2 y3 y4, LeO (qm.j1 k y0 y1 y2 y3 y4) (qm.j1 (k + 1) y0 y1 y2 y3 y4)) ∧ (∀ y0 y1 y2 y3 y4 y5 y6, LeO (qm.l1 k y0 y1 y2 y3 y4 y5 y6) (qm.l1 (k + 1) y0 y1 y2 y3 y4 y5 y6)) ∧ (∀ y0 y1 y2 y3 y4 y5 y6 y7, LeO (qm.j3 k y0 y1 y2 y3 y4 y5 y6 y7) (qm.j3 (k + 1) y0 y1 y2 y3 y4 y5 y6 y7))
 | 0 => ⟨fun _ _ _ _ r h => by simp [qm.l0] at h, fun _ _ _ _ _ r h => by simp [qm.j1] at h, fun _ _ _ _ _ _ _ r h => by simp [qm.l1] at h, fun _ _ _ _ _ _ _ _ r h => by simp [qm.j3] at h⟩
 | k + 1 => by
  obtain ⟨ih0, ih1, ih2, ih3⟩ := qm.mono_l k
  refine ⟨?_, ?_, ?_, ?_⟩
  ·intro y0 y1 y2 y3
   unfold qm.l0
   repeat' first
   | (with_reducible exact ih0 _ _ _ _)
   | (with_reducible exact ih1 _ _ _ _ _)
   | (with_reducible exact ih2 _ _ _ _ _ _ _)
   | (with_reducible exact ih3 _ _ _ _ _ _ _ _)
   | (with_reducible exact LeO.refl _)
   | (with_reducible exact LeO.none _)
   | (with_reducible refine LeO.ite ?_ ?_)
   | (with_reducible refine LeO.bind ?_ (fun _ => ?_))
   | exact ih0 _ _ _ _
   | exact ih1 _ _ _ _ _
   | exact ih2 _ _ _ _ _ _ _
   | exact ih3 _ _ _ _ _ _ _ _
   | exact qM.mono _ _
   | exact qq.mono _ _
   | exact LeO.none _
   | refine LeO.ite ?_ ?_
   | refine LeO.bind ?_ (fun _ => ?_)
  ·intro y0 y1 y2 y3 y4
   unfold qm.j1
   repeat' first
   | (with_reducible exact ih0 _ _ _ _)
   | (with_reducible exact ih1 _ _ _ _ _)
   | (with_reducible exact ih2 _ _ _ _ _ _ _)
   | (with_reducible exact ih3 _ _ _ _ _ _ _ _)
   | (with_reducible exact LeO.refl _)
   | (with_reducible exact LeO.none _)
   | (with_reducible refine LeO.ite ?_ ?_)
   | (with_reducible refine LeO.bind ?_ (fun _ => ?_))
   | exact ih0 _ _ _ _
   | exact ih1 _ _ _ _ _
   | exact ih2 _ _ _ _ _ _ _
   | exact ih3 _ _ _ _ _ _ _ _
   | exact qM.mono _ _
   | exact qq.mono _ _
   | exact LeO.none _
   | refine LeO.ite ?_ ?_
   | refine LeO.bind ?_ (fun _ => ?_)
  ·intro y0 y1 y2 y3 y4 y5 y6
   unfold qm.l1
   repeat' first
   | (with_reducible exact ih0 _ _ _ _)
   | (with_reducible exact ih1 _ _ _ _ _)
   | (with_reducible exact ih2 _ _ _ _ _ _ _)
   | (with_reducible exact ih3 _ _ _ _ _ _ _ _)
   | (with_reducible exact LeO.refl _)
   | (with_reducible exact LeO.none _)
   | (with_reducible refine LeO.ite ?_ ?_)
   | (with_reducible refine LeO.bind ?_ (fun _ => ?_))
   | exact ih0 _ _ _ _
   | exact ih1 _ _ _ _ _
   | exact ih2 _ _ _ _ _ _ _
   | exact ih3 _ _ _ _ _ _ _ _
   | exact qM.mono _ _
   | exact qq.mono _ _
   | exact LeO.none _
   | refine LeO.ite ?_ ?_
   | refine LeO.bind ?_ (fun _ => ?_)
  ·intro y0 y1 y2 y3 y4 y5 y6 y7
   unfold qm.j3
   repeat' first
   | (with_reducible exact ih0 _ _ _ _)
   | (with_reducible exact ih1 _ _ _ _ _)
   | (with_reducible exact ih2 _ _ _ _ _ _ _)
   | (with_reducible exact ih3 _ _ _ _ _ _ _ _)
   | (with_reducible exact LeO.refl _)
   | (with_reducible exact LeO.none _)
   | (with_reducible refine LeO.ite ?_ ?_)
   | (with_reducible refine LeO.bind ?_ (fun _ => ?_))
   | exact ih0 _ _ _ _
   | exact ih1 _ _ _ _ _
   | exact ih2 _ _ _ _ _ _ _
   | exact ih3 _ _ _ _ _ _ _ _
   | exact qM.mono _ _
   | exact qq.mono _ _
   | exact LeO.none _
   | refine LeO.ite ?_ ?_
   | refine LeO.bind ?_ (fun _ => ?_)
theorem qm.mono : ∀ a0 a1 k, LeO (qm.f k a0 a1) (qm.f (k + 1) a0 a1) := by
 intro a0 a1 k
 obtain ⟨ih0, ih1, ih2, ih3⟩ := qm.mono_l k
 unfold qm.f
 repeat' first
   | (with_reducible exact ih0 _ _ _ _)
   | (with_reducible exact ih1 _ _ _ _ _)
   | (with_reducible exact ih2 _ _ _ _ _ _ _)
   | (with_reducible exact ih3 _ _ _ _ _ _ _ _)
   | (with_reducible exact LeO.refl _)
   | (with_reducible exact LeO.none _)
   | (with_reducible refine LeO.ite ?_ ?_)
   | (with_reducible refine LeO.bind ?_ (fun _ => ?_))
   | exact ih0 _ _ _ _
   | exact ih1 _ _ _ _ _
   | exact ih2 _ _ _ _ _ _ _
   | exact ih3 _ _ _ _ _ _ _ _
   | exact qM.mono _ _
   | exact qq.mono _ _
   | exact LeO.none _
   | refine LeO.ite ?_ ?_
   | refine LeO.bind ?_ (fun _ => ?_)
set_option maxHeartbeats 8000000 in
set_option maxRecDepth 100000 in
theorem qm.calls (k : Nat) (a0 : ByteArray) (a1 : Int) (r : List (S37)) (w : World) (h : qm.f k a0 a1 = some r) :
  Calls Try.prog 44 #[.string a0, .int .i64 a1] w fun e w' => ∃ v0_ : Value, e = .returned (v0_) ∧ Kd.R k37 37 w' w.heap.size (fun _ => True) v0_ r ∧ Below w.heap.size w w' := by
 have HB := Aside0.mk (Below.refl w.heap.size w)
 have H : (qm.l0 k a0 a1 (([] : List (S37))) 0) = some r := h
 clear h
 obtain ⟨y322, hy322⟩ : ∃ y_ : List (S37), y_ = (([] : List (S37))) := ⟨_, rfl⟩
 replace H : (qm.l0 k a0 a1 y322 0) = some r := by first | (rw [hy322]; with_reducible exact H) | (have H2_ := (Option.bind_some _ _).symm.trans H; rw [hy322]; with_reducible exact H2_) | (have H2_ := (Option.bind_some _ _).symm.trans H; with_reducible exact H2_) | with_reducible exact H | (rw [hy322]; exact H) | exact H
 have Ny322 := Aside0.mk hy322
 clear hy322
 have H' := Aside0.mk H
 clear H
 go_enter Try.func44, Try.ntmps44
 go_wp2_with (first | ((with_reducible refine gate_dst (N := 12) rfl ?_); refine Kd.R_lit k37 _ 37 ?hg (N := 12) ?hd (xs := ([] : List (S37))) (inner := []) (ok := fun _ => True) (okp := fun _ => True) ?hr ?hp (fun _ hk => hk) trivial (Below.refl _ _) (Nat.le_refl _) r17_ ?_; (case hd => rfl); (case hg => rfl); (case hr => first | (go_simp; done) | (go_simp; rfl)); (case hp => exact (Reps.none _ _)); intro v323 w3 ho4 hb hg_ hnew_; clear hg_ hnew_; (first | rw [← Ny322.out] at ho4 | (simp only [Int.reduceToNat] at ho4; rw [← Ny322.out] at ho4)); have HO324 := Aside0.mk (Kd.R_lower ho4 (below_size hB_)); replace HB := Aside0.mk (below_step hB_ hb); clear hb ho4))
 go_loopg [5, 6] k (fun kq v5 v6 w' => ∃ (x5_1 : List (S37)) (x6_1 : Int), v6 = .int .i64 x6_1 ∧ Aside0 (qm.l0 kq a0 a1 x5_1 x6_1 = some r) ∧ Aside0 (kq ≤ k) ∧ Aside0 (Kd.R k37 37 w' w.heap.size (fun _ => True) v5 x5_1) ∧ Aside0 (Below w.heap.size w w'))
 case atStart => exact ⟨(y322), (0), rs_, H', ⟨Nat.le_refl _⟩, ⟨by (with_reducible repeat (first | apply Kd.R_alloc | apply Kd.R_drewN | apply Kd.R_drew)); exact HO324.out⟩, ⟨hB_⟩⟩
 case round =>
  clear H'
  obtain ⟨x5_1, x6_1, rfl, HA, HK1, HO_5, HB⟩ := hrel
  cases gk with
  | zero => exact absurd HA.out (by simp [qm.l0])
  | succ k1 =>
   have H := HA.out
   clear HA
   simp only [qm.l0] at H
   by_cases c5 : (x5_1.length : Int) < a1
   rotate_left
   ·rw [if_neg c5] at H
    have c5b0 := decide_eq_false c5
    clear c5
    obtain rfl := Option.some.inj H
    obtain ⟨Ao28, co28, eo28⟩ := Kd.R_slice HO_5.out
    subst eo28
    go_wp2
    go_ret
    exact ⟨_, rf_, r4_, hB_⟩
   rw [if_pos c5] at H
   have c5b0 := decide_eq_true c5
   clear c5
   have HC6 := Aside0.mk H
   clear H
   obtain ⟨Ao7, co7, eo7⟩ := Kd.R_slice HO_5.out
   subst eo7
   go_upto_if 22 with (fail)
   go_cut [7] (fun v7 wc => ∃ (kq : Nat) (x7_5 : Int), v7 = .int .i64 x7_5 ∧ Aside0 (qm.j1 kq a0 a1 x5_1 x6_1 x7_5 = some r) ∧ Aside0 (kq ≤ k1) ∧ Aside0 (Kd.R k37 37 wc w.heap.size (fun _ => True) (.slice Ao7 x5_1.length co7) x5_1) ∧ Aside0 (Below w.heap.size w wc))
   case first =>
    have H := HC6.out
    clear HC6
    by_cases c8 : (wrap64 (a1 - (x5_1.length : Int))) > 8
    ·rw [if_pos c8] at H
     have c8b0 : decide (8 < (wrap64 (a1 - (x5_1.length : Int)))) = true := decide_eq_true c8
     clear c8
     (first | rw [c8b0] | (simp only [i64_w, i32_w]; rw [c8b0]) | skip)
     have H' := Aside0.mk H
     clear H
     go_wp2
     go_meet
     case rel => exact ⟨_, (8), rs_, hH_, ⟨by have := HK1.out; first | omega | exact Nat.le_refl _⟩, ⟨r4_⟩, ⟨hB_⟩⟩
    rw [if_neg c8] at H
    have c8b0 : decide (8 < (wrap64 (a1 - (x5_1.length : Int)))) = false := decide_eq_false c8
    clear c8
    (first | rw [c8b0] | (simp only [i64_w, i32_w]; rw [c8b0]) | skip)
    have H' := Aside0.mk H
    clear H
    go_wp2
    go_meet
    case rel => exact ⟨_, (wrap64 (a1 - (x5_1.length : Int))), rs_, hH_, ⟨by have := HK1.out; first | omega | exact Nat.le_refl _⟩, ⟨r4_⟩, ⟨hB_⟩⟩
   case rest =>
    clear HC6
    try clear c5
    try clear c5b0
    obtain ⟨kq, x7_5, rfl, HA, HJ5, HO_5, HB⟩ := hcut
    cases kq with
    | zero => exact absurd HA.out (by simp [qm.j1])
    | succ kj5 =>
     have H := HA.out
     clear HA
     simp only [qm.j1] at H
     have H' := Aside0.mk H
     clear H
     go_wp2
     go_loopg [5, 6, 8, 9] kj5 (fun kq v5 v6 v8 v9 w' => ∃ (x5_3 : List (S37)) (x6_3 : Int) (x8_3 : Bool) (x9_3 : Int), v6 = .int .i64 x6_3 ∧ v8 = .bool x8_3 ∧ v9 = .int .i64 x9_3 ∧ Aside0 (qm.l1 kq a0 a1 x5_3 x6_3 x7_5 x8_3 x9_3 = some r) ∧ Aside0 (kq ≤ kj5) ∧ Aside0 (Kd.R k37 37 w' w.heap.size (fun _ => True) v5 x5_3) ∧ Aside0 (Below w.heap.size w w'))
     case atStart => exact ⟨(x5_1), (x6_1), (false), (wrap64 (x6_1 + 8)), rs_, rs_, rs_, H', ⟨Nat.le_refl _⟩, ⟨r4_⟩, ⟨hB_⟩⟩
     case round =>
      clear H'
      try clear c5
      try clear c5b0
      obtain ⟨x5_3, x6_3, x8_3, x9_3, rfl, rfl, rfl, HA, HK3, HO_5, HB⟩ := hrel
      cases gk with
      | zero => exact absurd HA.out (by simp [qm.l1])
      | succ k3 =>
       have H := HA.out
       clear HA
       simp only [qm.l1] at H
       have HC9 := Aside0.mk H
       clear H
       go_upto_region 9 with (fail)
       go_cut [32] (fun v32 wc => ∃ (kq : Nat) (x32_8 : Bool), v32 = .bool x32_8 ∧ Aside0 (qm.j3 kq a0 a1 x5_3 x6_3 x7_5 x8_3 x9_3 x32_8 = some r) ∧ Aside0 (kq ≤ k3) ∧ Aside0 (Kd.R k37 37 wc w.heap.size (fun _ => True) u5 x5_3) ∧ Aside0 (Below w.heap.size w wc))
       case first =>
        have H := HC9.out
        clear HC9
        by_cases c10 : x9_3 ≤ (a0.size : Int)
        ·rw [if_pos c10] at H
         have c10b0 := decide_eq_true c10
         clear c10
         (first | rw [c10b0] | (simp only [i64_w, i32_w]; rw [c10b0]) | skip)
         have H' := Aside0.mk H
         clear H
         go_wp2
         go_meet
         case rel => exact ⟨_, (!x8_3), rs_, hH_, ⟨by have := HK1.out; have := HJ5.out; have := HK3.out; first | omega | exact Nat.le_refl _⟩, ⟨r4_⟩, ⟨hB_⟩⟩
        rw [if_neg c10] at H
        have c10b0 := decide_eq_false c10
        clear c10
        (first | rw [c10b0] | (simp only [i64_w, i32_w]; rw [c10b0]) | skip)
        have H' := Aside0.mk H
        clear H
        go_wp2
        go_meet
        case rel => exact ⟨_, (false), rs_, hH_, ⟨by have := HK1.out; have := HJ5.out; have := HK3.out; first | omega | exact Nat.le_refl _⟩, ⟨r4_⟩, ⟨hB_⟩⟩
       case rest =>
        clear HC9
        try clear c5
        try clear c5b0
        obtain ⟨kq, x32_8, rfl, HA, HJ8, HO_5, HB⟩ := hcut
        cases kq with
        | zero => exact absurd HA.out (by simp [qm.j3])
        | succ kj8 =>
         have H := HA.out
         clear HA
         simp only [qm.j3] at H
         by_cases c11 : x32_8 = true
         rotate_left
         ·replace c11 := Bool.eq_false_iff.mpr c11
          subst c11
          rw [if_neg ff_] at H
          by_cases c27 : x8_3 = true
          rotate_left
          ·replace c27 := Bool.eq_false_iff.mpr c27
           subst c27
           rw [if_neg ff_] at H
           obtain rfl := Option.some.inj H
           go_wp2
           go_ret
           exact ⟨_, rf_, by first | exact Kd.R_nil _ _ _ _ _ | exact Kd.N_nil _ _ _ _ _ | exact Kd.V_nil _ _ _ _ _ | exact Kd.Q_nil _ _ _ _ _ | exact Kd.S_nil _ _ _ _ _, hB_⟩
          subst c27
          rw [if_pos rfl] at H
          have H' := Aside0.mk H
          clear H
          go_wp2
          go_roundg kj8
          case measure => have := HK1.out; have := HJ5.out; have := HK3.out; have := HJ8.out; omega
          case rel => exact ⟨(x5_3), (x6_3), rs_, hH_, ⟨by have := HK1.out; have := HJ5.out; have := HK3.out; have := HJ8.out; omega⟩, ⟨r4_⟩, ⟨hB_⟩⟩
         subst c11
         rw [if_pos rfl] at H
         by_cases c12 : 0 ≤ x6_3
         rotate_left
         ·rw [if_neg c12] at H
          exact absurd H r17_
         rw [if_pos c12] at H
         have c12b0 := eq_true c12
         have c12b1 : decide (0 ≤ x6_3) = true := decide_eq_true c12
         clear c12
         by_cases c13 : x6_3 ≤ x9_3
         rotate_left
         ·rw [if_neg c13] at H
          exact absurd H r17_
         rw [if_pos c13] at H
         have c13b0 := eq_true c13
         have c13b1 : decide (x6_3 ≤ x9_3) = true := decide_eq_true c13
         clear c13
         by_cases c14 : x9_3 ≤ (a0.size : Int)
         rotate_left
         ·rw [if_neg c14] at H
          exact absurd H r17_
         rw [if_pos c14] at H
         have c14b0 := eq_true c14
         have c14b1 : decide (x9_3 ≤ (a0.size : Int)) = true := decide_eq_true c14
         clear c14
         replace H := bs_ H
         obtain ⟨t325, A150, H⟩ := H
         try dsimp only at H
         have A15 := Aside0.mk A150
         clear A150
         by_cases c16 : t325 = x7_5
         rotate_left
         ·rw [if_neg c16] at H
          have c16b0 := beq_eq_false_iff_ne.mpr c16
          have c16b1 := bne_iff_ne.mpr c16
          have H' := Aside0.mk H
          clear H
          go_wp2_with (first | ((with_reducible refine gate_callee (f := 68) rfl ?_); refine goesL_ (some 39) rfl rfl Try.func68 r2_ rfl #[.string (a0.extract (x6_3 : Int).toNat (x9_3 : Int).toNat)] rfl hA_ ?_; (with_reducible refine (qM.calls kj8 (a0.extract (x6_3 : Int).toNat (x9_3 : Int).toNat) t325 _ A15.out).mono ?_); rintro e w' ⟨rfl, ⟨nd, rfl⟩⟩; refine ⟨_, rfl, ?_⟩))
          go_roundg kj8
          case measure => have := HK1.out; have := HJ5.out; have := HK3.out; have := HJ8.out; omega
          case rel => exact ⟨(x5_3), (x6_3), (x8_3), (wrap64 (x9_3 + 1)), rs_, rs_, rs_, hH_, ⟨by have := HK1.out; have := HJ5.out; have := HK3.out; have := HJ8.out; omega⟩, ⟨r4_⟩, ⟨hB_⟩⟩
         rw [if_pos c16] at H
         have c16b0 := beq_iff_eq.mpr c16
         have c16b1 := bne_eq_false_iff_eq.mpr c16
         clear c16
         have c17b0 := eq_true (of_decide_eq_true as_ : 0 ≤ x6_3)
         have c18b0 := eq_true (of_decide_eq_true as_ : x6_3 ≤ x9_3)
         have c19b0 := eq_true (of_decide_eq_true as_ : x9_3 ≤ (a0.size : Int))
         replace H := bs_ H
         obtain ⟨⟨t326, t327⟩, A200, H⟩ := H
         try dsimp only at H
         have A20 := Aside0.mk A200
         clear A200
         by_cases c21 : t327 = 0
         rotate_left
         ·rw [if_neg c21] at H
          have c21b0 := beq_eq_false_iff_ne.mpr c21
          have c21b1 := bne_iff_ne.mpr c21
          have H' := Aside0.mk H
          clear H
          go_wp2_with (first | ((with_reducible refine gate_callee (f := 68) rfl ?_); refine goesL_ (some 39) rfl rfl Try.func68 r2_ rfl #[.string (a0.extract (x6_3 : Int).toNat (x9_3 : Int).toNat)] rfl hA_ ?_; (with_reducible refine (qM.calls kj8 (a0.extract (x6_3 : Int).toNat (x9_3 : Int).toNat) t325 _ A15.out).mono ?_); rintro e w' ⟨rfl, ⟨nd, rfl⟩⟩; refine ⟨_, rfl, ?_⟩) | ((with_reducible refine gate_callee (f := 69) rfl ?_); refine goesL_ (some 47) rfl rfl Try.func69 r2_ rfl #[.string (a0.extract (x6_3 : Int).toNat (x9_3 : Int).toNat)] rfl hA_ ?_; (with_reducible refine (qq.calls kj8 (a0.extract (x6_3 : Int).toNat (x9_3 : Int).toNat) t326 t327 _ A20.out).mono ?_); rintro e w26 ⟨v328, rfl, ho0, hb⟩; refine ⟨_, rfl, ?_⟩; have HO329 := Aside0.mk (Kd.R_lower (Kd.R_new' ho0 (Kd.R_lt r4_)) (below_size hB_)); replace HO_5 := Aside0.mk (Kd.R_elder' r4_ (Kd.R_base ho0) hb); replace HB := Aside0.mk (below_step hB_ hb); clear hb ho0 A20))
          go_roundg kj8
          case measure => have := HK1.out; have := HJ5.out; have := HK3.out; have := HJ8.out; omega
          case rel => exact ⟨(x5_3), (x6_3), (x8_3), (wrap64 (x9_3 + 1)), rs_, rs_, rs_, hH_, ⟨by have := HK1.out; have := HJ5.out; have := HK3.out; have := HJ8.out; omega⟩, ⟨by (with_reducible repeat (first | apply Kd.R_alloc | apply Kd.R_drewN | apply Kd.R_drew)); exact Kd.R_mono HO_5.out (fun _ hk => trivial)⟩, ⟨hB_⟩⟩
         rw [if_pos c21] at H
         have c21b0 := beq_iff_eq.mpr c21
         have c21b1 := bne_eq_false_iff_eq.mpr c21
         clear c21
         by_cases c22 : x5_3.length + t326.length < 2932031007402
         rotate_left
         ·rw [if_neg c22] at H
          exact absurd H r17_
         rw [if_pos c22] at H
         have LMc22 := Aside0.mk c22
         clear c22
         obtain ⟨y330, hy330⟩ : ∃ y_ : List (S37), y_ = (x5_3 ++ t326) := ⟨_, rfl⟩
         replace H : (qm.l1 kj8 a0 a1 y330 x9_3 x7_5 true (wrap64 (x9_3 + 1))) = some r := by first | (rw [hy330]; with_reducible exact H) | (have H2_ := (Option.bind_some _ _).symm.trans H; rw [hy330]; with_reducible exact H2_) | (have H2_ := (Option.bind_some _ _).symm.trans H; with_reducible exact H2_) | with_reducible exact H | (rw [hy330]; exact H) | exact H
         have Ny330 := Aside0.mk hy330
         clear hy330
         have H' := Aside0.mk H
         clear H
         go_wp2_with (first | ((with_reducible refine gate_callee (f := 68) rfl ?_); refine goesL_ (some 39) rfl rfl Try.func68 r2_ rfl #[.string (a0.extract (x6_3 : Int).toNat (x9_3 : Int).toNat)] rfl hA_ ?_; (with_reducible refine (qM.calls kj8 (a0.extract (x6_3 : Int).toNat (x9_3 : Int).toNat) t325 _ A15.out).mono ?_); rintro e w' ⟨rfl, ⟨nd, rfl⟩⟩; refine ⟨_, rfl, ?_⟩) | ((with_reducible refine gate_callee (f := 69) rfl ?_); refine goesL_ (some 47) rfl rfl Try.func69 r2_ rfl #[.string (a0.extract (x6_3 : Int).toNat (x9_3 : Int).toNat)] rfl hA_ ?_; (with_reducible refine (qq.calls kj8 (a0.extract (x6_3 : Int).toNat (x9_3 : Int).toNat) t326 t327 _ A20.out).mono ?_); rintro e w23 ⟨v328, rfl, ho0, hb⟩; refine ⟨_, rfl, ?_⟩; have HO329 := Aside0.mk (Kd.R_lower (Kd.R_new' ho0 (Kd.R_lt r4_)) (below_size hB_)); replace HO_5 := Aside0.mk (Kd.R_elder' r4_ (Kd.R_base ho0) hb); replace HB := Aside0.mk (below_step hB_ hb); clear hb ho0 A20; obtain ⟨Ao25, co25, eo25⟩ := Kd.R_slice HO329.out; subst eo25) | ((with_reducible refine gate_builtin (b := .append) (xs := #[.tmp 52, .tmp 53]) rfl ?_); at_builtin; refine Kd.R_append_rows k37 (w0 := w) w.heap.size rfl (.tmp 52) (.tmp 53) 22 37 (.agg #[(.string ⟨#[]⟩), (.int .u64 0), (.bool false), (.string ⟨#[]⟩)]) 48 rfl Try.underlying22 info37 rfl r24_ r18_ u5 x5_3 t326 _ _ _ (fun k_ => some k_ ≠ (.slice Ao25 t326.length co25 : Value).ownBlock) (fun _ => False) rfl rfl ?aO ?aR (fun _ _ h => h) (fun _ h => h.elim) ?aF ?aB ?aS ?aL ?_; (case aR => repeat (first | exact (Kd.R_reads' HO329.out).2.2 | (with_reducible refine Kd.C_alloc ?_ _) | (with_reducible refine Kd.C_drewN ?_ _) | (with_reducible refine Kd.C_drew ?_))); (case aB => exact hB_); (case aF => exact (fun k_ hk => Kd.fresh' (Kd.R_lt (by (with_reducible repeat (first | apply Kd.R_alloc | apply Kd.R_drewN | apply Kd.R_drew)); exact HO329.out)) k_ hk)); (case aO => exact (by (with_reducible repeat (first | apply Kd.R_alloc | apply Kd.R_drewN | apply Kd.R_drew)); exact Kd.R_mono HO_5.out (fun _ hk => hk.2))); (case aS => exact (below_size hB_)); (case aL => have := LMc22.out; omega); intro v331 w24 ho hb hg hat; rw [← Ny330.out] at ho; replace HO329 := Aside0.mk (Kd.R_after (ok := (fun _ => True)) (by (with_reducible repeat (first | apply Kd.R_alloc | apply Kd.R_drewN | apply Kd.R_drew)); exact HO329.out) hg hat); replace HB := Aside0.mk (hb); have HO332 := Aside0.mk (ho); clear HO_5; clear ho hb hg hat))
         go_roundg kj8
         case measure => have := HK1.out; have := HJ5.out; have := HK3.out; have := HJ8.out; omega
         case rel => exact ⟨(y330), (x9_3), (true), (wrap64 (x9_3 + 1)), rs_, rs_, rs_, hH_, ⟨by have := HK1.out; have := HJ5.out; have := HK3.out; have := HJ8.out; omega⟩, ⟨by (with_reducible repeat (first | apply Kd.R_alloc | apply Kd.R_drewN | apply Kd.R_drew)); exact Kd.R_mono HO332.out (fun _ hk => trivial)⟩, ⟨hB_⟩⟩

end Go.Proofs.Ytgdkikkjaofbfaa.P
