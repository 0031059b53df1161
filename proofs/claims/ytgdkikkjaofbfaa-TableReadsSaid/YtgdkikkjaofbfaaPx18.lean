-- Printed by a program of this session's own (wip/tools/pprint.sh, over the kit's print, with given contracts): not typed by hand.
import Derived.Test.YtgdkikkjaofbfaaPx0
import Derived.Test.YtgdkikkjaofbfaaPx17
namespace Go.Proofs.Ytgdkikkjaofbfaa.P
open Go.RowKit Go.Proofs.YtgdkikkjaofbfaaW.PrintWords Go.Proofs.YtgdkikkjaofbfaaW.PrintLast Go.Proofs.YtgdkikkjaofbfaaW.PrintMore
attribute [local go_sem] max2_int min2_int max_two min_two max_three min_three max_four min_four   -- for this text's walks alone
set_option linter.unusedVariables false
set_option linter.unusedSimpArgs false
-- SQUEEZED4
-- SQUEEZED3

/-! ### ql: function 38 -/
mutual
def ql.l0 : Nat → List ByteArray → Int → List Bool → Int → Option (ByteArray × Int)
 | 0, _, _, _, _ => none
 | k + 1, x0, x4, x5, x6 => if x6 < (x0.length : Int) then (if 0 ≤ x6 then ((qo.f k (rdOf ByteArray.empty x0 x6) (wrap64 (8 * x4))).bind fun t247 => (ql.l1 k x0 x4 x5 x6 t247 0)) else (none)) else (if 0 ≤ x4 then (if (x4 : Int).toNat ≤ 281474976710656 then (ql.l2 k x4 x5 (List.replicate (x4 : Int).toNat 0) 0) else (none)) else (none))
def ql.l1 : Nat → List ByteArray → Int → List Bool → Int → List Int → Int → Option (ByteArray × Int)
 | 0, _, _, _, _, _, _ => none
 | k + 1, x0, x4, x5, x6, x7, x8 => if x8 < (x7.length : Int) then (if 0 ≤ x8 then (if 0 ≤ (rd x7 x8) then (if (rd x7 x8) < (x5.length : Int) then (ql.l1 k x0 x4 (x5.set ((rd x7 x8) : Int).toNat true) x6 x7 (wrap64 (x8 + 1))) else (none)) else (none)) else (none)) else (ql.l0 k x0 x4 x5 (wrap64 (x6 + 1)))
def ql.l2 : Nat → Int → List Bool → List Int → Int → Option (ByteArray × Int)
 | 0, _, _, _, _ => none
 | k + 1, x4, x5, x9, x10 => if x10 < x4 then (ql.l3 k x4 x5 x9 x10 7) else (some (strOfNums x9, 0))
def ql.l3 : Nat → Int → List Bool → List Int → Int → Int → Option (ByteArray × Int)
 | 0, _, _, _, _, _ => none
 | k + 1, x4, x5, x9, x10, x11 => if x11 ≥ 0 then (if 0 ≤ x10 then (if x10 < (x9.length : Int) then ((some (x9.set (x10 : Int).toNat (((rd x9 x10) * 2) % 256) : List Int)).bind fun y256 => (if 0 ≤ (wrap64 ((wrap64 (8 * x10)) + x11)) then (if (wrap64 ((wrap64 (8 * x10)) + x11)) < (x5.length : Int) then (if rdOf false x5 (wrap64 ((wrap64 (8 * x10)) + x11)) = true then (ql.l3 k x4 x5 (y256.set (x10 : Int).toNat (((rd y256 x10) + 1) % 256)) x10 (wrap64 (x11 - 1))) else (ql.l3 k x4 x5 y256 x10 (wrap64 (x11 - 1)))) else (none)) else (none))) else (none)) else (none)) else (ql.l2 k x4 x5 x9 (wrap64 (x10 + 1)))
end
def ql.f (k : Nat) (l0 : List ByteArray) : Option (ByteArray × Int) := if (l0.length : Int) > 1000 then (some ((⟨#[]⟩ : ByteArray), 4)) else (if 0 ≤ (wrap64 (8 * (wrap64 ((l0.length : Int) + 1)))) then (if (wrap64 (8 * (wrap64 ((l0.length : Int) + 1))) : Int).toNat ≤ 281474976710656 then (ql.l0 k l0 (wrap64 ((l0.length : Int) + 1)) (List.replicate (wrap64 (8 * (wrap64 ((l0.length : Int) + 1))) : Int).toNat false) 0) else (none)) else (none))
theorem ql.mono_l : ∀ k, (∀ y0 y1 y2 y3, LeO (ql.l0 k y0 y1 y2 y3) (ql.l0 (k + 1) y0 y1 y2 y3)) ∧ (∀ y0 y1 y2 y3 y4 y5, LeO (ql.l1 k y0 y1 y2 y3 y4 y5) (ql.l1 (k + 1) y0 y1 y2 y3 y4 y5)) ∧ (∀ y0 y1 y2 y3, LeO (ql.l2 k y0 y1 y2 y3) (ql.l2 (k + 1) y0 y1 y2 y3)) ∧ (∀ y0 y1 y2 y3 y4, LeO (ql.l3 k y0 y1 y2 y3 y4) (ql.l3 (k + 1) y0 y1 y2 y3 y4))
 | 0 => ⟨fun _ _ _ _ r h => by simp [ql.l0] at h, fun _ _ _ _ _ _ r h => by simp [ql.l1] at h, fun _ _ _ _ r h => by simp [ql.l2] at h, fun _ _ _ _ _ r h => by simp [ql.l3] at h⟩
 | k + 1 => by
  obtain ⟨ih0, ih1, ih2, ih3⟩ := ql.mono_l k
  refine ⟨?_, ?_, ?_, ?_⟩
  ·intro y0 y1 y2 y3
   unfold ql.l0
   repeat' first
   | (with_reducible exact ih0 _ _ _ _)
   | (with_reducible exact ih1 _ _ _ _ _ _)
   | (with_reducible exact ih2 _ _ _ _)
   | (with_reducible exact ih3 _ _ _ _ _)
   | (with_reducible exact LeO.refl _)
   | (with_reducible exact LeO.none _)
   | (with_reducible refine LeO.ite ?_ ?_)
   | (with_reducible refine LeO.bind ?_ (fun _ => ?_))
   | exact ih0 _ _ _ _
   | exact ih1 _ _ _ _ _ _
   | exact ih2 _ _ _ _
   | exact ih3 _ _ _ _ _
   | exact qo.mono _ _ _
   | exact LeO.none _
   | refine LeO.ite ?_ ?_
   | refine LeO.bind ?_ (fun _ => ?_)
  ·intro y0 y1 y2 y3 y4 y5
   unfold ql.l1
   repeat' first
   | (with_reducible exact ih0 _ _ _ _)
   | (with_reducible exact ih1 _ _ _ _ _ _)
   | (with_reducible exact ih2 _ _ _ _)
   | (with_reducible exact ih3 _ _ _ _ _)
   | (with_reducible exact LeO.refl _)
   | (with_reducible exact LeO.none _)
   | (with_reducible refine LeO.ite ?_ ?_)
   | (with_reducible refine LeO.bind ?_ (fun _ => ?_))
   | exact ih0 _ _ _ _
   | exact ih1 _ _ _ _ _ _
   | exact ih2 _ _ _ _
   | exact ih3 _ _ _ _ _
   | exact qo.mono _ _ _
   | exact LeO.none _
   | refine LeO.ite ?_ ?_
   | refine LeO.bind ?_ (fun _ => ?_)
  ·intro y0 y1 y2 y3
   unfold ql.l2
   repeat' first
   | (with_reducible exact ih0 _ _ _ _)
   | (with_reducible exact ih1 _ _ _ _ _ _)
   | (with_reducible exact ih2 _ _ _ _)
   | (with_reducible exact ih3 _ _ _ _ _)
   | (with_reducible exact LeO.refl _)
   | (with_reducible exact LeO.none _)
   | (with_reducible refine LeO.ite ?_ ?_)
   | (with_reducible refine LeO.bind ?_ (fun _ => ?_))
   | exact ih0 _ _ _ _
   | exact ih1 _ _ _ _ _ _
   | exact ih2 _ _ _ _
   | exact ih3 _ _ _ _ _
   | exact qo.mono _ _ _
   | exact LeO.none _
   | refine LeO.ite ?_ ?_
   | refine LeO.bind ?_ (fun _ => ?_)
  ·intro y0 y1 y2 y3 y4
   unfold ql.l3
   repeat' first
   | (with_reducible exact ih0 _ _ _ _)
   | (with_reducible exact ih1 _ _ _ _ _ _)
   | (with_reducible exact ih2 _ _ _ _)
   | (with_reducible exact ih3 _ _ _ _ _)
   | (with_reducible exact LeO.refl _)
   | (with_reducible exact LeO.none _)
   | (with_reducible refine LeO.ite ?_ ?_)
   | (with_reducible refine LeO.bind ?_ (fun _ => ?_))
   | exact ih0 _ _ _ _
   | exact ih1 _ _ _ _ _ _
   | exact ih2 _ _ _ _
   | exact ih3 _ _ _ _ _
   | exact qo.mono _ _ _
   | exact LeO.none _
   | refine LeO.ite ?_ ?_
   | refine LeO.bind ?_ (fun _ => ?_)
theorem ql.mono : ∀ a0 k, LeO (ql.f k a0) (ql.f (k + 1) a0) := by
 intro a0 k
 obtain ⟨ih0, ih1, ih2, ih3⟩ := ql.mono_l k
 unfold ql.f
 repeat' first
   | (with_reducible exact ih0 _ _ _ _)
   | (with_reducible exact ih1 _ _ _ _ _ _)
   | (with_reducible exact ih2 _ _ _ _)
   | (with_reducible exact ih3 _ _ _ _ _)
   | (with_reducible exact LeO.refl _)
   | (with_reducible exact LeO.none _)
   | (with_reducible refine LeO.ite ?_ ?_)
   | (with_reducible refine LeO.bind ?_ (fun _ => ?_))
   | exact ih0 _ _ _ _
   | exact ih1 _ _ _ _ _ _
   | exact ih2 _ _ _ _
   | exact ih3 _ _ _ _ _
   | exact qo.mono _ _ _
   | exact LeO.none _
   | refine LeO.ite ?_ ?_
   | refine LeO.bind ?_ (fun _ => ?_)
set_option maxHeartbeats 8000000 in
set_option maxRecDepth 100000 in
theorem ql.calls (k : Nat) (A0 : Option Addr) (c0 : Nat) (l0 : List ByteArray) (r1 : ByteArray) (r2 : Int) (w : World) (hr0 : Kd.C Kd.string w A0 l0.length l0) (hc0 : l0.length ≤ c0) (h : ql.f k l0 = some (r1, r2)) :
  Calls Try.prog 38 #[.slice A0 l0.length c0] w fun e w' => e = .returned (.tuple #[.string r1, .int .i64 r2]) ∧ Below w.heap.size w w' := by
 have HR0 := Aside0.mk hr0
 have HC0 := Aside0.mk hc0
 clear hr0 hc0
 have HB := Aside0.mk (Below.refl w.heap.size w)
 have H : (if (l0.length : Int) > 1000 then (some ((⟨#[]⟩ : ByteArray), 4)) else (if 0 ≤ (wrap64 (8 * (wrap64 ((l0.length : Int) + 1)))) then (if (wrap64 (8 * (wrap64 ((l0.length : Int) + 1))) : Int).toNat ≤ 281474976710656 then (ql.l0 k l0 (wrap64 ((l0.length : Int) + 1)) (List.replicate (wrap64 (8 * (wrap64 ((l0.length : Int) + 1))) : Int).toNat false) 0) else (none)) else (none))) = some (r1, r2) := h
 clear h
 by_cases c2 : (l0.length : Int) > 1000
 ·rw [if_pos c2] at H
  have c2b0 : decide (1000 < (l0.length : Int)) = true := decide_eq_true c2
  have c2b1 : decide (1000 < l0.length) = true := decide_eq_true r18_
  clear c2
  simp only [Option.some.injEq, Prod.mk.injEq] at H
  obtain ⟨rfl, rfl⟩ := H
  go_enter Try.func38, Try.ntmps38
  go_wp2
  go_ret2
  exact ⟨rf_, hB_⟩
 rw [if_neg c2] at H
 have c2b0 : decide (1000 < (l0.length : Int)) = false := decide_eq_false c2
 have c2b1 : decide (1000 < l0.length) = false := decide_eq_false r18_
 clear c2
 obtain ⟨ji3, hji3⟩ : ∃ j_ : Int, (wrap64 (8 * (wrap64 ((l0.length : Int) + 1)))) = j_ := ⟨_, rfl⟩
 replace H : (if 0 ≤ (ji3) then (if (ji3 : Int).toNat ≤ 281474976710656 then (ql.l0 k l0 (wrap64 ((l0.length : Int) + 1)) (List.replicate (ji3 : Int).toNat false) 0) else (none)) else (none)) = some (r1, r2) := by first | (rw [hji3] at H; exact H) | (simp only [hji3] at H ⊢; exact H)
 (try rw [hji3])
 have hji3w : (IntKind.i64.wrap (8 * (wrap64 ((l0.length : Int) + 1)))) = ji3 := (i64_w _).trans hji3
 by_cases c4 : 0 ≤ (ji3)
 rotate_left
 ·rw [if_neg c4] at H
  exact absurd H r17_
 rw [if_pos c4] at H
 have c4b0 := eq_true c4
 have c4b1 : decide (0 ≤ (ji3)) = true := decide_eq_true c4
 clear c4
 by_cases c5 : (ji3 : Int).toNat ≤ 281474976710656
 rotate_left
 ·rw [if_neg c5] at H
  exact absurd H r17_
 rw [if_pos c5] at H
 have c5b0 := eq_true c5
 have c5b1 : decide ((ji3 : Int).toNat ≤ 281474976710656) = true := decide_eq_true c5
 clear c5
 obtain ⟨y243, hy243⟩ : ∃ y_ : List Bool, y_ = (List.replicate (ji3 : Int).toNat false) := ⟨_, rfl⟩
 replace H : (ql.l0 k l0 (wrap64 ((l0.length : Int) + 1)) y243 0) = some (r1, r2) := by first | (rw [hy243]; with_reducible exact H) | (have H2_ := (Option.bind_some _ _).symm.trans H; rw [hy243]; with_reducible exact H2_) | (have H2_ := (Option.bind_some _ _).symm.trans H; with_reducible exact H2_) | with_reducible exact H | (rw [hy243]; exact H) | exact H
 have Ny243 := Aside0.mk hy243
 clear hy243
 have H' := Aside0.mk H
 clear H
 go_enter Try.func38, Try.ntmps38
 go_wp2_with (first | ((with_reducible refine gate_dst (N := 20) rfl ?_); refine Kd.R_make Kd.bool _ 4 rfl (N := 20) rfl 100 _ _ rfl ji3 rfl rfl Try.underlying100 (.bool false) 1 info4 rfl r24_ r18_ false (ok := fun _ => True) (okp := fun _ => True) rfl (fun _ hk => hk) trivial (of_decide_eq_true as_) (Nat.le_trans (Nat.mul_le_mul_right _ (of_decide_eq_true as_ : ji3.toNat ≤ 281474976710656)) r18_) (Below.refl _ _) (Nat.le_refl _) ?_; intro v244 w6 ho7 hb hg_ hnew_; clear hg_ hnew_; (first | rw [← Ny243.out] at ho7 | (simp only [Int.reduceToNat] at ho7; rw [← Ny243.out] at ho7)); have HO245 := Aside0.mk (Kd.R_lower ho7 (below_size hB_)); replace HB := Aside0.mk (below_step hB_ hb); clear hb ho7))
 go_loopg [6] k (fun kq v6 w' => ∃ (x5_1 : List Bool) (x6_1 : Int), v6 = .int .i64 x6_1 ∧ Aside0 (ql.l0 kq l0 (wrap64 ((l0.length : Int) + 1)) x5_1 x6_1 = some (r1, r2)) ∧ Aside0 (kq ≤ k) ∧ Aside0 (Kd.R Kd.bool 4 w' w.heap.size (fun _ => True) v244 x5_1) ∧ Aside0 (Below w.heap.size w w'))
 case atStart => exact ⟨(y243), (0), rs_, H', ⟨Nat.le_refl _⟩, ⟨by (with_reducible repeat (first | apply Kd.R_alloc | apply Kd.R_drewN | apply Kd.R_drew)); exact HO245.out⟩, ⟨hB_⟩⟩
 case round =>
  clear H'
  try clear c2
  try clear c2b0
  try clear c2b1
  try clear c4
  try clear c4b0
  try clear c4b1
  try clear c5
  try clear c5b0
  try clear c5b1
  obtain ⟨x5_1, x6_1, rfl, HA, HK1, HO_5, HB⟩ := hrel
  cases gk with
  | zero => exact absurd HA.out (by simp [ql.l0])
  | succ k1 =>
   have H := HA.out
   clear HA
   simp only [ql.l0] at H
   replace H : (if x6_1 < (l0.length : Int) then (if 0 ≤ x6_1 then ((qo.f k1 (rdOf ByteArray.empty l0 x6_1) (ji3)).bind fun t247 => (ql.l1 k1 l0 (wrap64 ((l0.length : Int) + 1)) x5_1 x6_1 t247 0)) else (none)) else (if 0 ≤ (wrap64 ((l0.length : Int) + 1)) then (if ((wrap64 ((l0.length : Int) + 1)) : Int).toNat ≤ 281474976710656 then (ql.l2 k1 (wrap64 ((l0.length : Int) + 1)) x5_1 (List.replicate ((wrap64 ((l0.length : Int) + 1)) : Int).toNat 0) 0) else (none)) else (none))) = some (r1, r2) := by first | exact H | (simp only [hji3] at H ⊢; exact H)
   by_cases c8 : x6_1 < (l0.length : Int)
   ·rw [if_pos c8] at H
    have c8b0 := decide_eq_true c8
    clear c8
    by_cases c9 : 0 ≤ x6_1
    rotate_left
    ·rw [if_neg c9] at H
     exact absurd H r17_
    rw [if_pos c9] at H
    have c9b0 := decide_eq_true c9
    clear c9
    replace H := bs_ H
    obtain ⟨t247, A100, H⟩ := H
    try dsimp only at H
    have A10 := Aside0.mk A100
    clear A100
    have H' := Aside0.mk H
    clear H
    have p246 : 0 ≤ (x6_1 : Int) := of_decide_eq_true as_
    have q246 : x6_1 < (l0.length : Int) := of_decide_eq_true as_
    obtain ⟨ad246, e246, hx246_0⟩ := Kd.at_string HR0.out x6_1 p246 q246
    cases e246
    replace hx246_0 := (HB.out.cell (World.block_lt_of_cell? w _ hx246_0)).trans hx246_0
    replace p246 := eq_true p246
    replace q246 := eq_true q246
    go_wp2_with (first | ((with_reducible refine gate_callee (f := 63) rfl ?_); refine goesL_ (some 33) rfl rfl Try.func63 r2_ rfl #[.string (rdOf ByteArray.empty l0 x6_1), .int .i64 ji3] rfl r12_ ?_; (with_reducible refine (qo.calls k1 (rdOf ByteArray.empty l0 x6_1) ji3 t247 _ A10.out).mono ?_); rintro e w11 ⟨v248, rfl, ho0, hb⟩; refine ⟨_, rfl, ?_⟩; replace HO_5 := Aside0.mk (Kd.R_below r4_ hb); have HO249 := Aside0.mk (Kd.R_lower ho0 (below_size hB_)); replace HB := Aside0.mk (below_step hB_ hb); clear hb ho0 A10))
    go_loopg [8] k1 (fun kq v8 w' => ∃ (x5_2 : List Bool) (x8_2 : Int), v8 = .int .i64 x8_2 ∧ Aside0 (ql.l1 kq l0 (wrap64 ((l0.length : Int) + 1)) x5_2 x6_1 t247 x8_2 = some (r1, r2)) ∧ Aside0 (kq ≤ k1) ∧ Aside0 (Kd.R Kd.bool 4 w' w.heap.size (fun _ => True) v244 x5_2) ∧ Aside0 (Kd.R (Kd.int .i64) 3 w' w.heap.size (fun _ => True) v248 t247) ∧ Aside0 (Below w.heap.size w w'))
    case atStart => exact ⟨(x5_1), (0), rs_, H', ⟨Nat.le_refl _⟩, ⟨r4_⟩, ⟨by (with_reducible repeat (first | apply Kd.R_alloc | apply Kd.R_drewN | apply Kd.R_drew)); exact HO249.out⟩, ⟨hB_⟩⟩
    case round =>
     clear H'
     try clear c2
     try clear c2b0
     try clear c2b1
     try clear c4
     try clear c4b0
     try clear c4b1
     try clear c5
     try clear c5b0
     try clear c5b1
     try clear c8
     try clear c8b0
     try clear c9
     try clear c9b0
     try clear hx246_0
     try clear p246
     try clear q246
     obtain ⟨x5_2, x8_2, rfl, HA, HK2, HO_5, HO_7, HB⟩ := hrel
     cases gk with
     | zero => exact absurd HA.out (by simp [ql.l1])
     | succ k2 =>
      have H := HA.out
      clear HA
      simp only [ql.l1] at H
      by_cases c12 : x8_2 < (t247.length : Int)
      rotate_left
      ·rw [if_neg c12] at H
       have c12b0 := decide_eq_false c12
       clear c12
       have H' := Aside0.mk H
       clear H
       obtain ⟨Ao20, co20, eo20⟩ := Kd.R_slice HO_7.out
       subst eo20
       go_wp2
       go_roundg k2
       case measure => have := HK1.out; have := HK2.out; omega
       case rel => exact ⟨(x5_2), (wrap64 (x6_1 + 1)), rs_, hH_, ⟨by have := HK1.out; have := HK2.out; omega⟩, ⟨r4_⟩, ⟨hB_⟩⟩
      rw [if_pos c12] at H
      have c12b0 := decide_eq_true c12
      clear c12
      by_cases c13 : 0 ≤ x8_2
      rotate_left
      ·rw [if_neg c13] at H
       exact absurd H r17_
      rw [if_pos c13] at H
      have c13b0 := decide_eq_true c13
      clear c13
      by_cases c14 : 0 ≤ (rd t247 x8_2)
      rotate_left
      ·rw [if_neg c14] at H
       exact absurd H r17_
      rw [if_pos c14] at H
      have c14b0 := decide_eq_true c14
      clear c14
      by_cases c15 : (rd t247 x8_2) < (x5_2.length : Int)
      rotate_left
      ·rw [if_neg c15] at H
       exact absurd H r17_
      rw [if_pos c15] at H
      have c15b0 := decide_eq_true c15
      clear c15
      obtain ⟨y251, hy251⟩ : ∃ y_ : List Bool, y_ = (x5_2.set ((rd t247 x8_2) : Int).toNat true) := ⟨_, rfl⟩
      replace H : (ql.l1 k2 l0 (wrap64 ((l0.length : Int) + 1)) y251 x6_1 t247 (wrap64 (x8_2 + 1))) = some (r1, r2) := by first | (rw [hy251]; with_reducible exact H) | (have H2_ := (Option.bind_some _ _).symm.trans H; rw [hy251]; with_reducible exact H2_) | (have H2_ := (Option.bind_some _ _).symm.trans H; with_reducible exact H2_) | with_reducible exact H | (rw [hy251]; exact H) | exact H
      have Ny251 := Aside0.mk hy251
      clear hy251
      have H' := Aside0.mk H
      clear H
      obtain ⟨Ao17, co17, eo17⟩ := Kd.R_slice HO_7.out
      subst eo17
      have p250 : 0 ≤ (x8_2 : Int) := of_decide_eq_true as_
      have q250 : x8_2 < (t247.length : Int) := of_decide_eq_true as_
      obtain ⟨ad250, e250, hx250_0⟩ := Kd.at_int (Kd.R_reads' HO_7.out).2.2 x8_2 p250 q250
      cases e250
      replace p250 := eq_true p250
      replace q250 := eq_true q250
      have p16 : 0 ≤ ((rd t247 x8_2) : Int) := of_decide_eq_true as_
      have q16 : ((rd t247 x8_2) : Int) < ((x5_2.length : Int) : Int) := of_decide_eq_true as_
      obtain ⟨go16, co16, eo16, gb16, gl16, cl16, HG16⟩ := Kd.R_form HO_5.out r18_
      (first | cases eo16 | (injection eo16 with ea_ en_ ec_; (first | subst ea_ | (injection ea_ with ea_; subst ea_)); subst ec_; clear en_))
      have GB16 := Aside0.mk gb16
      have GG16 := Aside0.mk HG16
      clear gb16 gl16 HG16
      obtain ⟨hx16_0, hf16_0⟩ := Kd.R_celln false HO_5.out ((rd t247 x8_2) : Int) p16 q16
      replace p16 := eq_true p16
      replace q16 := eq_true q16
      have HP18 := Kd.R_putg HO_5.out ((rd t247 x8_2) : Int) true
      go_wp2_with (first | ((with_reducible refine gate_store (t := 4) (p := 45) rfl ?_); refine store_event (t := 4) (p := 45) (v := ?vo_w19) (w1 := (wr.setCell ⟨go16, ((rd t247 x8_2) : Int).toNat, none⟩ (.bool true))) ?hg ?ho ?hn ?hr ?_; (case ho => rfl); (case hg => rfl); (case hn => rfl); (case hr => first | (go_simp; done) | (go_simp; rfl)); intro w19 hw; have hg : wr.grownBy w19 (some go16) := (by rw [hw]; exact HP18.2); have hp_ : Kd.R Kd.bool 4 w19 w.heap.size (fun _ => True) (.slice (some ⟨go16, 0, none⟩) x5_2.length co16) y251 := (by rw [hw, Ny251.out]; exact HP18.1); clear HP18; replace HO_7 := Aside0.mk (Kd.R_over' (v := (.slice (some ⟨go16, 0, none⟩) x5_2.length co16)) (by (with_reducible repeat (first | apply Kd.R_alloc | apply Kd.R_drewN | apply Kd.R_drew)); exact HO_7.out) (Kd.R_typed HO_5.out) r24_ hg); replace HO_5 := Aside0.mk (hp_); replace HB := Aside0.mk ((by rw [hw]; exact below_set (HB.out) GB16.out : Below w.heap.size w w19)); clear hg hw hp_))
      go_roundg k2
      case measure => have := HK1.out; have := HK2.out; omega
      case rel => exact ⟨(y251), (wrap64 (x8_2 + 1)), rs_, hH_, ⟨by have := HK1.out; have := HK2.out; omega⟩, ⟨r4_⟩, ⟨by (with_reducible repeat (first | apply Kd.R_alloc | apply Kd.R_drewN | apply Kd.R_drew)); exact HO_7.out⟩, ⟨hB_⟩⟩
   rw [if_neg c8] at H
   have c8b0 := decide_eq_false c8
   clear c8
   obtain ⟨ji21, hji21⟩ : ∃ j_ : Int, (wrap64 ((l0.length : Int) + 1)) = j_ := ⟨_, rfl⟩
   replace H : (if 0 ≤ (ji21) then (if ((ji21) : Int).toNat ≤ 281474976710656 then (ql.l2 k1 (ji21) x5_1 (List.replicate ((ji21) : Int).toNat 0) 0) else (none)) else (none)) = some (r1, r2) := by first | (rw [hji21] at H; exact H) | (simp only [hji21] at H ⊢; exact H)
   (try rw [hji21])
   have hji21w : (IntKind.i64.wrap ((l0.length : Int) + 1)) = ji21 := (i64_w _).trans hji21
   by_cases c22 : 0 ≤ (ji21)
   rotate_left
   ·rw [if_neg c22] at H
    exact absurd H r17_
   rw [if_pos c22] at H
   have c22b0 := eq_true c22
   have c22b1 : decide (0 ≤ (ji21)) = true := decide_eq_true c22
   clear c22
   by_cases c23 : ((ji21) : Int).toNat ≤ 281474976710656
   rotate_left
   ·rw [if_neg c23] at H
    exact absurd H r17_
   rw [if_pos c23] at H
   have c23b0 := eq_true c23
   have c23b1 : decide (((ji21) : Int).toNat ≤ 281474976710656) = true := decide_eq_true c23
   clear c23
   obtain ⟨y252, hy252⟩ : ∃ y_ : List Int, y_ = (List.replicate ((ji21) : Int).toNat 0) := ⟨_, rfl⟩
   replace H : (ql.l2 k1 (ji21) x5_1 y252 0) = some (r1, r2) := by first | (rw [hy252]; with_reducible exact H) | (have H2_ := (Option.bind_some _ _).symm.trans H; rw [hy252]; with_reducible exact H2_) | (have H2_ := (Option.bind_some _ _).symm.trans H; with_reducible exact H2_) | with_reducible exact H | (rw [hy252]; exact H) | exact H
   have Ny252 := Aside0.mk hy252
   clear hy252
   have H' := Aside0.mk H
   clear H
   go_wp2_with (first | ((with_reducible refine gate_dst (N := 47) rfl ?_); refine Kd.R_make (Kd.int .u8) _ 5 rfl (N := 47) rfl 54 _ _ rfl (ji21) rfl rfl Try.underlying54 (.int .u8 0) 1 info5 rfl r24_ r18_ 0 (ok := fun _ => True) (okp := fun _ => True) rfl (fun _ hk => hk) trivial (of_decide_eq_true as_) (Nat.le_trans (Nat.mul_le_mul_right _ (of_decide_eq_true as_ : (ji21).toNat ≤ 281474976710656)) r18_) (Below.refl _ _) (Nat.le_refl _) ?_; intro v253 w24 ho25 hb hg_ hnew_; clear hg_ hnew_; (first | rw [← Ny252.out] at ho25 | (simp only [Int.reduceToNat] at ho25; rw [← Ny252.out] at ho25)); replace HO_5 := Aside0.mk (Kd.R_below r4_ hb); have HO254 := Aside0.mk (Kd.R_lower ho25 (below_size hB_)); replace HB := Aside0.mk (below_step hB_ hb); clear hb ho25))
   go_loopg [10] k1 (fun kq v10 w' => ∃ (x9_2 : List Int) (x10_2 : Int), v10 = .int .i64 x10_2 ∧ Aside0 (ql.l2 kq (ji21) x5_1 x9_2 x10_2 = some (r1, r2)) ∧ Aside0 (kq ≤ k1) ∧ Aside0 (Kd.R Kd.bool 4 w' w.heap.size (fun _ => True) v244 x5_1) ∧ Aside0 (Kd.R (Kd.int .u8) 5 w' w.heap.size (fun _ => True) v253 x9_2) ∧ Aside0 (Below w.heap.size w w'))
   case atStart => exact ⟨(y252), (0), rs_, H', ⟨Nat.le_refl _⟩, ⟨r4_⟩, ⟨by (with_reducible repeat (first | apply Kd.R_alloc | apply Kd.R_drewN | apply Kd.R_drew)); exact HO254.out⟩, ⟨hB_⟩⟩
   case round =>
    clear H'
    try clear c2
    try clear c2b0
    try clear c2b1
    try clear c4
    try clear c4b0
    try clear c4b1
    try clear c5
    try clear c5b0
    try clear c5b1
    try clear c8
    try clear c8b0
    try clear c22
    try clear c22b0
    try clear c22b1
    try clear c23
    try clear c23b0
    try clear c23b1
    obtain ⟨x9_2, x10_2, rfl, HA, HK2, HO_5, HO_9, HB⟩ := hrel
    cases gk with
    | zero => exact absurd HA.out (by simp [ql.l2])
    | succ k2 =>
     have H := HA.out
     clear HA
     simp only [ql.l2] at H
     by_cases c26 : x10_2 < (ji21)
     rotate_left
     ·rw [if_neg c26] at H
      have c26b0 := decide_eq_false c26
      clear c26
      simp only [Option.some.injEq, Prod.mk.injEq] at H
      obtain ⟨rfl, rfl⟩ := H
      have hcv47 := own_string (P := Try.prog) Try.underlying54 Try.underlying5 Try.underlying9 (Kd.own_of_R (HO_9.out))
      go_wp2
      go_ret2
      exact ⟨by first | rfl | (simp [errW_none, errW_some] <;> rfl) | (simp (disch := omega) only [← i64_w, IntWalk.i64_in]; rfl) | (simp only [← hji3, ← hji21]; first | rfl | (simp [errW_none, errW_some] <;> rfl)) | (simp [*, errW_none, errW_some] <;> rfl), hB_⟩
     rw [if_pos c26] at H
     have c26b0 := decide_eq_true c26
     clear c26
     have H' := Aside0.mk H
     clear H
     go_wp2
     go_loopg [11] k2 (fun kq v11 w' => ∃ (x9_3 : List Int) (x11_3 : Int), v11 = .int .i64 x11_3 ∧ Aside0 (ql.l3 kq (ji21) x5_1 x9_3 x10_2 x11_3 = some (r1, r2)) ∧ Aside0 (kq ≤ k2) ∧ Aside0 (Kd.R Kd.bool 4 w' w.heap.size (fun _ => True) v244 x5_1) ∧ Aside0 (Kd.R (Kd.int .u8) 5 w' w.heap.size (fun _ => True) v253 x9_3) ∧ Aside0 (Below w.heap.size w w'))
     case atStart => exact ⟨(x9_2), (7), rs_, H', ⟨Nat.le_refl _⟩, ⟨r4_⟩, ⟨r42_⟩, ⟨hB_⟩⟩
     case round =>
      clear H'
      try clear c2
      try clear c2b0
      try clear c2b1
      try clear c4
      try clear c4b0
      try clear c4b1
      try clear c5
      try clear c5b0
      try clear c5b1
      try clear c8
      try clear c8b0
      try clear c22
      try clear c22b0
      try clear c22b1
      try clear c23
      try clear c23b0
      try clear c23b1
      try clear c26
      try clear c26b0
      obtain ⟨x9_3, x11_3, rfl, HA, HK3, HO_5, HO_9, HB⟩ := hrel
      cases gk with
      | zero => exact absurd HA.out (by simp [ql.l3])
      | succ k3 =>
       have H := HA.out
       clear HA
       simp only [ql.l3] at H
       by_cases c27 : x11_3 ≥ 0
       rotate_left
       ·rw [if_neg c27] at H
        have c27b0 : decide (0 ≤ x11_3) = false := decide_eq_false c27
        clear c27
        have H' := Aside0.mk H
        clear H
        go_wp2
        go_roundg k3
        case measure => have := HK1.out; have := HK2.out; have := HK3.out; omega
        case rel => exact ⟨(x9_3), (wrap64 (x10_2 + 1)), rs_, hH_, ⟨by have := HK1.out; have := HK2.out; have := HK3.out; omega⟩, ⟨r4_⟩, ⟨r42_⟩, ⟨hB_⟩⟩
       rw [if_pos c27] at H
       have c27b0 : decide (0 ≤ x11_3) = true := decide_eq_true c27
       clear c27
       by_cases c28 : 0 ≤ x10_2
       rotate_left
       ·rw [if_neg c28] at H
        exact absurd H r17_
       rw [if_pos c28] at H
       have c28b0 := decide_eq_true c28
       clear c28
       by_cases c29 : x10_2 < (x9_3.length : Int)
       rotate_left
       ·rw [if_neg c29] at H
        exact absurd H r17_
       rw [if_pos c29] at H
       have c29b0 := decide_eq_true c29
       clear c29
       obtain ⟨y256, hy256⟩ : ∃ y_ : List Int, y_ = (x9_3.set (x10_2 : Int).toNat (((rd x9_3 x10_2) * 2) % 256)) := ⟨_, rfl⟩
       replace H : (if 0 ≤ (wrap64 ((wrap64 (8 * x10_2)) + x11_3)) then (if (wrap64 ((wrap64 (8 * x10_2)) + x11_3)) < (x5_1.length : Int) then (if rdOf false x5_1 (wrap64 ((wrap64 (8 * x10_2)) + x11_3)) = true then (ql.l3 k3 (ji21) x5_1 (y256.set (x10_2 : Int).toNat (((rd y256 x10_2) + 1) % 256)) x10_2 (wrap64 (x11_3 - 1))) else (ql.l3 k3 (ji21) x5_1 y256 x10_2 (wrap64 (x11_3 - 1)))) else (none)) else (none)) = some (r1, r2) := by first | (rw [hy256]; with_reducible exact H) | (have H2_ := (Option.bind_some _ _).symm.trans H; rw [hy256]; with_reducible exact H2_) | (have H2_ := (Option.bind_some _ _).symm.trans H; with_reducible exact H2_) | with_reducible exact H | (rw [hy256]; exact H) | exact H
       have Ny256 := Aside0.mk hy256
       clear hy256
       obtain ⟨ji31, hji31⟩ : ∃ j_ : Int, (wrap64 ((wrap64 (8 * x10_2)) + x11_3)) = j_ := ⟨_, rfl⟩
       replace H : (if 0 ≤ (ji31) then (if (ji31) < (x5_1.length : Int) then (if rdOf false x5_1 (ji31) = true then (ql.l3 k3 (ji21) x5_1 (y256.set (x10_2 : Int).toNat (((rd y256 x10_2) + 1) % 256)) x10_2 (wrap64 (x11_3 - 1))) else (ql.l3 k3 (ji21) x5_1 y256 x10_2 (wrap64 (x11_3 - 1)))) else (none)) else (none)) = some (r1, r2) := by first | (rw [hji31] at H; exact H) | (simp only [hji31] at H ⊢; exact H)
       (try rw [hji31])
       have hji31w : (IntKind.i64.wrap ((wrap64 (8 * x10_2)) + x11_3)) = ji31 := (i64_w _).trans hji31
       by_cases c32 : 0 ≤ (ji31)
       rotate_left
       ·rw [if_neg c32] at H
        exact absurd H r17_
       rw [if_pos c32] at H
       have c32b0 := decide_eq_true c32
       clear c32
       by_cases c33 : (ji31) < (x5_1.length : Int)
       rotate_left
       ·rw [if_neg c33] at H
        exact absurd H r17_
       rw [if_pos c33] at H
       have c33b0 := decide_eq_true c33
       clear c33
       obtain ⟨bq34, hbq34⟩ : ∃ b_ : Bool, b_ = (rdOf false x5_1 (ji31)) := ⟨_, rfl⟩
       replace H : (if bq34 = true then (ql.l3 k3 (ji21) x5_1 (y256.set (x10_2 : Int).toNat (((rd y256 x10_2) + 1) % 256)) x10_2 (wrap64 (x11_3 - 1))) else (ql.l3 k3 (ji21) x5_1 y256 x10_2 (wrap64 (x11_3 - 1)))) = some (r1, r2) := by rw [← hbq34] at H; exact H
       have Nbq34 := Aside0.mk hbq34
       clear hbq34
       by_cases c35 : bq34 = true
       rotate_left
       ·replace c35 := Bool.eq_false_iff.mpr c35
        subst c35
        rw [if_neg ff_] at H
        have H' := Aside0.mk H
        clear H
        obtain ⟨Ao43, co43, eo43⟩ := Kd.R_slice HO_9.out
        subst eo43
        have p255 : 0 ≤ (x10_2 : Int) := of_decide_eq_true as_
        have q255 : x10_2 < (x9_3.length : Int) := of_decide_eq_true as_
        obtain ⟨ad255, e255, hx255_0⟩ := Kd.at_int (Kd.R_reads' HO_9.out).2.2 x10_2 p255 q255
        cases e255
        replace p255 := eq_true p255
        replace q255 := eq_true q255
        have p30 : 0 ≤ (x10_2 : Int) := of_decide_eq_true as_
        have q30 : (x10_2 : Int) < ((x9_3.length : Int) : Int) := of_decide_eq_true as_
        obtain ⟨go30, co30, eo30, gb30, gl30, cl30, HG30⟩ := Kd.R_form HO_9.out r18_
        (first | cases eo30 | (injection eo30 with ea_ en_ ec_; (first | subst ea_ | (injection ea_ with ea_; subst ea_)); subst ec_; clear en_))
        have GB30 := Aside0.mk gb30
        have GG30 := Aside0.mk HG30
        clear gb30 gl30 HG30
        (first | simp only [add_plain] at hx255_0 | skip)
        obtain ⟨hx30_0, hf30_0⟩ := Kd.R_celln 0 HO_9.out (x10_2 : Int) p30 q30
        replace p30 := eq_true p30
        replace q30 := eq_true q30
        have HP44 := Kd.R_putg HO_9.out (x10_2 : Int) (((rd x9_3 x10_2) * 2) % 256)
        go_wp2_with (first | ((with_reducible refine gate_store (t := 5) (p := 64) rfl ?_); refine store_event (t := 5) (p := 64) (v := ?vo_w45) (w1 := (wr.setCell ⟨go30, (x10_2 : Int).toNat, none⟩ (.int .u8 (((rd x9_3 x10_2) * 2) % 256)))) ?hg ?ho ?hn ?hr ?_; (case ho => rfl); (case hg => rfl); (case hn => rfl); (case hr => first | (go_simp; done) | (go_simp; rfl)); intro w45 hw; have hg : wr.grownBy w45 (some go30) := (by rw [hw]; exact HP44.2); have hp_ : Kd.R (Kd.int .u8) 5 w45 w.heap.size (fun _ => True) (.slice (some ⟨go30, 0, none⟩) x9_3.length co43) y256 := (by rw [hw, Ny256.out]; exact HP44.1); clear HP44; replace HO_5 := Aside0.mk (Kd.R_over' (v := (.slice (some ⟨go30, 0, none⟩) x9_3.length co43)) r4_ (Kd.R_typed HO_9.out) r24_ hg); replace HO_9 := Aside0.mk (hp_); replace HB := Aside0.mk ((by rw [hw]; exact below_set (HB.out) GB30.out : Below w.heap.size w w45)); clear hg hw hp_; obtain ⟨Ao46, co46, eo46⟩ := Kd.R_slice HO_5.out; subst eo46; have p257 : 0 ≤ ((ji31) : Int) := of_decide_eq_true as_; have q257 : (ji31) < (x5_1.length : Int) := of_decide_eq_true as_; obtain ⟨ad257, e257, hx257_0⟩ := Kd.at_bool (Kd.R_reads' HO_5.out).2.2 (ji31) p257 q257; (try rw [← Nbq34.out] at hx257_0); cases e257; replace p257 := eq_true p257; replace q257 := eq_true q257))
        go_roundg k3
        case measure => have := HK1.out; have := HK2.out; have := HK3.out; omega
        case rel => exact ⟨(y256), (wrap64 (x11_3 - 1)), rs_, hH_, ⟨by have := HK1.out; have := HK2.out; have := HK3.out; omega⟩, ⟨r4_⟩, ⟨r42_⟩, ⟨hB_⟩⟩
       subst c35
       rw [if_pos rfl] at H
       obtain ⟨y259, hy259⟩ : ∃ y_ : List Int, y_ = (y256.set (x10_2 : Int).toNat (((rd y256 x10_2) + 1) % 256)) := ⟨_, rfl⟩
       replace H : (ql.l3 k3 (ji21) x5_1 y259 x10_2 (wrap64 (x11_3 - 1))) = some (r1, r2) := by first | (rw [hy259]; with_reducible exact H) | (have H2_ := (Option.bind_some _ _).symm.trans H; rw [hy259]; with_reducible exact H2_) | (have H2_ := (Option.bind_some _ _).symm.trans H; with_reducible exact H2_) | with_reducible exact H | (rw [hy259]; exact H) | exact H
       have Ny259 := Aside0.mk hy259
       clear hy259
       have H' := Aside0.mk H
       clear H
       obtain ⟨Ao37, co37, eo37⟩ := Kd.R_slice HO_9.out
       subst eo37
       have p255 : 0 ≤ (x10_2 : Int) := of_decide_eq_true as_
       have q255 : x10_2 < (x9_3.length : Int) := of_decide_eq_true as_
       obtain ⟨ad255, e255, hx255_0⟩ := Kd.at_int (Kd.R_reads' HO_9.out).2.2 x10_2 p255 q255
       cases e255
       replace p255 := eq_true p255
       replace q255 := eq_true q255
       have p30 : 0 ≤ (x10_2 : Int) := of_decide_eq_true as_
       have q30 : (x10_2 : Int) < ((x9_3.length : Int) : Int) := of_decide_eq_true as_
       obtain ⟨go30, co30, eo30, gb30, gl30, cl30, HG30⟩ := Kd.R_form HO_9.out r18_
       (first | cases eo30 | (injection eo30 with ea_ en_ ec_; (first | subst ea_ | (injection ea_ with ea_; subst ea_)); subst ec_; clear en_))
       have GB30 := Aside0.mk gb30
       have GG30 := Aside0.mk HG30
       clear gb30 gl30 HG30
       (first | simp only [add_plain] at hx255_0 | skip)
       obtain ⟨hx30_0, hf30_0⟩ := Kd.R_celln 0 HO_9.out (x10_2 : Int) p30 q30
       replace p30 := eq_true p30
       replace q30 := eq_true q30
       have HP38 := Kd.R_putg HO_9.out (x10_2 : Int) (((rd x9_3 x10_2) * 2) % 256)
       go_wp2_with (first | ((with_reducible refine gate_store (t := 5) (p := 64) rfl ?_); refine store_event (t := 5) (p := 64) (v := ?vo_w39) (w1 := (wr.setCell ⟨go30, (x10_2 : Int).toNat, none⟩ (.int .u8 (((rd x9_3 x10_2) * 2) % 256)))) ?hg ?ho ?hn ?hr ?_; (case ho => rfl); (case hg => rfl); (case hn => rfl); (case hr => first | (go_simp; done) | (go_simp; rfl)); intro w39 hw; have hg : wr.grownBy w39 (some go30) := (by rw [hw]; exact HP38.2); have hp_ : Kd.R (Kd.int .u8) 5 w39 w.heap.size (fun _ => True) (.slice (some ⟨go30, 0, none⟩) x9_3.length co37) y256 := (by rw [hw, Ny256.out]; exact HP38.1); clear HP38; replace HO_5 := Aside0.mk (Kd.R_over' (v := (.slice (some ⟨go30, 0, none⟩) x9_3.length co37)) r4_ (Kd.R_typed HO_9.out) r24_ hg); replace HO_9 := Aside0.mk (hp_); replace HB := Aside0.mk ((by rw [hw]; exact below_set (HB.out) GB30.out : Below w.heap.size w w39)); clear hg hw hp_; obtain ⟨Ao40, co40, eo40⟩ := Kd.R_slice HO_5.out; subst eo40; have p257 : 0 ≤ ((ji31) : Int) := of_decide_eq_true as_; have q257 : (ji31) < (x5_1.length : Int) := of_decide_eq_true as_; obtain ⟨ad257, e257, hx257_0⟩ := Kd.at_bool (Kd.R_reads' HO_5.out).2.2 (ji31) p257 q257; (try rw [← Nbq34.out] at hx257_0); cases e257; replace p257 := eq_true p257; replace q257 := eq_true q257; have p258 : 0 ≤ (x10_2 : Int) := of_decide_eq_true as_; have q258 : x10_2 < (y256.length : Int) := (by have h_ : (x10_2 : Int) < ((x9_3.length : Int) : Int) := of_decide_eq_true as_; first | (have e_ := (Kd.R_reads' HO_9.out).1; omega) | simpa only [Ny256.out, List.length_set] using h_); have ql258 : ((x10_2 : Int) < ((x9_3.length : Int) : Int)) = True := eq_true (of_decide_eq_true as_); obtain ⟨ad258, e258, hx258_0⟩ := Kd.at_int (Kd.R_reads' HO_9.out).2.2 x10_2 p258 q258; obtain rfl : (⟨go30, 0, none⟩ : Addr) = ad258 := (by injection e258); (first | simp only [add_plain] at hx258_0 | simp only [add_at] at hx258_0 | simp only [Addr.add, Nat.zero_add] at hx258_0 | skip); replace p258 := eq_true p258; replace q258 := eq_true q258; have p36 : 0 ≤ (x10_2 : Int) := of_decide_eq_true as_; have q36 : (x10_2 : Int) < ((x9_3.length : Int) : Int) := of_decide_eq_true as_; obtain ⟨hx36_0, hf36_0⟩ := Kd.R_celln 0 HO_9.out (x10_2 : Int) p36 q36; replace p36 := eq_true p36; replace q36 := eq_true q36; obtain ⟨hy41_, hz41_⟩ := Kd.R_celln 0 HO_9.out (x10_2 : Int) (of_decide_eq_true as_) (of_decide_eq_true as_); have HP41 := Kd.R_putg HO_9.out (x10_2 : Int) (((rd y256 x10_2) + 1) % 256)) | ((with_reducible refine gate_store (t := 5) (p := 77) rfl ?_); refine store_event (t := 5) (p := 77) (v := ?vo_w42) (w1 := (w39.setCell ⟨go30, (x10_2 : Int).toNat, none⟩ (.int .u8 (((rd y256 x10_2) + 1) % 256)))) ?hg ?ho ?hn ?hr ?_; (case ho => rfl); (case hg => rfl); (case hn => rfl); (case hr => first | (go_simp; done) | (go_simp; rfl)); intro w42 hw; have hg : w39.grownBy w42 (some go30) := (by rw [hw]; exact HP41.2); have hp_ : Kd.R (Kd.int .u8) 5 w42 w.heap.size (fun _ => True) (.slice (some ⟨go30, 0, none⟩) x9_3.length co37) y259 := (by rw [hw, Ny259.out]; exact HP41.1); clear HP41; replace HO_5 := Aside0.mk (Kd.R_over' (v := (.slice (some ⟨go30, 0, none⟩) x9_3.length co37)) r4_ (Kd.R_typed HO_9.out) r24_ hg); replace HO_9 := Aside0.mk (hp_); replace HB := Aside0.mk ((by rw [hw]; exact below_set (HB.out) GB30.out : Below w.heap.size w w42)); clear hg hw hp_))
       go_roundg k3
       case measure => have := HK1.out; have := HK2.out; have := HK3.out; omega
       case rel => exact ⟨(y259), (wrap64 (x11_3 - 1)), rs_, hH_, ⟨by have := HK1.out; have := HK2.out; have := HK3.out; omega⟩, ⟨r4_⟩, ⟨r42_⟩, ⟨hB_⟩⟩

/-! ### qz: function 39 -/
def qz.l0 : Nat → List (S37) → List ByteArray → Int → Option (List ByteArray)
 | 0, _, _, _ => none
 | k + 1, x0, x3, x4 => if x4 < (x0.length : Int) then (if x4 = 0 then (if 0 ≤ x4 then (if x3.length < 8796093022208 then (qz.l0 k x0 (x3 ++ [(rd_T37 x0 x4).f0]) (wrap64 (x4 + 1))) else (none)) else (none)) else (if 0 ≤ (wrap64 (x4 - 1)) then (if (wrap64 (x4 - 1)) < (x0.length : Int) then (if 0 ≤ x4 then (if ((rd_T37 x0 (wrap64 (x4 - 1))).f0).toList = ((rd_T37 x0 x4).f0).toList then (qz.l0 k x0 x3 (wrap64 (x4 + 1))) else (if x3.length < 8796093022208 then (qz.l0 k x0 (x3 ++ [(rd_T37 x0 x4).f0]) (wrap64 (x4 + 1))) else (none))) else (none)) else (none)) else (none))) else (some x3)
def qz.f (k : Nat) (l0 : List (S37)) : Option (List ByteArray) := qz.l0 k l0 (([] : List ByteArray)) 0
theorem qz.mono_l : ∀ k, (∀ y0 y1 y2, LeO (qz.l0 k y0 y1 y2) (qz.l0 (k + 1) y0 y1 y2))
 | 0 => fun _ _ _ r h => by simp [qz.l0] at h
 | k + 1 => by
  have ih0 := qz.mono_l k
  ·intro y0 y1 y2
   unfold qz.l0
   repeat' first
   | (with_reducible exact ih0 _ _ _)
   | (with_reducible exact LeO.refl _)
   | (with_reducible exact LeO.none _)
   | (with_reducible refine LeO.ite ?_ ?_)
   | (with_reducible refine LeO.bind ?_ (fun _ => ?_))
   | exact ih0 _ _ _
   | exact LeO.none _
   | refine LeO.ite ?_ ?_
   | refine LeO.bind ?_ (fun _ => ?_)
theorem qz.mono : ∀ a0 k, LeO (qz.f k a0) (qz.f (k + 1) a0) := by
 intro a0 k
 have ih0 := qz.mono_l k
 unfold qz.f
 repeat' first
   | (with_reducible exact ih0 _ _ _)
   | (with_reducible exact LeO.refl _)
   | (with_reducible exact LeO.none _)
   | (with_reducible refine LeO.ite ?_ ?_)
   | (with_reducible refine LeO.bind ?_ (fun _ => ?_))
   | exact ih0 _ _ _
   | exact LeO.none _
   | refine LeO.ite ?_ ?_
   | refine LeO.bind ?_ (fun _ => ?_)
set_option maxHeartbeats 8000000 in
set_option maxRecDepth 100000 in
theorem qz.calls (k : Nat) (A0 : Option Addr) (c0 : Nat) (l0 : List (S37)) (r : List ByteArray) (w : World) (hr0 : Kd.C k37 w A0 l0.length l0) (hc0 : l0.length ≤ c0) (h : qz.f k l0 = some r) :
  Calls Try.prog 39 #[.slice A0 l0.length c0] w fun e w' => ∃ v0_ : Value, e = .returned (v0_) ∧ Kd.R Kd.string 9 w' w.heap.size (fun _ => True) v0_ r ∧ Below w.heap.size w w' := by
 have HR0 := Aside0.mk hr0
 have HC0 := Aside0.mk hc0
 clear hr0 hc0
 have HB := Aside0.mk (Below.refl w.heap.size w)
 have H : (qz.l0 k l0 (([] : List ByteArray)) 0) = some r := h
 clear h
 obtain ⟨y260, hy260⟩ : ∃ y_ : List ByteArray, y_ = (([] : List ByteArray)) := ⟨_, rfl⟩
 replace H : (qz.l0 k l0 y260 0) = some r := by first | (rw [hy260]; with_reducible exact H) | (have H2_ := (Option.bind_some _ _).symm.trans H; rw [hy260]; with_reducible exact H2_) | (have H2_ := (Option.bind_some _ _).symm.trans H; with_reducible exact H2_) | with_reducible exact H | (rw [hy260]; exact H) | exact H
 have Ny260 := Aside0.mk hy260
 clear hy260
 have H' := Aside0.mk H
 clear H
 go_enter Try.func39, Try.ntmps39
 go_wp2_with (first | ((with_reducible refine gate_dst (N := 5) rfl ?_); refine Kd.R_lit Kd.string _ 9 ?hg (N := 5) ?hd (xs := ([] : List ByteArray)) (inner := []) (ok := fun _ => True) (okp := fun _ => True) ?hr ?hp (fun _ hk => hk) trivial (Below.refl _ _) (Nat.le_refl _) r17_ ?_; (case hd => rfl); (case hg => rfl); (case hr => first | (go_simp; done) | (go_simp; rfl)); (case hp => exact (Reps.none _ _)); intro v261 w2 ho3 hb hg_ hnew_; clear hg_ hnew_; (first | rw [← Ny260.out] at ho3 | (simp only [Int.reduceToNat] at ho3; rw [← Ny260.out] at ho3)); have HO262 := Aside0.mk (Kd.R_lower ho3 (below_size hB_)); replace HB := Aside0.mk (below_step hB_ hb); clear hb ho3))
 repeat (go_quiet (fail); try go_wp2_with (first | ((with_reducible refine gate_dst (N := 5) rfl ?_); refine Kd.R_lit Kd.string _ 9 ?hg (N := 5) ?hd (xs := ([] : List ByteArray)) (inner := []) (ok := fun _ => True) (okp := fun _ => True) ?hr ?hp (fun _ hk => hk) trivial (Below.refl _ _) (Nat.le_refl _) r17_ ?_; (case hd => rfl); (case hg => rfl); (case hr => first | (go_simp; done) | (go_simp; rfl)); (case hp => exact (Reps.none _ _)); intro v261 w2 ho3 hb hg_ hnew_; clear hg_ hnew_; (first | rw [← Ny260.out] at ho3 | (simp only [Int.reduceToNat] at ho3; rw [← Ny260.out] at ho3)); have HO262 := Aside0.mk (Kd.R_lower ho3 (below_size hB_)); replace HB := Aside0.mk (below_step hB_ hb); clear hb ho3)))
 go_loopg [3, 4] k (fun kq v3 v4 w' => ∃ (x3_1 : List ByteArray) (x4_1 : Int), v4 = .int .i64 x4_1 ∧ Aside0 (qz.l0 kq l0 x3_1 x4_1 = some r) ∧ Aside0 (kq ≤ k) ∧ Aside0 (Kd.R Kd.string 9 w' w.heap.size (fun _ => True) v3 x3_1) ∧ Aside0 (Below w.heap.size w w'))
 case atStart => exact ⟨(y260), (0), rs_, H', ⟨Nat.le_refl _⟩, ⟨by (with_reducible repeat (first | apply Kd.R_alloc | apply Kd.R_drewN | apply Kd.R_drew)); exact HO262.out⟩, ⟨hB_⟩⟩
 case round =>
  clear H'
  obtain ⟨x3_1, x4_1, rfl, HA, HK1, HO_3, HB⟩ := hrel
  cases gk with
  | zero => exact absurd HA.out (by simp [qz.l0])
  | succ k1 =>
   have H := HA.out
   clear HA
   simp only [qz.l0] at H
   by_cases c4 : x4_1 < (l0.length : Int)
   rotate_left
   ·rw [if_neg c4] at H
    have c4b0 := decide_eq_false c4
    clear c4
    obtain rfl := Option.some.inj H
    go_wp2
    repeat (go_quiet (fail); try go_wp2)
    go_ret
    exact ⟨_, rf_, r14_, hB_⟩
   rw [if_pos c4] at H
   have c4b0 := decide_eq_true c4
   clear c4
   by_cases c5 : x4_1 = 0
   ·rw [if_pos c5] at H
    have c5b0 := beq_iff_eq.mpr c5
    have c5b1 := bne_eq_false_iff_eq.mpr c5
    clear c5
    by_cases c6 : 0 ≤ x4_1
    rotate_left
    ·rw [if_neg c6] at H
     exact absurd H r17_
    rw [if_pos c6] at H
    have c6b0 := decide_eq_true c6
    clear c6
    by_cases c7 : x3_1.length < 8796093022208
    rotate_left
    ·rw [if_neg c7] at H
     exact absurd H r17_
    rw [if_pos c7] at H
    have LMc7 := Aside0.mk c7
    clear c7
    obtain ⟨y264, hy264⟩ : ∃ y_ : List ByteArray, y_ = (x3_1 ++ [(rd_T37 l0 x4_1).f0]) := ⟨_, rfl⟩
    replace H : (qz.l0 k1 l0 y264 (wrap64 (x4_1 + 1))) = some r := by first | (rw [hy264]; with_reducible exact H) | (have H2_ := (Option.bind_some _ _).symm.trans H; rw [hy264]; with_reducible exact H2_) | (have H2_ := (Option.bind_some _ _).symm.trans H; with_reducible exact H2_) | with_reducible exact H | (rw [hy264]; exact H) | exact H
    have Ny264 := Aside0.mk hy264
    clear hy264
    have H' := Aside0.mk H
    clear H
    have p263 : 0 ≤ (x4_1 : Int) := of_decide_eq_true as_
    have q263 : x4_1 < (l0.length : Int) := of_decide_eq_true as_
    obtain ⟨ad263, e263, hx263_0, hx263_1, hx263_2, hx263_3⟩ := at_T37 HR0.out x4_1 p263 q263
    cases e263
    replace hx263_0 := (HB.out.cell (World.block_lt_of_cell? w _ hx263_0)).trans hx263_0
    replace hx263_1 := (HB.out.cell (World.block_lt_of_cell? w _ hx263_1)).trans hx263_1
    replace hx263_2 := (HB.out.cell (World.block_lt_of_cell? w _ hx263_2)).trans hx263_2
    replace hx263_3 := (HB.out.cell (World.block_lt_of_cell? w _ hx263_3)).trans hx263_3
    replace p263 := eq_true p263
    replace q263 := eq_true q263
    go_wp2_with (first | ((with_reducible refine gate_builtin (b := .append) (xs := #[.tmp 28, .tmp 34]) rfl ?_); at_builtin; refine Kd.R_append Kd.string (w0 := w) w.heap.size rfl (.tmp 28) (.tmp 34) 73 9 (.string ⟨#[]⟩) 16 rfl Try.underlying73 info9 rfl r24_ r18_ u3 x3_1 ((rd_T37 l0 x4_1).f0) [.string ((rd_T37 l0 x4_1).f0)] (fun _ => True) (fun _ => False) rfl rfl ?aP (fun _ hk => hk.elim) ?aF ?aO ?aB ?aS ?aL ?_; (case aP => exact rfl); (case aB => exact hB_); (case aF => exact (fun _ _ => trivial)); (case aO => exact r14_); (case aS => exact (below_size hB_)); (case aL => have := LMc7.out; omega); intro v265 w8 ho hb hg hat; rw [← Ny264.out] at ho; replace HB := Aside0.mk (hb); have HO266 := Aside0.mk (ho); clear HO_3; clear ho hb hg hat))
    repeat (go_quiet (fail); try go_wp2_with (first | ((with_reducible refine gate_builtin (b := .append) (xs := #[.tmp 28, .tmp 34]) rfl ?_); at_builtin; refine Kd.R_append Kd.string (w0 := w) w.heap.size rfl (.tmp 28) (.tmp 34) 73 9 (.string ⟨#[]⟩) 16 rfl Try.underlying73 info9 rfl r24_ r18_ u3 x3_1 ((rd_T37 l0 x4_1).f0) [.string ((rd_T37 l0 x4_1).f0)] (fun _ => True) (fun _ => False) rfl rfl ?aP (fun _ hk => hk.elim) ?aF ?aO ?aB ?aS ?aL ?_; (case aP => exact rfl); (case aB => exact hB_); (case aF => exact (fun _ _ => trivial)); (case aO => exact r14_); (case aS => exact (below_size hB_)); (case aL => have := LMc7.out; omega); intro v265 w8 ho hb hg hat; rw [← Ny264.out] at ho; replace HB := Aside0.mk (hb); have HO266 := Aside0.mk (ho); clear HO_3; clear ho hb hg hat)))
    go_roundg k1
    case measure => have := HK1.out; omega
    case rel => exact ⟨(y264), (wrap64 (x4_1 + 1)), rs_, hH_, ⟨by have := HK1.out; omega⟩, ⟨by (with_reducible repeat (first | apply Kd.R_alloc | apply Kd.R_drewN | apply Kd.R_drew)); exact HO266.out⟩, ⟨hB_⟩⟩
   rw [if_neg c5] at H
   have c5b0 := beq_eq_false_iff_ne.mpr c5
   have c5b1 := bne_iff_ne.mpr c5
   obtain ⟨ji9, hji9⟩ : ∃ j_ : Int, (wrap64 (x4_1 - 1)) = j_ := ⟨_, rfl⟩
   replace H : (if 0 ≤ (ji9) then (if (ji9) < (l0.length : Int) then (if 0 ≤ x4_1 then (if ((rd_T37 l0 (ji9)).f0).toList = ((rd_T37 l0 x4_1).f0).toList then (qz.l0 k1 l0 x3_1 (wrap64 (x4_1 + 1))) else (if x3_1.length < 8796093022208 then (qz.l0 k1 l0 (x3_1 ++ [(rd_T37 l0 x4_1).f0]) (wrap64 (x4_1 + 1))) else (none))) else (none)) else (none)) else (none)) = some r := by first | (rw [hji9] at H; exact H) | (simp only [hji9] at H ⊢; exact H)
   (try rw [hji9])
   have hji9w : (IntKind.i64.wrap (x4_1 - 1)) = ji9 := (i64_w _).trans hji9
   by_cases c10 : 0 ≤ (ji9)
   rotate_left
   ·rw [if_neg c10] at H
    exact absurd H r17_
   rw [if_pos c10] at H
   have c10b0 := decide_eq_true c10
   clear c10
   by_cases c11 : (ji9) < (l0.length : Int)
   rotate_left
   ·rw [if_neg c11] at H
    exact absurd H r17_
   rw [if_pos c11] at H
   have c11b0 := decide_eq_true c11
   clear c11
   by_cases c12 : 0 ≤ x4_1
   rotate_left
   ·rw [if_neg c12] at H
    exact absurd H r17_
   rw [if_pos c12] at H
   have c12b0 := decide_eq_true c12
   clear c12
   by_cases c13 : ((rd_T37 l0 (ji9)).f0).toList = ((rd_T37 l0 x4_1).f0).toList
   ·rw [if_pos c13] at H
    have c13b0 := beq_iff_eq.mpr c13
    have c13b1 := bne_eq_false_iff_eq.mpr c13
    clear c13
    have H' := Aside0.mk H
    clear H
    have p267 : 0 ≤ ((ji9) : Int) := of_decide_eq_true as_
    have q267 : (ji9) < (l0.length : Int) := of_decide_eq_true as_
    obtain ⟨ad267, e267, hx267_0, hx267_1, hx267_2, hx267_3⟩ := at_T37 HR0.out (ji9) p267 q267
    cases e267
    replace hx267_0 := (HB.out.cell (World.block_lt_of_cell? w _ hx267_0)).trans hx267_0
    replace hx267_1 := (HB.out.cell (World.block_lt_of_cell? w _ hx267_1)).trans hx267_1
    replace hx267_2 := (HB.out.cell (World.block_lt_of_cell? w _ hx267_2)).trans hx267_2
    replace hx267_3 := (HB.out.cell (World.block_lt_of_cell? w _ hx267_3)).trans hx267_3
    replace p267 := eq_true p267
    replace q267 := eq_true q267
    have p268 : 0 ≤ (x4_1 : Int) := of_decide_eq_true as_
    have q268 : x4_1 < (l0.length : Int) := of_decide_eq_true as_
    obtain ⟨ad268, e268, hx268_0, hx268_1, hx268_2, hx268_3⟩ := at_T37 HR0.out x4_1 p268 q268
    obtain rfl : ad267 = ad268 := (by injection e268)
    replace hx268_0 := (HB.out.cell (World.block_lt_of_cell? w _ hx268_0)).trans hx268_0
    replace hx268_1 := (HB.out.cell (World.block_lt_of_cell? w _ hx268_1)).trans hx268_1
    replace hx268_2 := (HB.out.cell (World.block_lt_of_cell? w _ hx268_2)).trans hx268_2
    replace hx268_3 := (HB.out.cell (World.block_lt_of_cell? w _ hx268_3)).trans hx268_3
    replace p268 := eq_true p268
    replace q268 := eq_true q268
    go_wp2
    repeat (go_quiet (fail); try go_wp2)
    go_roundg k1
    case measure => have := HK1.out; omega
    case rel => exact ⟨(x3_1), (wrap64 (x4_1 + 1)), rs_, hH_, ⟨by have := HK1.out; omega⟩, ⟨r14_⟩, ⟨hB_⟩⟩
   rw [if_neg c13] at H
   have c13b0 := beq_eq_false_iff_ne.mpr c13
   have c13b1 := bne_iff_ne.mpr c13
   by_cases c14 : x3_1.length < 8796093022208
   rotate_left
   ·rw [if_neg c14] at H
    exact absurd H r17_
   rw [if_pos c14] at H
   have LMc14 := Aside0.mk c14
   clear c14
   obtain ⟨y270, hy270⟩ : ∃ y_ : List ByteArray, y_ = (x3_1 ++ [(rd_T37 l0 x4_1).f0]) := ⟨_, rfl⟩
   replace H : (qz.l0 k1 l0 y270 (wrap64 (x4_1 + 1))) = some r := by first | (rw [hy270]; with_reducible exact H) | (have H2_ := (Option.bind_some _ _).symm.trans H; rw [hy270]; with_reducible exact H2_) | (have H2_ := (Option.bind_some _ _).symm.trans H; with_reducible exact H2_) | with_reducible exact H | (rw [hy270]; exact H) | exact H
   have Ny270 := Aside0.mk hy270
   clear hy270
   have H' := Aside0.mk H
   clear H
   have p267 : 0 ≤ ((ji9) : Int) := of_decide_eq_true as_
   have q267 : (ji9) < (l0.length : Int) := of_decide_eq_true as_
   obtain ⟨ad267, e267, hx267_0, hx267_1, hx267_2, hx267_3⟩ := at_T37 HR0.out (ji9) p267 q267
   cases e267
   replace hx267_0 := (HB.out.cell (World.block_lt_of_cell? w _ hx267_0)).trans hx267_0
   replace hx267_1 := (HB.out.cell (World.block_lt_of_cell? w _ hx267_1)).trans hx267_1
   replace hx267_2 := (HB.out.cell (World.block_lt_of_cell? w _ hx267_2)).trans hx267_2
   replace hx267_3 := (HB.out.cell (World.block_lt_of_cell? w _ hx267_3)).trans hx267_3
   replace p267 := eq_true p267
   replace q267 := eq_true q267
   have p268 : 0 ≤ (x4_1 : Int) := of_decide_eq_true as_
   have q268 : x4_1 < (l0.length : Int) := of_decide_eq_true as_
   obtain ⟨ad268, e268, hx268_0, hx268_1, hx268_2, hx268_3⟩ := at_T37 HR0.out x4_1 p268 q268
   obtain rfl : ad267 = ad268 := (by injection e268)
   replace hx268_0 := (HB.out.cell (World.block_lt_of_cell? w _ hx268_0)).trans hx268_0
   replace hx268_1 := (HB.out.cell (World.block_lt_of_cell? w _ hx268_1)).trans hx268_1
   replace hx268_2 := (HB.out.cell (World.block_lt_of_cell? w _ hx268_2)).trans hx268_2
   replace hx268_3 := (HB.out.cell (World.block_lt_of_cell? w _ hx268_3)).trans hx268_3
   replace p268 := eq_true p268
   replace q268 := eq_true q268
   have p269 : 0 ≤ (x4_1 : Int) := of_decide_eq_true as_
   have q269 : x4_1 < (l0.length : Int) := of_decide_eq_true as_
   obtain ⟨ad269, e269, hx269_0, hx269_1, hx269_2, hx269_3⟩ := at_T37 HR0.out x4_1 p269 q269
   obtain rfl : ad267 = ad269 := (by injection e269)
   replace hx269_0 := (HB.out.cell (World.block_lt_of_cell? w _ hx269_0)).trans hx269_0
   replace hx269_1 := (HB.out.cell (World.block_lt_of_cell? w _ hx269_1)).trans hx269_1
   replace hx269_2 := (HB.out.cell (World.block_lt_of_cell? w _ hx269_2)).trans hx269_2
   replace hx269_3 := (HB.out.cell (World.block_lt_of_cell? w _ hx269_3)).trans hx269_3
   replace p269 := eq_true p269
   replace q269 := eq_true q269
   go_wp2_with (first | ((with_reducible refine gate_builtin (b := .append) (xs := #[.tmp 28, .tmp 34]) rfl ?_); at_builtin; refine Kd.R_append Kd.string (w0 := w) w.heap.size rfl (.tmp 28) (.tmp 34) 73 9 (.string ⟨#[]⟩) 16 rfl Try.underlying73 info9 rfl r24_ r18_ u3 x3_1 ((rd_T37 l0 x4_1).f0) [.string ((rd_T37 l0 x4_1).f0)] (fun _ => True) (fun _ => False) rfl rfl ?aP (fun _ hk => hk.elim) ?aF ?aO ?aB ?aS ?aL ?_; (case aP => exact rfl); (case aB => exact hB_); (case aF => exact (fun _ _ => trivial)); (case aO => exact r14_); (case aS => exact (below_size hB_)); (case aL => have := LMc14.out; omega); intro v271 w15 ho hb hg hat; rw [← Ny270.out] at ho; replace HB := Aside0.mk (hb); have HO272 := Aside0.mk (ho); clear HO_3; clear ho hb hg hat))
   repeat (go_quiet (fail); try go_wp2_with (first | ((with_reducible refine gate_builtin (b := .append) (xs := #[.tmp 28, .tmp 34]) rfl ?_); at_builtin; refine Kd.R_append Kd.string (w0 := w) w.heap.size rfl (.tmp 28) (.tmp 34) 73 9 (.string ⟨#[]⟩) 16 rfl Try.underlying73 info9 rfl r24_ r18_ u3 x3_1 ((rd_T37 l0 x4_1).f0) [.string ((rd_T37 l0 x4_1).f0)] (fun _ => True) (fun _ => False) rfl rfl ?aP (fun _ hk => hk.elim) ?aF ?aO ?aB ?aS ?aL ?_; (case aP => exact rfl); (case aB => exact hB_); (case aF => exact (fun _ _ => trivial)); (case aO => exact r14_); (case aS => exact (below_size hB_)); (case aL => have := LMc14.out; omega); intro v271 w15 ho hb hg hat; rw [← Ny270.out] at ho; replace HB := Aside0.mk (hb); have HO272 := Aside0.mk (ho); clear HO_3; clear ho hb hg hat)))
   go_roundg k1
   case measure => have := HK1.out; omega
   case rel => exact ⟨(y270), (wrap64 (x4_1 + 1)), rs_, hH_, ⟨by have := HK1.out; omega⟩, ⟨by (with_reducible repeat (first | apply Kd.R_alloc | apply Kd.R_drewN | apply Kd.R_drew)); exact HO272.out⟩, ⟨hB_⟩⟩

end Go.Proofs.Ytgdkikkjaofbfaa.P
