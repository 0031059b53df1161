-- Printed by a program of this session's own (wip/tools/pprint.sh, over the kit's print, with given contracts): not typed by hand.
import Derived.Test.YtgdkikkjaofbfaaPx0
import Derived.Test.YtgdkikkjaofbfaaPx15
namespace Go.Proofs.Ytgdkikkjaofbfaa.P
open Go.RowKit Go.Proofs.YtgdkikkjaofbfaaW.PrintWords Go.Proofs.YtgdkikkjaofbfaaW.PrintLast Go.Proofs.YtgdkikkjaofbfaaW.PrintMore
attribute [local go_sem] max2_int min2_int max_two min_two max_three min_three max_four min_four   -- for this text's walks alone
set_option linter.unusedVariables false
set_option linter.unusedSimpArgs false
-- SQUEEZED4
-- SQUEEZED3

/-! ### qg: function 35 -/
mutual
def qg.j0 : Nat → List (S37) → Bool → Option (ByteArray × Int)
 | 0, _, _ => none
 | k + 1, x0, x22 => if x22 = true then (some ((⟨#[]⟩ : ByteArray), 2)) else (qg.l0 k x0 (⟨#[]⟩ : ByteArray) (⟨#[]⟩ : ByteArray) 0)
def qg.l0 : Nat → List (S37) → ByteArray → ByteArray → Int → Option (ByteArray × Int)
 | 0, _, _, _, _ => none
 | k + 1, x0, x4, x5, x6 => if x6 < (x0.length : Int) then (if 0 ≤ x6 then ((qq1.f ((rd_T37 x0 x6).f0) ((rd_T37 x0 x6).f1) ((rd_T37 x0 x6).f2) ((rd_T37 x0 x6).f3)).bind fun t228 => (if t228 = true then (if (Int.tmod x6 4) = 0 then ((qw.f k (IntKind.u64.wrap ((x4.size : Int)))).bind fun t229 => (if x5.size + t229.size ≤ 9223372036854775807 then (qg.j2 k x0 x4 (x5 ++ t229) x6 0 ((rd_T37 x0 x6).f0) ((rd_T37 x0 x6).f1) ((rd_T37 x0 x6).f2) ((rd_T37 x0 x6).f3)) else (none))) else (if 0 ≤ (wrap64 (x6 - 1)) then (if (wrap64 (x6 - 1)) < (x0.length : Int) then ((qD.f k ((rd_T37 x0 (wrap64 (x6 - 1))).f0) ((rd_T37 x0 x6).f0)).bind fun t231 => (qg.j2 k x0 x4 x5 x6 t231 ((rd_T37 x0 x6).f0) ((rd_T37 x0 x6).f1) ((rd_T37 x0 x6).f2) ((rd_T37 x0 x6).f3))) else (none)) else (none))) else (some ((⟨#[]⟩ : ByteArray), 2)))) else (none)) else (if x4.size + x5.size ≤ 9223372036854775807 then ((qw.f k (IntKind.u64.wrap ((x0.length : Int)))).bind fun t225 => (if (x4 ++ x5).size + t225.size ≤ 9223372036854775807 then (some ((x4 ++ x5) ++ t225, 0)) else (none))) else (none))
def qg.j2 : Nat → List (S37) → ByteArray → ByteArray → Int → Int → ByteArray → Int → Bool → ByteArray → Option (ByteArray × Int)
 | 0, _, _, _, _, _, _, _, _, _ => none
 | k + 1, x0, x4, x5, x6, x8, x228000, x228001, x228002, x228003 => if x228002 = true then (qg.j3 k x0 x4 x5 x6 x8 (⟨#[1]⟩ : ByteArray) x228000 x228001 x228002 x228003) else (qg.j3 k x0 x4 x5 x6 x8 (⟨#[0]⟩ : ByteArray) x228000 x228001 x228002 x228003)
def qg.j3 : Nat → List (S37) → ByteArray → ByteArray → Int → Int → ByteArray → ByteArray → Int → Bool → ByteArray → Option (ByteArray × Int)
 | 0, _, _, _, _, _, _, _, _, _, _ => none
 | k + 1, x0, x4, x5, x6, x8, x9, x228000, x228001, x228002, x228003 => (qt.f k (IntKind.u64.wrap (x8))).bind fun t232 => (if 0 ≤ x8 then (if x8 ≤ (x228000.size : Int) then ((qT.f k (x228000.extract (x8 : Int).toNat x228000.size)).bind fun t233 => (if t232.size + t233.size ≤ 9223372036854775807 then ((qt.f k x228001).bind fun t234 => (if (t232 ++ t233).size + t234.size ≤ 9223372036854775807 then (if ((t232 ++ t233) ++ t234).size + x9.size ≤ 9223372036854775807 then ((qT.f k x228003).bind fun t235 => (if (((t232 ++ t233) ++ t234) ++ x9).size + t235.size ≤ 9223372036854775807 then (if x4.size + ((((t232 ++ t233) ++ t234) ++ x9) ++ t235).size ≤ 9223372036854775807 then (qg.l0 k x0 (x4 ++ ((((t232 ++ t233) ++ t234) ++ x9) ++ t235)) x5 (wrap64 (x6 + 1))) else (none)) else (none))) else (none)) else (none))) else (none))) else (none)) else (none))
end
def qg.f (k : Nat) (l0 : List (S37)) : Option (ByteArray × Int) := if (l0.length : Int) < 1 then (qg.j0 k l0 true) else (if (l0.length : Int) > 32 then (qg.j0 k l0 true) else ((qB.f k l0).bind fun t224 => (qg.j0 k l0 (!t224))))
theorem qg.mono_l : ∀ k, (∀ y0 y1, LeO (qg.j0 k y0 y1) (qg.j0 (k + 1) y0 y1)) ∧ (∀ y0 y1 y2 y3, LeO (qg.l0 k y0 y1 y2 y3) (qg.l0 (k + 1) y0 y1 y2 y3)) ∧ (∀ y0 y1 y2 y3 y4 y5 y6 y7 y8, LeO (qg.j2 k y0 y1 y2 y3 y4 y5 y6 y7 y8) (qg.j2 (k + 1) y0 y1 y2 y3 y4 y5 y6 y7 y8)) ∧ (∀ y0 y1 y2 y3 y4 y5 y6 y7 y8 y9, LeO (qg.j3 k y0 y1 y2 y3 y4 y5 y6 y7 y8 y9) (qg.j3 (k + 1) y0 y1 y2 y3 y4 y5 y6 y7 y8 y9))
 | 0 => ⟨fun _ _ r h => by simp [qg.j0] at h, fun _ _ _ _ r h => by simp [qg.l0] at h, fun _ _ _ _ _ _ _ _ _ r h => by simp [qg.j2] at h, fun _ _ _ _ _ _ _ _ _ _ r h => by simp [qg.j3] at h⟩
 | k + 1 => by
  obtain ⟨ih0, ih1, ih2, ih3⟩ := qg.mono_l k
  refine ⟨?_, ?_, ?_, ?_⟩
  ·intro y0 y1
   unfold qg.j0
   repeat' first
   | (with_reducible exact ih0 _ _)
   | (with_reducible exact ih1 _ _ _ _)
   | (with_reducible exact ih2 _ _ _ _ _ _ _ _ _)
   | (with_reducible exact ih3 _ _ _ _ _ _ _ _ _ _)
   | (with_reducible exact LeO.refl _)
   | (with_reducible exact LeO.none _)
   | (with_reducible refine LeO.ite ?_ ?_)
   | (with_reducible refine LeO.bind ?_ (fun _ => ?_))
   | exact ih0 _ _
   | exact ih1 _ _ _ _
   | exact ih2 _ _ _ _ _ _ _ _ _
   | exact ih3 _ _ _ _ _ _ _ _ _ _
   | exact qw.mono _ _
   | exact qt.mono _ _
   | exact qT.mono _ _
   | exact qB.mono _ _
   | exact qD.mono _ _ _
   | exact LeO.none _
   | refine LeO.ite ?_ ?_
   | refine LeO.bind ?_ (fun _ => ?_)
  ·intro y0 y1 y2 y3
   unfold qg.l0
   repeat' first
   | (with_reducible exact ih0 _ _)
   | (with_reducible exact ih1 _ _ _ _)
   | (with_reducible exact ih2 _ _ _ _ _ _ _ _ _)
   | (with_reducible exact ih3 _ _ _ _ _ _ _ _ _ _)
   | (with_reducible exact LeO.refl _)
   | (with_reducible exact LeO.none _)
   | (with_reducible refine LeO.ite ?_ ?_)
   | (with_reducible refine LeO.bind ?_ (fun _ => ?_))
   | exact ih0 _ _
   | exact ih1 _ _ _ _
   | exact ih2 _ _ _ _ _ _ _ _ _
   | exact ih3 _ _ _ _ _ _ _ _ _ _
   | exact qw.mono _ _
   | exact qt.mono _ _
   | exact qT.mono _ _
   | exact qB.mono _ _
   | exact qD.mono _ _ _
   | exact LeO.none _
   | refine LeO.ite ?_ ?_
   | refine LeO.bind ?_ (fun _ => ?_)
  ·intro y0 y1 y2 y3 y4 y5 y6 y7 y8
   unfold qg.j2
   repeat' first
   | (with_reducible exact ih0 _ _)
   | (with_reducible exact ih1 _ _ _ _)
   | (with_reducible exact ih2 _ _ _ _ _ _ _ _ _)
   | (with_reducible exact ih3 _ _ _ _ _ _ _ _ _ _)
   | (with_reducible exact LeO.refl _)
   | (with_reducible exact LeO.none _)
   | (with_reducible refine LeO.ite ?_ ?_)
   | (with_reducible refine LeO.bind ?_ (fun _ => ?_))
   | exact ih0 _ _
   | exact ih1 _ _ _ _
   | exact ih2 _ _ _ _ _ _ _ _ _
   | exact ih3 _ _ _ _ _ _ _ _ _ _
   | exact qw.mono _ _
   | exact qt.mono _ _
   | exact qT.mono _ _
   | exact qB.mono _ _
   | exact qD.mono _ _ _
   | exact LeO.none _
   | refine LeO.ite ?_ ?_
   | refine LeO.bind ?_ (fun _ => ?_)
  ·intro y0 y1 y2 y3 y4 y5 y6 y7 y8 y9
   unfold qg.j3
   repeat' first
   | (with_reducible exact ih0 _ _)
   | (with_reducible exact ih1 _ _ _ _)
   | (with_reducible exact ih2 _ _ _ _ _ _ _ _ _)
   | (with_reducible exact ih3 _ _ _ _ _ _ _ _ _ _)
   | (with_reducible exact LeO.refl _)
   | (with_reducible exact LeO.none _)
   | (with_reducible refine LeO.ite ?_ ?_)
   | (with_reducible refine LeO.bind ?_ (fun _ => ?_))
   | exact ih0 _ _
   | exact ih1 _ _ _ _
   | exact ih2 _ _ _ _ _ _ _ _ _
   | exact ih3 _ _ _ _ _ _ _ _ _ _
   | exact qw.mono _ _
   | exact qt.mono _ _
   | exact qT.mono _ _
   | exact qB.mono _ _
   | exact qD.mono _ _ _
   | exact LeO.none _
   | refine LeO.ite ?_ ?_
   | refine LeO.bind ?_ (fun _ => ?_)
theorem qg.mono : ∀ a0 k, LeO (qg.f k a0) (qg.f (k + 1) a0) := by
 intro a0 k
 obtain ⟨ih0, ih1, ih2, ih3⟩ := qg.mono_l k
 unfold qg.f
 repeat' first
   | (with_reducible exact ih0 _ _)
   | (with_reducible exact ih1 _ _ _ _)
   | (with_reducible exact ih2 _ _ _ _ _ _ _ _ _)
   | (with_reducible exact ih3 _ _ _ _ _ _ _ _ _ _)
   | (with_reducible exact LeO.refl _)
   | (with_reducible exact LeO.none _)
   | (with_reducible refine LeO.ite ?_ ?_)
   | (with_reducible refine LeO.bind ?_ (fun _ => ?_))
   | exact ih0 _ _
   | exact ih1 _ _ _ _
   | exact ih2 _ _ _ _ _ _ _ _ _
   | exact ih3 _ _ _ _ _ _ _ _ _ _
   | exact qw.mono _ _
   | exact qt.mono _ _
   | exact qT.mono _ _
   | exact qB.mono _ _
   | exact qD.mono _ _ _
   | exact LeO.none _
   | refine LeO.ite ?_ ?_
   | refine LeO.bind ?_ (fun _ => ?_)
def qg.T14 : Bool × List (List Nat × List Nat) := (true, [([], []), ([], []), ([1], [1]), ([0, 2], [0, 2]), ([3], [3]), ([4], [4]), ([], []), ([6], [6]), ([5, 7], [5, 7]), ([8, 8, 0, 1, 2, 3, 4, 5, 6, 7, 8], [8])])
def qg.B14 : List Nat := [0, 0, 2, 7, 15, 31, 0, 64, 255, 511]
theorem qg.tab14 : rtab .any (opsOf Try.f35 14) = qg.T14 := by kernel_rfl
theorem qg.bits14 : waitsOk qg.T14.2 qg.B14 = true := by kernel_rfl
def qg.T18 : Bool × List (List Nat × List Nat) := (true, [([], []), ([], []), ([1], [1]), ([2], [2]), ([], []), ([4], [4]), ([], []), ([5, 6], [5, 6]), ([7, 3], [7]), ([3, 8], [3, 8]), ([], []), ([10], [10]), ([11, 8], [11]), ([9, 12], [9, 12]), ([], []), ([13, 14], [13, 14]), ([], []), ([16], [16]), ([17, 12], [17]), ([15, 18], [15, 18]), ([0, 19], [0, 19]), ([20, 18, 0, 1, 2, 3, 4, 5, 6, 7, 8, 9, 10, 11, 12, 13, 14, 15, 16, 17, 18, 19, 20], [0, 20])])
def qg.B18 : List Nat := [0, 0, 2, 6, 0, 16, 0, 112, 254, 510, 0, 1024, 3582, 8190, 0, 32766, 0, 65536, 204286, 524286, 1048575, 2097151]
theorem qg.tab18 : rtab .any (opsOf Try.f35 18) = qg.T18 := by kernel_rfl
theorem qg.bits18 : waitsOk qg.T18.2 qg.B18 = true := by kernel_rfl
set_option maxHeartbeats 8000000 in
set_option maxRecDepth 100000 in
theorem qg.calls (k : Nat) (A0 : Option Addr) (c0 : Nat) (l0 : List (S37)) (r1 : ByteArray) (r2 : Int) (w : World) (hr0 : Kd.C k37 w A0 l0.length l0) (hc0 : l0.length ≤ c0) (h : qg.f k l0 = some (r1, r2)) :
  Calls Try.prog 35 #[.slice A0 l0.length c0] w fun e w' => e = .returned (.tuple #[.string r1, .int .i64 r2]) ∧ Below w.heap.size w w' := by
 have hu37 := Try.underlying37
 have HR0 := Aside0.mk hr0
 have HC0 := Aside0.mk hc0
 clear hr0 hc0
 have HB := Aside0.mk (Below.refl w.heap.size w)
 have H : (if (l0.length : Int) < 1 then (qg.j0 k l0 true) else (if (l0.length : Int) > 32 then (qg.j0 k l0 true) else ((qB.f k l0).bind fun t224 => (qg.j0 k l0 (!t224))))) = some (r1, r2) := h
 clear h
 have HC2 := Aside0.mk H
 clear H
 go_enter Try.func35, Try.ntmps35
 go_upto_region 1 with (fail)
 go_cut [22] (fun v22 wc => ∃ (kq : Nat) (x22_1 : Bool), v22 = .bool x22_1 ∧ Aside0 (qg.j0 kq l0 x22_1 = some (r1, r2)) ∧ Aside0 (kq ≤ k) ∧ Aside0 (Below w.heap.size w wc))
 case first =>
  have H := HC2.out
  clear HC2
  by_cases c3 : (l0.length : Int) < 1
  ·rw [if_pos c3] at H
   have c3b0 := decide_eq_true c3
   have c3b1 : decide (l0.length < 1) = true := decide_eq_true r18_
   clear c3
   (first | rw [c3b0] | (simp only [i64_w, i32_w]; rw [c3b0]) | skip)
   have H' := Aside0.mk H
   clear H
   go_wp2
   go_meet
   case rel => exact ⟨_, (true), rs_, hH_, ⟨by first | omega | exact Nat.le_refl _⟩, ⟨hB_⟩⟩
  rw [if_neg c3] at H
  have c3b0 := decide_eq_false c3
  have c3b1 : decide (l0.length < 1) = false := decide_eq_false r18_
  clear c3
  (first | rw [c3b0] | (simp only [i64_w, i32_w]; rw [c3b0]) | skip)
  by_cases c4 : (l0.length : Int) > 32
  ·rw [if_pos c4] at H
   have c4b0 : decide (32 < (l0.length : Int)) = true := decide_eq_true c4
   have c4b1 : decide (32 < l0.length) = true := decide_eq_true r18_
   clear c4
   have H' := Aside0.mk H
   clear H
   go_wp2
   go_meet
   case rel => exact ⟨_, (true), rs_, hH_, ⟨by first | omega | exact Nat.le_refl _⟩, ⟨hB_⟩⟩
  rw [if_neg c4] at H
  have c4b0 : decide (32 < (l0.length : Int)) = false := decide_eq_false c4
  have c4b1 : decide (32 < l0.length) = false := decide_eq_false r18_
  clear c4
  replace H := bs_ H
  obtain ⟨t224, A50, H⟩ := H
  try dsimp only at H
  have A5 := Aside0.mk A50
  clear A50
  have H' := Aside0.mk H
  clear H
  go_wp2_with (first | (go_at_call 34; (with_reducible refine (qB.calls k _ _ l0 t224 _ ?side1 ?side2 A5.out).mono ?_); (case side1 => repeat (first | exact (Kd.C_below HR0.out HB.out) | (with_reducible refine Kd.C_alloc ?_ _) | (with_reducible refine Kd.C_drewN ?_ _) | (with_reducible refine Kd.C_drew ?_))); (case side2 => exact HC0.out); rintro e w' ⟨rfl, ⟨nd, rfl⟩⟩))
  go_meet
  case rel => exact ⟨_, (!t224), rs_, hH_, ⟨by first | omega | exact Nat.le_refl _⟩, ⟨hB_⟩⟩
 case rest =>
  clear HC2
  obtain ⟨kq, x22_1, rfl, HA, HJ1, HB⟩ := hcut
  cases kq with
  | zero => exact absurd HA.out (by simp [qg.j0])
  | succ kj1 =>
   have H := HA.out
   clear HA
   simp only [qg.j0] at H
   by_cases c6 : x22_1 = true
   ·subst c6
    rw [if_pos rfl] at H
    simp only [Option.some.injEq, Prod.mk.injEq] at H
    obtain ⟨rfl, rfl⟩ := H
    go_wp2
    go_ret2
    exact ⟨rf_, hB_⟩
   replace c6 := Bool.eq_false_iff.mpr c6
   subst c6
   rw [if_neg ff_] at H
   have H' := Aside0.mk H
   clear H
   go_wp2
   go_loopg [4, 5, 6] kj1 (fun kq v4 v5 v6 w' => ∃ (x4_2 : ByteArray) (x5_2 : ByteArray) (x6_2 : Int), v4 = .string x4_2 ∧ v5 = .string x5_2 ∧ v6 = .int .i64 x6_2 ∧ Aside0 (qg.l0 kq l0 x4_2 x5_2 x6_2 = some (r1, r2)) ∧ Aside0 (kq ≤ kj1) ∧ Aside0 (Below w.heap.size w w'))
   case atStart => exact ⟨((⟨#[]⟩ : ByteArray)), ((⟨#[]⟩ : ByteArray)), (0), rs_, rs_, rs_, H', ⟨Nat.le_refl _⟩, ⟨hB_⟩⟩
   case round =>
    clear H'
    try clear c6
    obtain ⟨x4_2, x5_2, x6_2, rfl, rfl, rfl, HA, HK2, HB⟩ := hrel
    cases gk with
    | zero => exact absurd HA.out (by simp [qg.l0])
    | succ k2 =>
     have H := HA.out
     clear HA
     simp only [qg.l0] at H
     by_cases c7 : x6_2 < (l0.length : Int)
     rotate_left
     ·rw [if_neg c7] at H
      have c7b0 := decide_eq_false c7
      clear c7
      by_cases c46 : x4_2.size + x5_2.size ≤ 9223372036854775807
      rotate_left
      ·rw [if_neg c46] at H
       exact absurd H r17_
      rw [if_pos c46] at H
      have c46b0 := eq_true c46
      have c46b1 : decide (x4_2.size + x5_2.size ≤ 9223372036854775807) = true := decide_eq_true c46
      try have c46b2 : (9223372036854775807 < x4_2.size + x5_2.size) = False := eq_false (Nat.not_lt.2 c46)
      try (have c46b3 := c46b2; simp only [ByteArray.size_append] at c46b3)
      try (have c46b4 := c46b2; simp only [ByteArray.size_extract, ByteArray.size_append, Nat.sub_zero] at c46b4)
      replace H := bs_ H
      obtain ⟨t225, A470, H⟩ := H
      try dsimp only at H
      have A47 := Aside0.mk A470
      clear A470
      by_cases c48 : (x4_2 ++ x5_2).size + t225.size ≤ 9223372036854775807
      rotate_left
      ·rw [if_neg c48] at H
       exact absurd H r17_
      rw [if_pos c48] at H
      have c48b0 := eq_true c48
      have c48b1 : decide ((x4_2 ++ x5_2).size + t225.size ≤ 9223372036854775807) = true := decide_eq_true c48
      try have c48b2 : (9223372036854775807 < (x4_2 ++ x5_2).size + t225.size) = False := eq_false (Nat.not_lt.2 c48)
      try (have c48b3 := c48b2; simp only [ByteArray.size_append] at c48b3)
      try (have c48b4 := c48b2; simp only [ByteArray.size_extract, ByteArray.size_append, Nat.sub_zero] at c48b4)
      simp only [Option.some.injEq, Prod.mk.injEq] at H
      obtain ⟨rfl, rfl⟩ := H
      go_wp2_with (first | ((with_reducible refine gate_callee (f := 40) rfl ?_); refine goesL_ (some 83) rfl rfl Try.func40 r2_ rfl #[.int .u64 (IntKind.u64.wrap ((l0.length : Int)))] rfl hA_ ?_; (with_reducible refine (qw.calls k2 (IntKind.u64.wrap ((l0.length : Int))) t225 _ A47.out).mono ?_); rintro e w49 ⟨rfl, hb⟩; refine ⟨_, rfl, ?_⟩; replace HB := Aside0.mk (below_step hB_ hb); clear hb A47))
      go_ret2
      exact ⟨rf_, hB_⟩
     rw [if_pos c7] at H
     have c7b0 := decide_eq_true c7
     clear c7
     by_cases c8 : 0 ≤ x6_2
     rotate_left
     ·rw [if_neg c8] at H
      exact absurd H r17_
     rw [if_pos c8] at H
     have c8b0 := decide_eq_true c8
     clear c8
     replace H := bs_ H
     obtain ⟨t228, A90, H⟩ := H
     try dsimp only at H
     have A9 := Aside0.mk A90
     clear A90
     by_cases c10 : t228 = true
     rotate_left
     ·replace c10 := Bool.eq_false_iff.mpr c10
      subst c10
      rw [if_neg ff_] at H
      simp only [Option.some.injEq, Prod.mk.injEq] at H
      obtain ⟨rfl, rfl⟩ := H
      have p226 : 0 ≤ (x6_2 : Int) := of_decide_eq_true as_
      have q226 : x6_2 < (l0.length : Int) := of_decide_eq_true as_
      obtain ⟨ad226, e226, hx226_0, hx226_1, hx226_2, hx226_3⟩ := at_T37 HR0.out x6_2 p226 q226
      cases e226
      replace hx226_0 := (HB.out.cell (World.block_lt_of_cell? w _ hx226_0)).trans hx226_0
      replace hx226_1 := (HB.out.cell (World.block_lt_of_cell? w _ hx226_1)).trans hx226_1
      replace hx226_2 := (HB.out.cell (World.block_lt_of_cell? w _ hx226_2)).trans hx226_2
      replace hx226_3 := (HB.out.cell (World.block_lt_of_cell? w _ hx226_3)).trans hx226_3
      replace p226 := eq_true p226
      replace q226 := eq_true q226
      go_wp2_with (first | ((with_reducible refine gate_dst (N := 7) rfl ?_); (try (refine gate_guard r37_ ?_; dsimp only)); refine box_event ?hg (N := 7) ?hd (cs := #[.string (⟨#[]⟩ : ByteArray), .int .u64 0, .bool false, .string (⟨#[]⟩ : ByteArray)]) (t := 37) ?hr ?_; (case hd => rfl); (case hg => rfl); (case hr => first | (go_simp; done) | (go_simp; rfl)); intro gb227 hg w43 hbox hb; have BK227 := Aside0.mk (hbox); have GW227 := Aside0.mk ((by rw [hg]; exact (below_size hB_) : w.heap.size ≤ gb227)); have GE227 := Aside0.mk ((by rw [hg]; exact (below_size hB_) : w.heap.size ≤ gb227)); replace HB := Aside0.mk (below_step hB_ hb); clear hb hbox hg; have hcz44_0 : w43.cell? ⟨gb227, 0, none⟩ = some (.string (⟨#[]⟩ : ByteArray)) := (blk_cell BK227.out 0).trans rfl; have hcz44_1 : w43.cell? ⟨gb227, 1, none⟩ = some (.int .u64 0) := (blk_cell BK227.out 1).trans rfl; have hcz44_2 : w43.cell? ⟨gb227, 2, none⟩ = some (.bool false) := (blk_cell BK227.out 2).trans rfl; have hcz44_3 : w43.cell? ⟨gb227, 3, none⟩ = some (.string (⟨#[]⟩ : ByteArray)) := (blk_cell BK227.out 3).trans rfl; have hfz44_0 := blk_frozen BK227.out 0; have hfz44_1 := blk_frozen BK227.out 1; have hfz44_2 := blk_frozen BK227.out 2; have hfz44_3 := blk_frozen BK227.out 3) | ((with_reducible refine gate_callee (f := 61) rfl ?_); refine goesL_ (some 34) rfl rfl Try.func61 r2_ rfl #[.agg #[.string ((rd_T37 l0 x6_2).f0), .int .u64 ((rd_T37 l0 x6_2).f1), .bool ((rd_T37 l0 x6_2).f2), .string ((rd_T37 l0 x6_2).f3)]] rfl hA_ ?_; (with_reducible refine (qq1.calls ((rd_T37 l0 x6_2).f0) ((rd_T37 l0 x6_2).f1) ((rd_T37 l0 x6_2).f2) ((rd_T37 l0 x6_2).f3) false _ A9.out).mono ?_); rintro e w45 ⟨rfl, hb⟩; refine ⟨_, rfl, ?_⟩; replace BK227 := Aside0.mk (blk_below (g := gb227) (o := .cells #[.string ((rd_T37 l0 x6_2).f0), .int .u64 ((rd_T37 l0 x6_2).f1), .bool ((rd_T37 l0 x6_2).f2), .string ((rd_T37 l0 x6_2).f3)] 37 (0, 0)) (by (with_reducible repeat (first | refine blk_drewN ?_ _ | refine blk_drew ?_ | refine blk_alloc ?_ _)); refine blk_put (cs := #[.string ((rd_T37 l0 x6_2).f0), .int .u64 ((rd_T37 l0 x6_2).f1), .bool ((rd_T37 l0 x6_2).f2), .string (⟨#[]⟩ : ByteArray)]) ?_ 3 _ rfl; (with_reducible repeat (first | refine blk_drewN ?_ _ | refine blk_drew ?_ | refine blk_alloc ?_ _)); refine blk_put (cs := #[.string ((rd_T37 l0 x6_2).f0), .int .u64 ((rd_T37 l0 x6_2).f1), .bool false, .string (⟨#[]⟩ : ByteArray)]) ?_ 2 _ rfl; (with_reducible repeat (first | refine blk_drewN ?_ _ | refine blk_drew ?_ | refine blk_alloc ?_ _)); refine blk_put (cs := #[.string ((rd_T37 l0 x6_2).f0), .int .u64 0, .bool false, .string (⟨#[]⟩ : ByteArray)]) ?_ 1 _ rfl; (with_reducible repeat (first | refine blk_drewN ?_ _ | refine blk_drew ?_ | refine blk_alloc ?_ _)); refine blk_put (cs := #[.string (⟨#[]⟩ : ByteArray), .int .u64 0, .bool false, .string (⟨#[]⟩ : ByteArray)]) ?_ 0 _ rfl; (with_reducible repeat (first | refine blk_drewN ?_ _ | refine blk_drew ?_ | refine blk_alloc ?_ _)); exact BK227.out) hb); replace HB := Aside0.mk (below_step r13_ hb); clear hb A9))
      go_ret2
      exact ⟨rf_, r13_⟩
     subst c10
     rw [if_pos rfl] at H
     have HC11 := Aside0.mk H
     clear H
     have p226 : 0 ≤ (x6_2 : Int) := of_decide_eq_true as_
     have q226 : x6_2 < (l0.length : Int) := of_decide_eq_true as_
     obtain ⟨ad226, e226, hx226_0, hx226_1, hx226_2, hx226_3⟩ := at_T37 HR0.out x6_2 p226 q226
     cases e226
     replace hx226_0 := (HB.out.cell (World.block_lt_of_cell? w _ hx226_0)).trans hx226_0
     replace hx226_1 := (HB.out.cell (World.block_lt_of_cell? w _ hx226_1)).trans hx226_1
     replace hx226_2 := (HB.out.cell (World.block_lt_of_cell? w _ hx226_2)).trans hx226_2
     replace hx226_3 := (HB.out.cell (World.block_lt_of_cell? w _ hx226_3)).trans hx226_3
     replace p226 := eq_true p226
     replace q226 := eq_true q226
     go_upto_if 38 with (first | ((with_reducible refine gate_dst (N := 7) rfl ?_); (try (refine gate_guard r37_ ?_; dsimp only)); refine box_event ?hg (N := 7) ?hd (cs := #[.string (⟨#[]⟩ : ByteArray), .int .u64 0, .bool false, .string (⟨#[]⟩ : ByteArray)]) (t := 37) ?hr ?_; (case hd => rfl); (case hg => rfl); (case hr => first | (go_simp; done) | (go_simp; rfl)); intro gb227 hg w12 hbox hb; have BK227 := Aside0.mk (hbox); have GW227 := Aside0.mk ((by rw [hg]; exact (below_size hB_) : w.heap.size ≤ gb227)); have GE227 := Aside0.mk ((by rw [hg]; exact (below_size hB_) : w.heap.size ≤ gb227)); replace HB := Aside0.mk (below_step hB_ hb); clear hb hbox hg; have hcz13_0 : w12.cell? ⟨gb227, 0, none⟩ = some (.string (⟨#[]⟩ : ByteArray)) := (blk_cell BK227.out 0).trans rfl; have hcz13_1 : w12.cell? ⟨gb227, 1, none⟩ = some (.int .u64 0) := (blk_cell BK227.out 1).trans rfl; have hcz13_2 : w12.cell? ⟨gb227, 2, none⟩ = some (.bool false) := (blk_cell BK227.out 2).trans rfl; have hcz13_3 : w12.cell? ⟨gb227, 3, none⟩ = some (.string (⟨#[]⟩ : ByteArray)) := (blk_cell BK227.out 3).trans rfl; have hfz13_0 := blk_frozen BK227.out 0; have hfz13_1 := blk_frozen BK227.out 1; have hfz13_2 := blk_frozen BK227.out 2; have hfz13_3 := blk_frozen BK227.out 3) | ((with_reducible refine gate_callee (f := 61) rfl ?_); refine goesL_ (some 34) rfl rfl Try.func61 r2_ rfl #[.agg #[.string ((rd_T37 l0 x6_2).f0), .int .u64 ((rd_T37 l0 x6_2).f1), .bool ((rd_T37 l0 x6_2).f2), .string ((rd_T37 l0 x6_2).f3)]] rfl hA_ ?_; (with_reducible refine (qq1.calls ((rd_T37 l0 x6_2).f0) ((rd_T37 l0 x6_2).f1) ((rd_T37 l0 x6_2).f2) ((rd_T37 l0 x6_2).f3) true _ A9.out).mono ?_); rintro e w14 ⟨rfl, hb⟩; refine ⟨_, rfl, ?_⟩; replace BK227 := Aside0.mk (blk_below (g := gb227) (o := .cells #[.string ((rd_T37 l0 x6_2).f0), .int .u64 ((rd_T37 l0 x6_2).f1), .bool ((rd_T37 l0 x6_2).f2), .string ((rd_T37 l0 x6_2).f3)] 37 (0, 0)) (by (with_reducible repeat (first | refine blk_drewN ?_ _ | refine blk_drew ?_ | refine blk_alloc ?_ _)); refine blk_put (cs := #[.string ((rd_T37 l0 x6_2).f0), .int .u64 ((rd_T37 l0 x6_2).f1), .bool ((rd_T37 l0 x6_2).f2), .string (⟨#[]⟩ : ByteArray)]) ?_ 3 _ rfl; (with_reducible repeat (first | refine blk_drewN ?_ _ | refine blk_drew ?_ | refine blk_alloc ?_ _)); refine blk_put (cs := #[.string ((rd_T37 l0 x6_2).f0), .int .u64 ((rd_T37 l0 x6_2).f1), .bool false, .string (⟨#[]⟩ : ByteArray)]) ?_ 2 _ rfl; (with_reducible repeat (first | refine blk_drewN ?_ _ | refine blk_drew ?_ | refine blk_alloc ?_ _)); refine blk_put (cs := #[.string ((rd_T37 l0 x6_2).f0), .int .u64 0, .bool false, .string (⟨#[]⟩ : ByteArray)]) ?_ 1 _ rfl; (with_reducible repeat (first | refine blk_drewN ?_ _ | refine blk_drew ?_ | refine blk_alloc ?_ _)); refine blk_put (cs := #[.string (⟨#[]⟩ : ByteArray), .int .u64 0, .bool false, .string (⟨#[]⟩ : ByteArray)]) ?_ 0 _ rfl; (with_reducible repeat (first | refine blk_drewN ?_ _ | refine blk_drew ?_ | refine blk_alloc ?_ _)); exact BK227.out) hb); replace HB := Aside0.mk (below_step r13_ hb); clear hb A9))
     (try simp only [Act.put, sp_])
     go_cut [5, 8] (fun v5 v8 wc => ∃ (kq : Nat) (x5_10 : ByteArray) (x8_10 : Int), v5 = .string x5_10 ∧ v8 = .int .i64 x8_10 ∧ Aside0 (qg.j2 kq l0 x4_2 x5_10 x6_2 x8_10 ((rd_T37 l0 x6_2).f0) ((rd_T37 l0 x6_2).f1) ((rd_T37 l0 x6_2).f2) ((rd_T37 l0 x6_2).f3) = some (r1, r2)) ∧ Aside0 (kq ≤ k2) ∧ Aside0 (wc.heap[gb227]? = some (.cells #[.string ((rd_T37 l0 x6_2).f0), .int .u64 ((rd_T37 l0 x6_2).f1), .bool ((rd_T37 l0 x6_2).f2), .string ((rd_T37 l0 x6_2).f3)] 37 (0, 0))) ∧ Aside0 (Below w.heap.size w wc))
     case first =>
      have H := HC11.out
      clear HC11
      by_cases c15 : (Int.tmod x6_2 4) = 0
      ·rw [if_pos c15] at H
       have c15b0 := beq_iff_eq.mpr c15
       have c15b1 := bne_eq_false_iff_eq.mpr c15
       clear c15
       (first | rw [c15b0] | (simp only [i64_w, i32_w]; rw [c15b0]) | skip)
       replace H := bs_ H
       obtain ⟨t229, A160, H⟩ := H
       try dsimp only at H
       have A16 := Aside0.mk A160
       clear A160
       by_cases c17 : x5_2.size + t229.size ≤ 9223372036854775807
       rotate_left
       ·rw [if_neg c17] at H
        exact absurd H r17_
       rw [if_pos c17] at H
       have c17b0 := eq_true c17
       have c17b1 : decide (x5_2.size + t229.size ≤ 9223372036854775807) = true := decide_eq_true c17
       try have c17b2 : (9223372036854775807 < x5_2.size + t229.size) = False := eq_false (Nat.not_lt.2 c17)
       try (have c17b3 := c17b2; simp only [ByteArray.size_append] at c17b3)
       try (have c17b4 := c17b2; simp only [ByteArray.size_extract, ByteArray.size_append, Nat.sub_zero] at c17b4)
       have H' := Aside0.mk H
       clear H
       go_wp2_with (first | ((with_reducible refine gate_callee (f := 40) rfl ?_); refine goesL_ (some 43) rfl rfl Try.func40 r2_ rfl #[.int .u64 (IntKind.u64.wrap ((x4_2.size : Int)))] rfl hA_ ?_; (with_reducible refine (qw.calls k2 (IntKind.u64.wrap ((x4_2.size : Int))) t229 _ A16.out).mono ?_); rintro e w18 ⟨rfl, hb⟩; refine ⟨_, rfl, ?_⟩; replace BK227 := Aside0.mk (blk_below (g := gb227) (o := .cells #[.string ((rd_T37 l0 x6_2).f0), .int .u64 ((rd_T37 l0 x6_2).f1), .bool ((rd_T37 l0 x6_2).f2), .string ((rd_T37 l0 x6_2).f3)] 37 (0, 0)) r23_ hb); replace HB := Aside0.mk (below_step r13_ hb); clear hb A16))
       go_meet
       case rel => exact ⟨_, (x5_2 ++ t229), (0), rs_, rs_, hH_, ⟨by have := HJ1.out; have := HK2.out; first | omega | exact Nat.le_refl _⟩, ⟨r23_⟩, ⟨r13_⟩⟩
      rw [if_neg c15] at H
      have c15b0 := beq_eq_false_iff_ne.mpr c15
      have c15b1 := bne_iff_ne.mpr c15
      (first | rw [c15b0] | (simp only [i64_w, i32_w]; rw [c15b0]) | skip)
      obtain ⟨ji19, hji19⟩ : ∃ j_ : Int, (wrap64 (x6_2 - 1)) = j_ := ⟨_, rfl⟩
      replace H : (if 0 ≤ (ji19) then (if (ji19) < (l0.length : Int) then ((qD.f k2 ((rd_T37 l0 (ji19)).f0) ((rd_T37 l0 x6_2).f0)).bind fun t231 => (qg.j2 k2 l0 x4_2 x5_2 x6_2 t231 ((rd_T37 l0 x6_2).f0) ((rd_T37 l0 x6_2).f1) ((rd_T37 l0 x6_2).f2) ((rd_T37 l0 x6_2).f3))) else (none)) else (none)) = some (r1, r2) := by first | (rw [hji19] at H; exact H) | (simp only [hji19] at H ⊢; exact H)
      have hji19w : (IntKind.i64.wrap (x6_2 - 1)) = ji19 := (i64_w _).trans hji19
      by_cases c20 : 0 ≤ (ji19)
      rotate_left
      ·rw [if_neg c20] at H
       exact absurd H r17_
      rw [if_pos c20] at H
      have c20b0 := decide_eq_true c20
      clear c20
      by_cases c21 : (ji19) < (l0.length : Int)
      rotate_left
      ·rw [if_neg c21] at H
       exact absurd H r17_
      rw [if_pos c21] at H
      have c21b0 := decide_eq_true c21
      clear c21
      replace H := bs_ H
      obtain ⟨t231, A220, H⟩ := H
      try dsimp only at H
      have A22 := Aside0.mk A220
      clear A220
      have H' := Aside0.mk H
      clear H
      try go_wp2
      replace BK227 := Aside0.mk (blk_drew BK227.out)
      replace HB := Aside0.mk (below_drew1 HB.out)
      have p230 : 0 ≤ ((ji19) : Int) := of_decide_eq_true as_
      have q230 : (ji19) < (l0.length : Int) := of_decide_eq_true as_
      obtain ⟨ad230, e230, hx230_0, hx230_1, hx230_2, hx230_3⟩ := at_T37 HR0.out (ji19) p230 q230
      have hw230_3 := hx230_3
      have hw230_2 := hx230_2
      have hw230_1 := hx230_1
      have hw230_0 := hx230_0
      obtain rfl : ad226 = ad230 := (by injection e230)
      replace hx230_0 := (HB.out.cell (World.block_lt_of_cell? w _ hx230_0)).trans hx230_0
      replace hx230_1 := (HB.out.cell (World.block_lt_of_cell? w _ hx230_1)).trans hx230_1
      replace hx230_2 := (HB.out.cell (World.block_lt_of_cell? w _ hx230_2)).trans hx230_2
      replace hx230_3 := (HB.out.cell (World.block_lt_of_cell? w _ hx230_3)).trans hx230_3
      replace p230 := eq_true p230
      replace q230 := eq_true q230
      refine start_ (n := 10) (S := fun w' => w'.cell? ⟨gb227, 0, none⟩ = some (.string ((rd_T37 l0 x6_2).f0)) ∧ w'.cell? ⟨gb227, 1, none⟩ = some (.int .u64 ((rd_T37 l0 x6_2).f1)) ∧ w'.cell? ⟨gb227, 2, none⟩ = some (.bool ((rd_T37 l0 x6_2).f2)) ∧ w'.cell? ⟨gb227, 3, none⟩ = some (.string ((rd_T37 l0 x6_2).f3)) ∧ w'.cell? (ad226.add (((ji19)).toNat * 4)) = some (.string ((rd_T37 l0 (ji19)).f0)) ∧ w'.cell? ⟨(ad226.add (((ji19)).toNat * 4)).block, (ad226.add (((ji19)).toNat * 4)).off + 1, none⟩ = some (.int .u64 ((rd_T37 l0 (ji19)).f1)) ∧ w'.cell? ⟨(ad226.add (((ji19)).toNat * 4)).block, (ad226.add (((ji19)).toNat * 4)).off + 2, none⟩ = some (.bool ((rd_T37 l0 (ji19)).f2)) ∧ w'.cell? ⟨(ad226.add (((ji19)).toNat * 4)).block, (ad226.add (((ji19)).toNat * 4)).off + 3, none⟩ = some (.string ((rd_T37 l0 (ji19)).f3))) (ds := []) #[N,N,N,N,N,N,N,N,N,N] r2_ rfl rfl ⟨(blk_cell BK227.out 0).trans rfl, (blk_cell BK227.out 1).trans rfl, (blk_cell BK227.out 2).trans rfl, (blk_cell BK227.out 3).trans rfl, ((HB.out.cell (World.block_lt_of_cell? w _ hw230_0)).trans hw230_0), ((HB.out.cell (World.block_lt_of_cell? w _ hw230_1)).trans hw230_1), ((HB.out.cell (World.block_lt_of_cell? w _ hw230_2)).trans hw230_2), ((HB.out.cell (World.block_lt_of_cell? w _ hw230_3)).trans hw230_3)⟩ (fun hHeld => ?_); refine with_tabW qg.tab14 qg.bits14 (fun HT_ HW_ => ?_)
      generalize w14.drew = w23 at BK227 HB hx230_0 hx230_1 hx230_2 hx230_3 hHeld ⊢
      refine pu_ 0 (some 45) #[Y,N,N,N,N,N,N,N,N,N] (any_of HT_.out r2_) ?_
      refine pu_ 1 (some 46) #[Y,Y,N,N,N,N,N,N,N,N] (any_of HT_.out r2_) ?_
      refine pu_ 2 (some 47) #[Y,Y,Y,N,N,N,N,N,N,N] (any_of HT_.out r2_) ?_
      refine pu_ 3 (some 48) #[Y,Y,Y,Y,N,N,N,N,N,N] (any_of HT_.out r2_) ?_
      refine pu_ 4 (some 49) #[Y,Y,Y,Y,Y,N,N,N,N,N] (any_of HT_.out r2_) ?_
      refine pu_ 6 (some 51) #[Y,Y,Y,Y,Y,N,Y,N,N,N] (any_of HT_.out r2_) ?_
      refine tk_ (v := ?_) 5 (some 50) #[Y,Y,Y,Y,Y,Y,Y,N,N,N] (take_ofW HT_.out HW_.out r2_) hHeld ?_ ?_
      rotate_left
      ·rintro w' ⟨s0, s1, s2, s3, s4, s5, s6, s7⟩
       go_simp
       with_reducible rfl
      refine tk_ (v := ?_) 7 (some 52) #[Y,Y,Y,Y,Y,Y,Y,Y,N,N] (take_ofW HT_.out HW_.out r2_) hHeld ?_ ?_
      rotate_left
      ·rintro w' ⟨s0, s1, s2, s3, s4, s5, s6, s7⟩
       go_simp
       with_reducible rfl
      refine one_ (i := 8) (N := some 53) #[Y,Y,Y,Y,Y,Y,Y,Y,Y,N] rfl rfl (one_of HT_.out r2_) r24_ (fun K hK => ?_)
      refine goes_ Try.func62 r2_ rfl #[.string ((rd_T37 l0 (ji19)).f0), .string ((rd_T37 l0 x6_2).f0)] r37_ rfl rfl (by (try simp only [List.map_toArray, List.map_cons, List.map_nil]); first | done | (simp only [hji19]; rfl) | rfl | (simp only [List.length_drop, List.length_take]; rfl) | (simp (disch := omega) only [IntWalk.u64_in, IntWalk.i64_in, IntWalk.u8_in]; rfl)) ?_
      with_reducible refine (qD.calls k2 ((rd_T37 l0 (ji19)).f0) ((rd_T37 l0 x6_2).f0) t231 _ A22.out).mono ?_
      rintro e w' ⟨rfl, ⟨nd, rfl⟩⟩
      refine ⟨_, rfl, ?_⟩
      refine hK.out _ _ ⟨(blk_cell BK227.out 0).trans rfl, (blk_cell BK227.out 1).trans rfl, (blk_cell BK227.out 2).trans rfl, (blk_cell BK227.out 3).trans rfl, ((HB.out.cell (World.block_lt_of_cell? w _ hw230_0)).trans hw230_0), ((HB.out.cell (World.block_lt_of_cell? w _ hw230_1)).trans hw230_1), ((HB.out.cell (World.block_lt_of_cell? w _ hw230_2)).trans hw230_2), ((HB.out.cell (World.block_lt_of_cell? w _ hw230_3)).trans hw230_3)⟩ (fun hHeld => ?_)
      clear hK K
      refine nm_ (some 53) ?_
      refine pu_ 9 (some 8) #[Y,Y,Y,Y,Y,Y,Y,Y,Y,Y] (any_of HT_.out r2_) ?_
      refine done_ (done_of HT_.out r2_) ?_
      (try clear hHeld)
      (try clear c17b0); (try clear c17b1); (try clear c17b2); (try clear c17b3); (try clear c17b4); (try clear c17b5); (try clear c17b6)
      try go_wp2
      go_meet
      case rel => exact ⟨_, (x5_2), (t231), rs_, rs_, hH_, ⟨by have := HJ1.out; have := HK2.out; first | omega | exact Nat.le_refl _⟩, ⟨r23_⟩, ⟨r13_⟩⟩
     case rest =>
      clear HC11
      try clear c6
      try clear c7
      try clear c7b0
      try clear c8
      try clear c8b0
      try clear c10
      try clear hcz13_0
      try clear hcz13_1
      try clear hcz13_2
      try clear hcz13_3
      try clear hfz13_0
      try clear hfz13_1
      try clear hfz13_2
      try clear hfz13_3
      try clear hx226_0
      try clear hx226_1
      try clear hx226_2
      try clear hx226_3
      try clear p226
      try clear q226
      obtain ⟨kq, x5_10, x8_10, rfl, rfl, HA, HJ10, BK227, HB⟩ := hcut
      cases kq with
      | zero => exact absurd HA.out (by simp [qg.j2])
      | succ kj10 =>
       have H := HA.out
       clear HA
       simp only [qg.j2] at H
       have HC24 := Aside0.mk H
       clear H
       have hcz25_0 : wc.cell? ⟨gb227, 0, none⟩ = some (.string ((rd_T37 l0 x6_2).f0)) := (blk_cell BK227.out 0).trans rfl
       have hcz25_1 : wc.cell? ⟨gb227, 1, none⟩ = some (.int .u64 ((rd_T37 l0 x6_2).f1)) := (blk_cell BK227.out 1).trans rfl
       have hcz25_2 : wc.cell? ⟨gb227, 2, none⟩ = some (.bool ((rd_T37 l0 x6_2).f2)) := (blk_cell BK227.out 2).trans rfl
       have hcz25_3 : wc.cell? ⟨gb227, 3, none⟩ = some (.string ((rd_T37 l0 x6_2).f3)) := (blk_cell BK227.out 3).trans rfl
       have hfz25_0 := blk_frozen BK227.out 0
       have hfz25_1 := blk_frozen BK227.out 1
       have hfz25_2 := blk_frozen BK227.out 2
       have hfz25_3 := blk_frozen BK227.out 3
       go_upto_if 55 with (fail)
       go_cut [9] (fun v9 wc => ∃ (kq : Nat) (x9_23 : ByteArray), v9 = .string x9_23 ∧ Aside0 (qg.j3 kq l0 x4_2 x5_10 x6_2 x8_10 x9_23 ((rd_T37 l0 x6_2).f0) ((rd_T37 l0 x6_2).f1) ((rd_T37 l0 x6_2).f2) ((rd_T37 l0 x6_2).f3) = some (r1, r2)) ∧ Aside0 (kq ≤ kj10) ∧ Aside0 (wc.heap[gb227]? = some (.cells #[.string ((rd_T37 l0 x6_2).f0), .int .u64 ((rd_T37 l0 x6_2).f1), .bool ((rd_T37 l0 x6_2).f2), .string ((rd_T37 l0 x6_2).f3)] 37 (0, 0))) ∧ Aside0 (Below w.heap.size w wc))
       case first =>
        have H := HC24.out
        clear HC24
        by_cases c26 : ((rd_T37 l0 x6_2).f2) = true
        ·rw [if_pos c26] at H
         have c26b0 : ((rd_T37 l0 x6_2).f2) = true := c26
         clear c26
         (first | rw [c26b0] | (simp only [i64_w, i32_w]; rw [c26b0]) | skip)
         have H' := Aside0.mk H
         clear H
         go_wp2
         go_meet
         case rel => exact ⟨_, ((⟨#[1]⟩ : ByteArray)), rs_, hH_, ⟨by have := HJ1.out; have := HK2.out; have := HJ10.out; first | omega | exact Nat.le_refl _⟩, ⟨r23_⟩, ⟨r13_⟩⟩
        rw [if_neg c26] at H
        have c26b0 : ((rd_T37 l0 x6_2).f2) = false := by simpa using c26
        clear c26
        (first | rw [c26b0] | (simp only [i64_w, i32_w]; rw [c26b0]) | skip)
        have H' := Aside0.mk H
        clear H
        go_wp2
        go_meet
        case rel => exact ⟨_, ((⟨#[0]⟩ : ByteArray)), rs_, hH_, ⟨by have := HJ1.out; have := HK2.out; have := HJ10.out; first | omega | exact Nat.le_refl _⟩, ⟨r23_⟩, ⟨r13_⟩⟩
       case rest =>
        clear HC24
        try clear c6
        try clear c7
        try clear c7b0
        try clear c8
        try clear c8b0
        try clear c10
        try clear hcz13_0
        try clear hcz13_1
        try clear hcz13_2
        try clear hcz13_3
        try clear hcz25_0
        try clear hcz25_1
        try clear hcz25_2
        try clear hcz25_3
        try clear hfz13_0
        try clear hfz13_1
        try clear hfz13_2
        try clear hfz13_3
        try clear hfz25_0
        try clear hfz25_1
        try clear hfz25_2
        try clear hfz25_3
        try clear hx226_0
        try clear hx226_1
        try clear hx226_2
        try clear hx226_3
        try clear p226
        try clear q226
        obtain ⟨kq, x9_23, rfl, HA, HJ23, BK227, HB⟩ := hcut
        cases kq with
        | zero => exact absurd HA.out (by simp [qg.j3])
        | succ kj23 =>
         have H := HA.out
         clear HA
         simp only [qg.j3] at H
         replace H := bs_ H
         obtain ⟨t232, A270, H⟩ := H
         try dsimp only at H
         have A27 := Aside0.mk A270
         clear A270
         by_cases c28 : 0 ≤ x8_10
         rotate_left
         ·rw [if_neg c28] at H
          exact absurd H r17_
         rw [if_pos c28] at H
         have c28b0 := eq_true c28
         have c28b1 : decide (0 ≤ x8_10) = true := decide_eq_true c28
         clear c28
         by_cases c29 : x8_10 ≤ (((rd_T37 l0 x6_2).f0).size : Int)
         rotate_left
         ·rw [if_neg c29] at H
          exact absurd H r17_
         rw [if_pos c29] at H
         have c29b0 := eq_true c29
         have c29b1 : decide (x8_10 ≤ (((rd_T37 l0 x6_2).f0).size : Int)) = true := decide_eq_true c29
         clear c29
         replace H := bs_ H
         obtain ⟨t233, A300, H⟩ := H
         try dsimp only at H
         have A30 := Aside0.mk A300
         clear A300
         by_cases c31 : t232.size + t233.size ≤ 9223372036854775807
         rotate_left
         ·rw [if_neg c31] at H
          exact absurd H r17_
         rw [if_pos c31] at H
         have c31b0 := eq_true c31
         have c31b1 : decide (t232.size + t233.size ≤ 9223372036854775807) = true := decide_eq_true c31
         try have c31b2 : (9223372036854775807 < t232.size + t233.size) = False := eq_false (Nat.not_lt.2 c31)
         try (have c31b3 := c31b2; simp only [ByteArray.size_append] at c31b3)
         try (have c31b4 := c31b2; simp only [ByteArray.size_extract, ByteArray.size_append, Nat.sub_zero] at c31b4)
         replace H := bs_ H
         obtain ⟨t234, A320, H⟩ := H
         try dsimp only at H
         have A32 := Aside0.mk A320
         clear A320
         by_cases c33 : (t232 ++ t233).size + t234.size ≤ 9223372036854775807
         rotate_left
         ·rw [if_neg c33] at H
          exact absurd H r17_
         rw [if_pos c33] at H
         have c33b0 := eq_true c33
         have c33b1 : decide ((t232 ++ t233).size + t234.size ≤ 9223372036854775807) = true := decide_eq_true c33
         try have c33b2 : (9223372036854775807 < (t232 ++ t233).size + t234.size) = False := eq_false (Nat.not_lt.2 c33)
         try (have c33b3 := c33b2; simp only [ByteArray.size_append] at c33b3)
         try (have c33b4 := c33b2; simp only [ByteArray.size_extract, ByteArray.size_append, Nat.sub_zero] at c33b4)
         by_cases c34 : ((t232 ++ t233) ++ t234).size + x9_23.size ≤ 9223372036854775807
         rotate_left
         ·rw [if_neg c34] at H
          exact absurd H r17_
         rw [if_pos c34] at H
         have c34b0 := eq_true c34
         have c34b1 : decide (((t232 ++ t233) ++ t234).size + x9_23.size ≤ 9223372036854775807) = true := decide_eq_true c34
         try have c34b2 : (9223372036854775807 < ((t232 ++ t233) ++ t234).size + x9_23.size) = False := eq_false (Nat.not_lt.2 c34)
         try (have c34b3 := c34b2; simp only [ByteArray.size_append] at c34b3)
         try (have c34b4 := c34b2; simp only [ByteArray.size_extract, ByteArray.size_append, Nat.sub_zero] at c34b4)
         replace H := bs_ H
         obtain ⟨t235, A350, H⟩ := H
         try dsimp only at H
         have A35 := Aside0.mk A350
         clear A350
         by_cases c36 : (((t232 ++ t233) ++ t234) ++ x9_23).size + t235.size ≤ 9223372036854775807
         rotate_left
         ·rw [if_neg c36] at H
          exact absurd H r17_
         rw [if_pos c36] at H
         have c36b0 := eq_true c36
         have c36b1 : decide ((((t232 ++ t233) ++ t234) ++ x9_23).size + t235.size ≤ 9223372036854775807) = true := decide_eq_true c36
         try have c36b2 : (9223372036854775807 < (((t232 ++ t233) ++ t234) ++ x9_23).size + t235.size) = False := eq_false (Nat.not_lt.2 c36)
         try (have c36b3 := c36b2; simp only [ByteArray.size_append] at c36b3)
         try (have c36b4 := c36b2; simp only [ByteArray.size_extract, ByteArray.size_append, Nat.sub_zero] at c36b4)
         by_cases c37 : x4_2.size + ((((t232 ++ t233) ++ t234) ++ x9_23) ++ t235).size ≤ 9223372036854775807
         rotate_left
         ·rw [if_neg c37] at H
          exact absurd H r17_
         rw [if_pos c37] at H
         have c37b0 := eq_true c37
         have c37b1 : decide (x4_2.size + ((((t232 ++ t233) ++ t234) ++ x9_23) ++ t235).size ≤ 9223372036854775807) = true := decide_eq_true c37
         try have c37b2 : (9223372036854775807 < x4_2.size + ((((t232 ++ t233) ++ t234) ++ x9_23) ++ t235).size) = False := eq_false (Nat.not_lt.2 c37)
         try (have c37b3 := c37b2; simp only [ByteArray.size_append] at c37b3)
         try (have c37b4 := c37b2; simp only [ByteArray.size_extract, ByteArray.size_append, Nat.sub_zero] at c37b4)
         have H' := Aside0.mk H
         clear H
         try go_wp2
         replace BK227 := Aside0.mk (blk_drew BK227.out)
         replace HB := Aside0.mk (below_drew1 HB.out)
         refine start_ (n := 22) (S := fun w' => w'.cell? ⟨gb227, 0, none⟩ = some (.string ((rd_T37 l0 x6_2).f0)) ∧ w'.cell? ⟨gb227, 1, none⟩ = some (.int .u64 ((rd_T37 l0 x6_2).f1)) ∧ w'.cell? ⟨gb227, 2, none⟩ = some (.bool ((rd_T37 l0 x6_2).f2)) ∧ w'.cell? ⟨gb227, 3, none⟩ = some (.string ((rd_T37 l0 x6_2).f3))) (ds := []) #[N,N,N,N,N,N,N,N,N,N,N,N,N,N,N,N,N,N,N,N,N,N] r2_ rfl rfl ⟨(blk_cell BK227.out 0).trans rfl, (blk_cell BK227.out 1).trans rfl, (blk_cell BK227.out 2).trans rfl, (blk_cell BK227.out 3).trans rfl⟩ (fun hHeld => ?_); refine with_tabW qg.tab18 qg.bits18 (fun HT_ HW_ => ?_)
         generalize wc.drew = w38 at BK227 HB hHeld ⊢
         refine pu_ 0 (some 56) (mk_ 22 1) (any_of HT_.out r2_) ?_
         refine pu_ 1 (some 57) (mk_ 22 3) (any_of HT_.out r2_) ?_
         refine pu_ 2 (some 58) (mk_ 22 7) (any_of HT_.out r2_) ?_
         refine pu_ 4 (some 60) (mk_ 22 23) (any_of HT_.out r2_) ?_
         refine pu_ 6 (some 62) (mk_ 22 87) (any_of HT_.out r2_) ?_
         refine pu_ 10 (some 66) (mk_ 22 1111) (any_of HT_.out r2_) ?_
         refine pu_ 14 (some 70) (mk_ 22 17495) (any_of HT_.out r2_) ?_
         refine pu_ 16 (some 72) (mk_ 22 83031) (any_of HT_.out r2_) ?_
         refine tk_ (v := ?_) 5 (some 61) (mk_ 22 83063) (take_ofW HT_.out HW_.out r2_) hHeld ?_ ?_
         rotate_left
         ·rintro w' ⟨s0, s1, s2, s3⟩
          go_simp
          with_reducible rfl
         refine pu_ 7 (some 63) (mk_ 22 83191) (any_of HT_.out r2_) ?_
         refine tk_ (v := ?_) 11 (some 67) (mk_ 22 85239) (take_ofW HT_.out HW_.out r2_) hHeld ?_ ?_
         rotate_left
         ·rintro w' ⟨s0, s1, s2, s3⟩
          go_simp
          with_reducible rfl
         refine tk_ (v := ?_) 17 (some 73) (mk_ 22 216311) (take_ofW HT_.out HW_.out r2_) hHeld ?_ ?_
         rotate_left
         ·rintro w' ⟨s0, s1, s2, s3⟩
          go_simp
          with_reducible rfl
         refine one_ (i := 3) (N := some 59) (mk_ 22 216319) rfl rfl (one_of HT_.out r2_) r24_ (fun K hK => ?_)
         refine goes_ Try.func37 r2_ rfl #[.int .u64 (IntKind.u64.wrap (x8_10))] r37_ rfl rfl hA_ ?_
         with_reducible refine (qt.calls kj23 (IntKind.u64.wrap (x8_10)) t232 _ A27.out).mono ?_
         rintro e w39 ⟨rfl, hb⟩
         refine ⟨_, rfl, ?_⟩
         replace BK227 := Aside0.mk (blk_below (g := gb227) (o := .cells #[.string ((rd_T37 l0 x6_2).f0), .int .u64 ((rd_T37 l0 x6_2).f1), .bool ((rd_T37 l0 x6_2).f2), .string ((rd_T37 l0 x6_2).f3)] 37 (0, 0)) r23_ hb)
         replace HB := Aside0.mk (below_step r13_ hb)
         (try clear hb)
         (try clear hb2)
         (try clear hk)
         (try clear hi)
         (try clear A27)
         refine hK.out _ _ ⟨(blk_cell BK227.out 0).trans rfl, (blk_cell BK227.out 1).trans rfl, (blk_cell BK227.out 2).trans rfl, (blk_cell BK227.out 3).trans rfl⟩ (fun hHeld => ?_)
         clear hK K
         refine nm_ (some 59) ?_
         refine one_ (i := 8) (N := some 64) (mk_ 22 216575) rfl rfl (one_of HT_.out r2_) r24_ (fun K hK => ?_)
         refine goes_ Try.func36 r2_ rfl #[.string (((rd_T37 l0 x6_2).f0).extract (x8_10 : Int).toNat ((rd_T37 l0 x6_2).f0).size)] r37_ rfl rfl hA_ ?_
         with_reducible refine (qT.calls kj23 (((rd_T37 l0 x6_2).f0).extract (x8_10 : Int).toNat ((rd_T37 l0 x6_2).f0).size) t233 _ A30.out).mono ?_
         rintro e w40 ⟨rfl, hb⟩
         refine ⟨_, rfl, ?_⟩
         replace BK227 := Aside0.mk (blk_below (g := gb227) (o := .cells #[.string ((rd_T37 l0 x6_2).f0), .int .u64 ((rd_T37 l0 x6_2).f1), .bool ((rd_T37 l0 x6_2).f2), .string ((rd_T37 l0 x6_2).f3)] 37 (0, 0)) r23_ hb)
         replace HB := Aside0.mk (below_step r13_ hb)
         (try clear hb)
         (try clear hb2)
         (try clear hk)
         (try clear hi)
         (try clear A30)
         refine hK.out _ _ ⟨(blk_cell BK227.out 0).trans rfl, (blk_cell BK227.out 1).trans rfl, (blk_cell BK227.out 2).trans rfl, (blk_cell BK227.out 3).trans rfl⟩ (fun hHeld => ?_)
         clear hK K
         refine nm_ (some 64) ?_
         refine pu_ 9 (some 65) (mk_ 22 217087) (any_of HT_.out r2_) ?_
         refine one_ (i := 12) (N := some 68) (mk_ 22 221183) rfl rfl (one_of HT_.out r2_) r24_ (fun K hK => ?_)
         refine goes_ Try.func37 r2_ rfl #[.int .u64 ((rd_T37 l0 x6_2).f1)] r37_ rfl rfl hA_ ?_
         with_reducible refine (qt.calls kj23 ((rd_T37 l0 x6_2).f1) t234 _ A32.out).mono ?_
         rintro e w41 ⟨rfl, hb⟩
         refine ⟨_, rfl, ?_⟩
         replace BK227 := Aside0.mk (blk_below (g := gb227) (o := .cells #[.string ((rd_T37 l0 x6_2).f0), .int .u64 ((rd_T37 l0 x6_2).f1), .bool ((rd_T37 l0 x6_2).f2), .string ((rd_T37 l0 x6_2).f3)] 37 (0, 0)) r23_ hb)
         replace HB := Aside0.mk (below_step r13_ hb)
         (try clear hb)
         (try clear hb2)
         (try clear hk)
         (try clear hi)
         (try clear A32)
         refine hK.out _ _ ⟨(blk_cell BK227.out 0).trans rfl, (blk_cell BK227.out 1).trans rfl, (blk_cell BK227.out 2).trans rfl, (blk_cell BK227.out 3).trans rfl⟩ (fun hHeld => ?_)
         clear hK K
         refine nm_ (some 68) ?_
         refine pu_ 13 (some 69) (mk_ 22 229375) (any_of HT_.out r2_) ?_
         refine pu_ 15 (some 71) (mk_ 22 262143) (any_of HT_.out r2_) ?_
         refine one_ (i := 18) (N := some 74) (mk_ 22 524287) rfl rfl (one_of HT_.out r2_) r24_ (fun K hK => ?_)
         refine goes_ Try.func36 r2_ rfl #[.string ((rd_T37 l0 x6_2).f3)] r37_ rfl rfl hA_ ?_
         with_reducible refine (qT.calls kj23 ((rd_T37 l0 x6_2).f3) t235 _ A35.out).mono ?_
         rintro e w42 ⟨rfl, hb⟩
         refine ⟨_, rfl, ?_⟩
         replace BK227 := Aside0.mk (blk_below (g := gb227) (o := .cells #[.string ((rd_T37 l0 x6_2).f0), .int .u64 ((rd_T37 l0 x6_2).f1), .bool ((rd_T37 l0 x6_2).f2), .string ((rd_T37 l0 x6_2).f3)] 37 (0, 0)) r23_ hb)
         replace HB := Aside0.mk (below_step r13_ hb)
         (try clear hb)
         (try clear hb2)
         (try clear hk)
         (try clear hi)
         (try clear A35)
         refine hK.out _ _ ⟨(blk_cell BK227.out 0).trans rfl, (blk_cell BK227.out 1).trans rfl, (blk_cell BK227.out 2).trans rfl, (blk_cell BK227.out 3).trans rfl⟩ (fun hHeld => ?_)
         clear hK K
         refine nm_ (some 74) ?_
         refine pu_ 19 (some 75) (mk_ 22 1048575) (any_of HT_.out r2_) ?_
         refine pu_ 20 (some 76) (mk_ 22 2097151) (any_of HT_.out r2_) ?_
         refine pu_ 21 (some 4) (mk_ 22 4194303) (any_of HT_.out r2_) ?_
         refine done_ (done_of HT_.out r2_) ?_
         (try clear hHeld)
         (try clear c17b0); (try clear c17b1); (try clear c17b2); (try clear c17b3); (try clear c17b4); (try clear c17b5); (try clear c17b6); (try clear c28b0); (try clear c28b1); (try clear c28b2); (try clear c28b3); (try clear c28b4); (try clear c28b5); (try clear c28b6); (try clear c29b0); (try clear c29b1); (try clear c29b2); (try clear c29b3); (try clear c29b4); (try clear c29b5); (try clear c29b6); (try clear c31b0); (try clear c31b1); (try clear c31b2); (try clear c31b3); (try clear c31b4); (try clear c31b5); (try clear c31b6); (try clear c33b0); (try clear c33b1); (try clear c33b2); (try clear c33b3); (try clear c33b4); (try clear c33b5); (try clear c33b6); (try clear c34b0); (try clear c34b1); (try clear c34b2); (try clear c34b3); (try clear c34b4); (try clear c34b5); (try clear c34b6); (try clear c36b0); (try clear c36b1); (try clear c36b2); (try clear c36b3); (try clear c36b4); (try clear c36b5); (try clear c36b6); (try clear c37b0); (try clear c37b1); (try clear c37b2); (try clear c37b3); (try clear c37b4); (try clear c37b5); (try clear c37b6)
         try go_wp2
         go_roundg kj23
         case measure => have := HJ1.out; have := HK2.out; have := HJ10.out; have := HJ23.out; omega
         case rel => exact ⟨(x4_2 ++ ((((t232 ++ t233) ++ t234) ++ x9_23) ++ t235)), (x5_10), (wrap64 (x6_2 + 1)), rs_, rs_, rs_, hH_, ⟨by have := HJ1.out; have := HK2.out; have := HJ10.out; have := HJ23.out; omega⟩, ⟨r13_⟩⟩

end Go.Proofs.Ytgdkikkjaofbfaa.P
