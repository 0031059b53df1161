-- Printed by a program of this session's own (wip/tools/pprint.sh, over the kit's print, with given contracts): not typed by hand.
import Derived.Test.YtgdkikkjaofbfaaPx0
import Derived.Test.YtgdkikkjaofbfaaPx15
import Derived.Test.YtgdkikkjaofbfaaPx16
namespace Go.Proofs.Ytgdkikkjaofbfaa.P
open Go.RowKit Go.Proofs.YtgdkikkjaofbfaaW.PrintWords Go.Proofs.YtgdkikkjaofbfaaW.PrintLast Go.Proofs.YtgdkikkjaofbfaaW.PrintMore
attribute [local go_sem] max2_int min2_int max_two min_two max_three min_three max_four min_four   -- for this text's walks alone
set_option linter.unusedVariables false
set_option linter.unusedSimpArgs false
-- SQUEEZED3

/-! ### screeref09_Encode: function 35 -/
mutual
def screeref09_Encode.j0 : Nat → List (S37) → Bool → Option (ByteArray × Int)
 | 0, _, _ => none
 | k + 1, x0, x22 => if x22 = true then (some ((⟨#[]⟩ : ByteArray), 2)) else (screeref09_Encode.l0 k x0 (⟨#[]⟩ : ByteArray) (⟨#[]⟩ : ByteArray) 0)
def screeref09_Encode.l0 : Nat → List (S37) → ByteArray → ByteArray → Int → Option (ByteArray × Int)
 | 0, _, _, _, _ => none
 | k + 1, x0, x4, x5, x6 => if x6 < (x0.length : Int) then (if 0 ≤ x6 then ((screeref07_May.f ((rd_T37 x0 x6).f0) ((rd_T37 x0 x6).f1) ((rd_T37 x0 x6).f2) ((rd_T37 x0 x6).f3)).bind fun t230 => (if t230 = true then (if (Int.tmod x6 4) = 0 then ((screeref01_Long.f k (IntKind.u64.wrap ((x4.size : Int)))).bind fun t231 => (if x5.size + t231.size ≤ 9223372036854775807 then (screeref09_Encode.j2 k x0 x4 (x5 ++ t231) x6 0 ((rd_T37 x0 x6).f0) ((rd_T37 x0 x6).f1) ((rd_T37 x0 x6).f2) ((rd_T37 x0 x6).f3)) else (none))) else (if 0 ≤ (wrap64 (x6 - 1)) then (if (wrap64 (x6 - 1)) < (x0.length : Int) then ((screeref09_Shared.f k ((rd_T37 x0 (wrap64 (x6 - 1))).f0) ((rd_T37 x0 x6).f0)).bind fun t233 => (screeref09_Encode.j2 k x0 x4 x5 x6 t233 ((rd_T37 x0 x6).f0) ((rd_T37 x0 x6).f1) ((rd_T37 x0 x6).f2) ((rd_T37 x0 x6).f3))) else (none)) else (none))) else (some ((⟨#[]⟩ : ByteArray), 2)))) else (none)) else (if x4.size + x5.size ≤ 9223372036854775807 then ((screeref01_Long.f k (IntKind.u64.wrap ((x0.length : Int)))).bind fun t227 => (if (x4 ++ x5).size + t227.size ≤ 9223372036854775807 then (some ((x4 ++ x5) ++ t227, 0)) else (none))) else (none))
def screeref09_Encode.j2 : Nat → List (S37) → ByteArray → ByteArray → Int → Int → ByteArray → Int → Bool → ByteArray → Option (ByteArray × Int)
 | 0, _, _, _, _, _, _, _, _, _ => none
 | k + 1, x0, x4, x5, x6, x8, x230000, x230001, x230002, x230003 => if x230002 = true then (screeref09_Encode.j3 k x0 x4 x5 x6 x8 (⟨#[1]⟩ : ByteArray) x230000 x230001 x230002 x230003) else (screeref09_Encode.j3 k x0 x4 x5 x6 x8 (⟨#[0]⟩ : ByteArray) x230000 x230001 x230002 x230003)
def screeref09_Encode.j3 : Nat → List (S37) → ByteArray → ByteArray → Int → Int → ByteArray → ByteArray → Int → Bool → ByteArray → Option (ByteArray × Int)
 | 0, _, _, _, _, _, _, _, _, _, _ => none
 | k + 1, x0, x4, x5, x6, x8, x9, x230000, x230001, x230002, x230003 => (screeref01_Short.f k (IntKind.u64.wrap (x8))).bind fun t234 => (if 0 ≤ x8 then (if x8 ≤ (x230000.size : Int) then ((screeref05_Text.f k (x230000.extract (x8 : Int).toNat x230000.size)).bind fun t235 => (if t234.size + t235.size ≤ 9223372036854775807 then ((screeref01_Short.f k x230001).bind fun t236 => (if (t234 ++ t235).size + t236.size ≤ 9223372036854775807 then (if ((t234 ++ t235) ++ t236).size + x9.size ≤ 9223372036854775807 then ((screeref05_Text.f k x230003).bind fun t237 => (if (((t234 ++ t235) ++ t236) ++ x9).size + t237.size ≤ 9223372036854775807 then (if x4.size + ((((t234 ++ t235) ++ t236) ++ x9) ++ t237).size ≤ 9223372036854775807 then (screeref09_Encode.l0 k x0 (x4 ++ ((((t234 ++ t235) ++ t236) ++ x9) ++ t237)) x5 (wrap64 (x6 + 1))) else (none)) else (none))) else (none)) else (none))) else (none))) else (none)) else (none))
end
def screeref09_Encode.f (k : Nat) (l0 : List (S37)) : Option (ByteArray × Int) := if (l0.length : Int) < 1 then (screeref09_Encode.j0 k l0 true) else (if (l0.length : Int) > 32 then (screeref09_Encode.j0 k l0 true) else ((screeref08_Row.f k l0).bind fun t226 => (screeref09_Encode.j0 k l0 (!t226))))
theorem screeref09_Encode.mono_l : ∀ k, (∀ y0 y1, LeO (screeref09_Encode.j0 k y0 y1) (screeref09_Encode.j0 (k + 1) y0 y1)) ∧ (∀ y0 y1 y2 y3, LeO (screeref09_Encode.l0 k y0 y1 y2 y3) (screeref09_Encode.l0 (k + 1) y0 y1 y2 y3)) ∧ (∀ y0 y1 y2 y3 y4 y5 y6 y7 y8, LeO (screeref09_Encode.j2 k y0 y1 y2 y3 y4 y5 y6 y7 y8) (screeref09_Encode.j2 (k + 1) y0 y1 y2 y3 y4 y5 y6 y7 y8)) ∧ (∀ y0 y1 y2 y3 y4 y5 y6 y7 y8 y9, LeO (screeref09_Encode.j3 k y0 y1 y2 y3 y4 y5 y6 y7 y8 y9) (screeref09_Encode.j3 (k + 1) y0 y1 y2 y3 y4 y5 y6 y7 y8 y9))
 | 0 => ⟨fun _ _ r h => by simp [screeref09_Encode.j0] at h, fun _ _ _ _ r h => by simp [screeref09_Encode.l0] at h, fun _ _ _ _ _ _ _ _ _ r h => by simp [screeref09_Encode.j2] at h, fun _ _ _ _ _ _ _ _ _ _ r h => by simp [screeref09_Encode.j3] at h⟩
 | k + 1 => by
  obtain ⟨ih0, ih1, ih2, ih3⟩ := screeref09_Encode.mono_l k
  refine ⟨?_, ?_, ?_, ?_⟩
  ·intro y0 y1
   unfold screeref09_Encode.j0
   repeat' first
   | (with_reducible exact ih0 _ _)
   | (with_reducible exact ih1 _ _ _ _)
   | (with_reducible exact ih2 _ _ _ _ _ _ _ _ _)
   | (with_reducible exact ih3 _ _ _ _ _ _ _ _ _ _)
   | (with_reducible exact LeO.refl _)
   | (with_reducible exact LeO.none _)
   | (with_reducible refine LeO.ite ?_ ?_)
   | (with_reducible refine LeO.bind ?_ (fun _ => ?_))
   | exact ih0 _ _
   | exact ih1 _ _ _ _
   | exact ih2 _ _ _ _ _ _ _ _ _
   | exact ih3 _ _ _ _ _ _ _ _ _ _
   | exact screeref01_Long.mono _ _
   | exact screeref01_Short.mono _ _
   | exact screeref05_Text.mono _ _
   | exact screeref08_Row.mono _ _
   | exact screeref09_Shared.mono _ _ _
   | exact LeO.none _
   | refine LeO.ite ?_ ?_
   | refine LeO.bind ?_ (fun _ => ?_)
  ·intro y0 y1 y2 y3
   unfold screeref09_Encode.l0
   repeat' first
   | (with_reducible exact ih0 _ _)
   | (with_reducible exact ih1 _ _ _ _)
   | (with_reducible exact ih2 _ _ _ _ _ _ _ _ _)
   | (with_reducible exact ih3 _ _ _ _ _ _ _ _ _ _)
   | (with_reducible exact LeO.refl _)
   | (with_reducible exact LeO.none _)
   | (with_reducible refine LeO.ite ?_ ?_)
   | (with_reducible refine LeO.bind ?_ (fun _ => ?_))
   | exact ih0 _ _
   | exact ih1 _ _ _ _
   | exact ih2 _ _ _ _ _ _ _ _ _
   | exact ih3 _ _ _ _ _ _ _ _ _ _
   | exact screeref01_Long.mono _ _
   | exact screeref01_Short.mono _ _
   | exact screeref05_Text.mono _ _
   | exact screeref08_Row.mono _ _
   | exact screeref09_Shared.mono _ _ _
   | exact LeO.none _
   | refine LeO.ite ?_ ?_
   | refine LeO.bind ?_ (fun _ => ?_)
  ·intro y0 y1 y2 y3 y4 y5 y6 y7 y8
   unfold screeref09_Encode.j2
   repeat' first
   | (with_reducible exact ih0 _ _)
   | (with_reducible exact ih1 _ _ _ _)
   | (with_reducible exact ih2 _ _ _ _ _ _ _ _ _)
   | (with_reducible exact ih3 _ _ _ _ _ _ _ _ _ _)
   | (with_reducible exact LeO.refl _)
   | (with_reducible exact LeO.none _)
   | (with_reducible refine LeO.ite ?_ ?_)
   | (with_reducible refine LeO.bind ?_ (fun _ => ?_))
   | exact ih0 _ _
   | exact ih1 _ _ _ _
   | exact ih2 _ _ _ _ _ _ _ _ _
   | exact ih3 _ _ _ _ _ _ _ _ _ _
   | exact screeref01_Long.mono _ _
   | exact screeref01_Short.mono _ _
   | exact screeref05_Text.mono _ _
   | exact screeref08_Row.mono _ _
   | exact screeref09_Shared.mono _ _ _
   | exact LeO.none _
   | refine LeO.ite ?_ ?_
   | refine LeO.bind ?_ (fun _ => ?_)
  ·intro y0 y1 y2 y3 y4 y5 y6 y7 y8 y9
   unfold screeref09_Encode.j3
   repeat' first
   | (with_reducible exact ih0 _ _)
   | (with_reducible exact ih1 _ _ _ _)
   | (with_reducible exact ih2 _ _ _ _ _ _ _ _ _)
   | (with_reducible exact ih3 _ _ _ _ _ _ _ _ _ _)
   | (with_reducible exact LeO.refl _)
   | (with_reducible exact LeO.none _)
   | (with_reducible refine LeO.ite ?_ ?_)
   | (with_reducible refine LeO.bind ?_ (fun _ => ?_))
   | exact ih0 _ _
   | exact ih1 _ _ _ _
   | exact ih2 _ _ _ _ _ _ _ _ _
   | exact ih3 _ _ _ _ _ _ _ _ _ _
   | exact screeref01_Long.mono _ _
   | exact screeref01_Short.mono _ _
   | exact screeref05_Text.mono _ _
   | exact screeref08_Row.mono _ _
   | exact screeref09_Shared.mono _ _ _
   | exact LeO.none _
   | refine LeO.ite ?_ ?_
   | refine LeO.bind ?_ (fun _ => ?_)
theorem screeref09_Encode.mono : ∀ a0 k, LeO (screeref09_Encode.f k a0) (screeref09_Encode.f (k + 1) a0) := by
 intro a0 k
 obtain ⟨ih0, ih1, ih2, ih3⟩ := screeref09_Encode.mono_l k
 unfold screeref09_Encode.f
 repeat' first
   | (with_reducible exact ih0 _ _)
   | (with_reducible exact ih1 _ _ _ _)
   | (with_reducible exact ih2 _ _ _ _ _ _ _ _ _)
   | (with_reducible exact ih3 _ _ _ _ _ _ _ _ _ _)
   | (with_reducible exact LeO.refl _)
   | (with_reducible exact LeO.none _)
   | (with_reducible refine LeO.ite ?_ ?_)
   | (with_reducible refine LeO.bind ?_ (fun _ => ?_))
   | exact ih0 _ _
   | exact ih1 _ _ _ _
   | exact ih2 _ _ _ _ _ _ _ _ _
   | exact ih3 _ _ _ _ _ _ _ _ _ _
   | exact screeref01_Long.mono _ _
   | exact screeref01_Short.mono _ _
   | exact screeref05_Text.mono _ _
   | exact screeref08_Row.mono _ _
   | exact screeref09_Shared.mono _ _ _
   | exact LeO.none _
   | refine LeO.ite ?_ ?_
   | refine LeO.bind ?_ (fun _ => ?_)
def screeref09_Encode.T14 : Bool × List (List Nat × List Nat) := (true, [([], []), ([], []), ([1], [1]), ([0, 2], [0, 2]), ([3], [3]), ([4], [4]), ([], []), ([6], [6]), ([5, 7], [5, 7]), ([8, 8, 0, 1, 2, 3, 4, 5, 6, 7, 8], [8])])
def screeref09_Encode.B14 : List Nat := [0, 0, 2, 7, 15, 31, 0, 64, 255, 511]
theorem screeref09_Encode.tab14 : rtab .any (opsOf Try.f35 14) = screeref09_Encode.T14 := by kernel_rfl
theorem screeref09_Encode.bits14 : waitsOk screeref09_Encode.T14.2 screeref09_Encode.B14 = true := by kernel_rfl
def screeref09_Encode.T18 : Bool × List (List Nat × List Nat) := (true, [([], []), ([], []), ([1], [1]), ([2], [2]), ([], []), ([4], [4]), ([], []), ([5, 6], [5, 6]), ([7, 3], [7]), ([3, 8], [3, 8]), ([], []), ([10], [10]), ([11, 8], [11]), ([9, 12], [9, 12]), ([], []), ([13, 14], [13, 14]), ([], []), ([16], [16]), ([17, 12], [17]), ([15, 18], [15, 18]), ([0, 19], [0, 19]), ([20, 18, 0, 1, 2, 3, 4, 5, 6, 7, 8, 9, 10, 11, 12, 13, 14, 15, 16, 17, 18, 19, 20], [0, 20])])
def screeref09_Encode.B18 : List Nat := [0, 0, 2, 6, 0, 16, 0, 112, 254, 510, 0, 1024, 3582, 8190, 0, 32766, 0, 65536, 204286, 524286, 1048575, 2097151]
theorem screeref09_Encode.tab18 : rtab .any (opsOf Try.f35 18) = screeref09_Encode.T18 := by kernel_rfl
theorem screeref09_Encode.bits18 : waitsOk screeref09_Encode.T18.2 screeref09_Encode.B18 = true := by kernel_rfl
set_option maxHeartbeats 8000000 in
set_option maxRecDepth 100000 in
theorem screeref09_Encode.calls (k : Nat) (A0 : Option Addr) (c0 : Nat) (l0 : List (S37)) (r1 : ByteArray) (r2 : Int) (w : World) (hr0 : Kd.C k37 w A0 l0.length l0) (hc0 : l0.length ≤ c0) (h : screeref09_Encode.f k l0 = some (r1, r2)) :
  Calls Try.prog 35 #[.slice A0 l0.length c0] w fun e w' => e = .returned (.tuple #[.string r1, .int .i64 r2]) ∧ Below w.heap.size w w' := by
 have hu37 := Try.underlying37
 have HR0 := Aside0.mk hr0
 have HC0 := Aside0.mk hc0
 clear hr0 hc0
 have HB := Aside0.mk (Below.refl w.heap.size w)
 have H : (if (l0.length : Int) < 1 then (screeref09_Encode.j0 k l0 true) else (if (l0.length : Int) > 32 then (screeref09_Encode.j0 k l0 true) else ((screeref08_Row.f k l0).bind fun t226 => (screeref09_Encode.j0 k l0 (!t226))))) = some (r1, r2) := h
 clear h
 have HC2 := Aside0.mk H
 clear H
 go_enter Try.func35, Try.ntmps35
 go_upto_region 1 with (fail)
 go_cut [22] (fun v22 wc => ∃ (kq : Nat) (x22_1 : Bool), v22 = .bool x22_1 ∧ Aside0 (screeref09_Encode.j0 kq l0 x22_1 = some (r1, r2)) ∧ Aside0 (kq ≤ k) ∧ Aside0 (Below w.heap.size w wc))
 case first =>
  have H := HC2.out
  clear HC2
  by_cases c3 : (l0.length : Int) < 1
  ·rw [if_pos c3] at H
   have c3b0 := decide_eq_true c3
   have c3b1 : decide (l0.length < 1) = true := decide_eq_true r21_
   clear c3
   (first | rw [c3b0] | (simp only [i64_w, i32_w]; rw [c3b0]) | skip)
   have H' := Aside0.mk H
   clear H
   go_wp2
   go_meet
   case rel => exact ⟨_, (true), rs_, hH_, ⟨by first | omega | exact Nat.le_refl _⟩, ⟨hB_⟩⟩
  rw [if_neg c3] at H
  have c3b0 := decide_eq_false c3
  have c3b1 : decide (l0.length < 1) = false := decide_eq_false r21_
  clear c3
  (first | rw [c3b0] | (simp only [i64_w, i32_w]; rw [c3b0]) | skip)
  by_cases c4 : (l0.length : Int) > 32
  ·rw [if_pos c4] at H
   have c4b0 : decide (32 < (l0.length : Int)) = true := decide_eq_true c4
   have c4b1 : decide (32 < l0.length) = true := decide_eq_true r21_
   clear c4
   have H' := Aside0.mk H
   clear H
   go_wp2
   go_meet
   case rel => exact ⟨_, (true), rs_, hH_, ⟨by first | omega | exact Nat.le_refl _⟩, ⟨hB_⟩⟩
  rw [if_neg c4] at H
  have c4b0 : decide (32 < (l0.length : Int)) = false := decide_eq_false c4
  have c4b1 : decide (32 < l0.length) = false := decide_eq_false r21_
  clear c4
  replace H := Option.bind_eq_some_iff.mp H
  obtain ⟨t226, A50, H⟩ := H
  try dsimp only at H
  have A5 := Aside0.mk A50
  clear A50
  have H' := Aside0.mk H
  clear H
  go_wp2_with (first | (go_at_call 34; (with_reducible refine (screeref08_Row.calls k _ _ l0 t226 _ ?side1 ?side2 A5.out).mono ?_); (case side1 => repeat (first | exact (Kd.C_below HR0.out HB.out) | (with_reducible refine Kd.C_alloc ?_ _) | (with_reducible refine Kd.C_drewN ?_ _) | (with_reducible refine Kd.C_drew ?_))); (case side2 => exact HC0.out); rintro e w' ⟨rfl, ⟨nd, rfl⟩⟩))
  go_meet
  case rel => exact ⟨_, (!t226), rs_, hH_, ⟨by first | omega | exact Nat.le_refl _⟩, ⟨hB_⟩⟩
 case rest =>
  clear HC2
  obtain ⟨kq, x22_1, rfl, HA, HJ1, HB⟩ := hcut
  cases kq with
  | zero => exact absurd HA.out (by simp [screeref09_Encode.j0])
  | succ kj1 =>
   have H := HA.out
   clear HA
   simp only [screeref09_Encode.j0] at H
   by_cases c6 : x22_1 = true
   ·subst c6
    rw [if_pos rfl] at H
    simp only [Option.some.injEq, Prod.mk.injEq] at H
    obtain ⟨rfl, rfl⟩ := H
    go_wp2
    go_ret2
    exact ⟨rf_, hB_⟩
   replace c6 := Bool.eq_false_iff.mpr c6
   subst c6
   rw [if_neg ff_] at H
   have H' := Aside0.mk H
   clear H
   go_wp2
   go_loopg [4, 5, 6] kj1 (fun kq v4 v5 v6 w' => ∃ (x4_2 : ByteArray) (x5_2 : ByteArray) (x6_2 : Int), v4 = .string x4_2 ∧ v5 = .string x5_2 ∧ v6 = .int .i64 x6_2 ∧ Aside0 (screeref09_Encode.l0 kq l0 x4_2 x5_2 x6_2 = some (r1, r2)) ∧ Aside0 (kq ≤ kj1) ∧ Aside0 (Below w.heap.size w w'))
   case atStart => exact ⟨((⟨#[]⟩ : ByteArray)), ((⟨#[]⟩ : ByteArray)), (0), rs_, rs_, rs_, H', ⟨Nat.le_refl _⟩, ⟨hB_⟩⟩
   case round =>
    clear H'
    try clear c6
    obtain ⟨x4_2, x5_2, x6_2, rfl, rfl, rfl, HA, HK2, HB⟩ := hrel
    cases gk with
    | zero => exact absurd HA.out (by simp [screeref09_Encode.l0])
    | succ k2 =>
     have H := HA.out
     clear HA
     simp only [screeref09_Encode.l0] at H
     by_cases c7 : x6_2 < (l0.length : Int)
     rotate_left
     ·rw [if_neg c7] at H
      have c7b0 := decide_eq_false c7
      clear c7
      by_cases c46 : x4_2.size + x5_2.size ≤ 9223372036854775807
      rotate_left
      ·rw [if_neg c46] at H
       exact absurd H r22_
      rw [if_pos c46] at H
      have c46b0 := eq_true c46
      have c46b1 : decide (x4_2.size + x5_2.size ≤ 9223372036854775807) = true := decide_eq_true c46
      try have c46b2 : (9223372036854775807 < x4_2.size + x5_2.size) = False := eq_false (Nat.not_lt.2 c46)
      try (have c46b3 := c46b2; simp only [ByteArray.size_append] at c46b3)
      try (have c46b4 := c46b2; simp only [ByteArray.size_extract, ByteArray.size_append, Nat.sub_zero] at c46b4)
      replace H := Option.bind_eq_some_iff.mp H
      obtain ⟨t227, A470, H⟩ := H
      try dsimp only at H
      have A47 := Aside0.mk A470
      clear A470
      by_cases c48 : (x4_2 ++ x5_2).size + t227.size ≤ 9223372036854775807
      rotate_left
      ·rw [if_neg c48] at H
       exact absurd H r22_
      rw [if_pos c48] at H
      have c48b0 := eq_true c48
      have c48b1 : decide ((x4_2 ++ x5_2).size + t227.size ≤ 9223372036854775807) = true := decide_eq_true c48
      try have c48b2 : (9223372036854775807 < (x4_2 ++ x5_2).size + t227.size) = False := eq_false (Nat.not_lt.2 c48)
      try (have c48b3 := c48b2; simp only [ByteArray.size_append] at c48b3)
      try (have c48b4 := c48b2; simp only [ByteArray.size_extract, ByteArray.size_append, Nat.sub_zero] at c48b4)
      simp only [Option.some.injEq, Prod.mk.injEq] at H
      obtain ⟨rfl, rfl⟩ := H
      go_wp2_with (first | ((with_reducible refine gate_callee (f := 40) rfl ?_); refine goesL_ (some 83) rfl rfl Try.func40 r3_ rfl #[.int .u64 (IntKind.u64.wrap ((l0.length : Int)))] rfl hA_ ?_; (with_reducible refine (screeref01_Long.calls k2 (IntKind.u64.wrap ((l0.length : Int))) t227 _ A47.out).mono ?_); rintro e w49 ⟨rfl, hb⟩; refine ⟨_, rfl, ?_⟩; replace HB := Aside0.mk (below_step hB_ hb); clear hb A47))
      go_ret2
      exact ⟨rf_, hB_⟩
     rw [if_pos c7] at H
     have c7b0 := decide_eq_true c7
     clear c7
     by_cases c8 : 0 ≤ x6_2
     rotate_left
     ·rw [if_neg c8] at H
      exact absurd H r22_
     rw [if_pos c8] at H
     have c8b0 := decide_eq_true c8
     clear c8
     replace H := Option.bind_eq_some_iff.mp H
     obtain ⟨t230, A90, H⟩ := H
     try dsimp only at H
     have A9 := Aside0.mk A90
     clear A90
     by_cases c10 : t230 = true
     rotate_left
     ·replace c10 := Bool.eq_false_iff.mpr c10
      subst c10
      rw [if_neg ff_] at H
      simp only [Option.some.injEq, Prod.mk.injEq] at H
      obtain ⟨rfl, rfl⟩ := H
      have p228 : 0 ≤ (x6_2 : Int) := of_decide_eq_true as_
      have q228 : x6_2 < (l0.length : Int) := of_decide_eq_true as_
      obtain ⟨ad228, e228, hx228_0, hx228_1, hx228_2, hx228_3⟩ := at_T37 HR0.out x6_2 p228 q228
      cases e228
      replace hx228_0 := (HB.out.cell (World.block_lt_of_cell? w _ hx228_0)).trans hx228_0
      replace hx228_1 := (HB.out.cell (World.block_lt_of_cell? w _ hx228_1)).trans hx228_1
      replace hx228_2 := (HB.out.cell (World.block_lt_of_cell? w _ hx228_2)).trans hx228_2
      replace hx228_3 := (HB.out.cell (World.block_lt_of_cell? w _ hx228_3)).trans hx228_3
      replace p228 := eq_true p228
      replace q228 := eq_true q228
      go_wp2_with (first | ((with_reducible refine gate_dst (N := 7) rfl ?_); (try (refine gate_guard r42_ ?_; dsimp only)); refine box_event ?hg (N := 7) ?hd (cs := #[.string (⟨#[]⟩ : ByteArray), .int .u64 0, .bool false, .string (⟨#[]⟩ : ByteArray)]) (t := 37) ?hr ?_; (case hd => rfl); (case hg => rfl); (case hr => first | (go_simp; done) | (go_simp; rfl)); intro gb229 hg w43 hbox hb; have BK229 := Aside0.mk (hbox); have GW229 := Aside0.mk ((by rw [hg]; exact (below_size hB_) : w.heap.size ≤ gb229)); have GE229 := Aside0.mk ((by rw [hg]; exact (below_size hB_) : w.heap.size ≤ gb229)); replace HB := Aside0.mk (below_step hB_ hb); clear hb hbox hg; have hcz44_0 : w43.cell? ⟨gb229, 0, none⟩ = some (.string (⟨#[]⟩ : ByteArray)) := (blk_cell BK229.out 0).trans rfl; have hcz44_1 : w43.cell? ⟨gb229, 1, none⟩ = some (.int .u64 0) := (blk_cell BK229.out 1).trans rfl; have hcz44_2 : w43.cell? ⟨gb229, 2, none⟩ = some (.bool false) := (blk_cell BK229.out 2).trans rfl; have hcz44_3 : w43.cell? ⟨gb229, 3, none⟩ = some (.string (⟨#[]⟩ : ByteArray)) := (blk_cell BK229.out 3).trans rfl; have hfz44_0 := blk_frozen BK229.out 0; have hfz44_1 := blk_frozen BK229.out 1; have hfz44_2 := blk_frozen BK229.out 2; have hfz44_3 := blk_frozen BK229.out 3) | ((with_reducible refine gate_callee (f := 61) rfl ?_); refine goesL_ (some 34) rfl rfl Try.func61 r3_ rfl #[.agg #[.string ((rd_T37 l0 x6_2).f0), .int .u64 ((rd_T37 l0 x6_2).f1), .bool ((rd_T37 l0 x6_2).f2), .string ((rd_T37 l0 x6_2).f3)]] rfl hA_ ?_; (with_reducible refine (screeref07_May.calls ((rd_T37 l0 x6_2).f0) ((rd_T37 l0 x6_2).f1) ((rd_T37 l0 x6_2).f2) ((rd_T37 l0 x6_2).f3) false _ A9.out).mono ?_); rintro e w45 ⟨rfl, hb⟩; refine ⟨_, rfl, ?_⟩; replace BK229 := Aside0.mk (blk_below (g := gb229) (o := .cells #[.string ((rd_T37 l0 x6_2).f0), .int .u64 ((rd_T37 l0 x6_2).f1), .bool ((rd_T37 l0 x6_2).f2), .string ((rd_T37 l0 x6_2).f3)] 37 (0, 0)) (by (with_reducible repeat (first | refine blk_drewN ?_ _ | refine blk_drew ?_ | refine blk_alloc ?_ _)); refine blk_put (cs := #[.string ((rd_T37 l0 x6_2).f0), .int .u64 ((rd_T37 l0 x6_2).f1), .bool ((rd_T37 l0 x6_2).f2), .string (⟨#[]⟩ : ByteArray)]) ?_ 3 _ rfl; (with_reducible repeat (first | refine blk_drewN ?_ _ | refine blk_drew ?_ | refine blk_alloc ?_ _)); refine blk_put (cs := #[.string ((rd_T37 l0 x6_2).f0), .int .u64 ((rd_T37 l0 x6_2).f1), .bool false, .string (⟨#[]⟩ : ByteArray)]) ?_ 2 _ rfl; (with_reducible repeat (first | refine blk_drewN ?_ _ | refine blk_drew ?_ | refine blk_alloc ?_ _)); refine blk_put (cs := #[.string ((rd_T37 l0 x6_2).f0), .int .u64 0, .bool false, .string (⟨#[]⟩ : ByteArray)]) ?_ 1 _ rfl; (with_reducible repeat (first | refine blk_drewN ?_ _ | refine blk_drew ?_ | refine blk_alloc ?_ _)); refine blk_put (cs := #[.string (⟨#[]⟩ : ByteArray), .int .u64 0, .bool false, .string (⟨#[]⟩ : ByteArray)]) ?_ 0 _ rfl; (with_reducible repeat (first | refine blk_drewN ?_ _ | refine blk_drew ?_ | refine blk_alloc ?_ _)); exact BK229.out) hb); replace HB := Aside0.mk (below_step r11_ hb); clear hb A9))
      go_ret2
      exact ⟨rf_, r11_⟩
     subst c10
     rw [if_pos rfl] at H
     have HC11 := Aside0.mk H
     clear H
     have p228 : 0 ≤ (x6_2 : Int) := of_decide_eq_true as_
     have q228 : x6_2 < (l0.length : Int) := of_decide_eq_true as_
     obtain ⟨ad228, e228, hx228_0, hx228_1, hx228_2, hx228_3⟩ := at_T37 HR0.out x6_2 p228 q228
     cases e228
     replace hx228_0 := (HB.out.cell (World.block_lt_of_cell? w _ hx228_0)).trans hx228_0
     replace hx228_1 := (HB.out.cell (World.block_lt_of_cell? w _ hx228_1)).trans hx228_1
     replace hx228_2 := (HB.out.cell (World.block_lt_of_cell? w _ hx228_2)).trans hx228_2
     replace hx228_3 := (HB.out.cell (World.block_lt_of_cell? w _ hx228_3)).trans hx228_3
     replace p228 := eq_true p228
     replace q228 := eq_true q228
     go_upto_if 38 with (first | ((with_reducible refine gate_dst (N := 7) rfl ?_); (try (refine gate_guard r42_ ?_; dsimp only)); refine box_event ?hg (N := 7) ?hd (cs := #[.string (⟨#[]⟩ : ByteArray), .int .u64 0, .bool false, .string (⟨#[]⟩ : ByteArray)]) (t := 37) ?hr ?_; (case hd => rfl); (case hg => rfl); (case hr => first | (go_simp; done) | (go_simp; rfl)); intro gb229 hg w12 hbox hb; have BK229 := Aside0.mk (hbox); have GW229 := Aside0.mk ((by rw [hg]; exact (below_size hB_) : w.heap.size ≤ gb229)); have GE229 := Aside0.mk ((by rw [hg]; exact (below_size hB_) : w.heap.size ≤ gb229)); replace HB := Aside0.mk (below_step hB_ hb); clear hb hbox hg; have hcz13_0 : w12.cell? ⟨gb229, 0, none⟩ = some (.string (⟨#[]⟩ : ByteArray)) := (blk_cell BK229.out 0).trans rfl; have hcz13_1 : w12.cell? ⟨gb229, 1, none⟩ = some (.int .u64 0) := (blk_cell BK229.out 1).trans rfl; have hcz13_2 : w12.cell? ⟨gb229, 2, none⟩ = some (.bool false) := (blk_cell BK229.out 2).trans rfl; have hcz13_3 : w12.cell? ⟨gb229, 3, none⟩ = some (.string (⟨#[]⟩ : ByteArray)) := (blk_cell BK229.out 3).trans rfl; have hfz13_0 := blk_frozen BK229.out 0; have hfz13_1 := blk_frozen BK229.out 1; have hfz13_2 := blk_frozen BK229.out 2; have hfz13_3 := blk_frozen BK229.out 3) | ((with_reducible refine gate_callee (f := 61) rfl ?_); refine goesL_ (some 34) rfl rfl Try.func61 r3_ rfl #[.agg #[.string ((rd_T37 l0 x6_2).f0), .int .u64 ((rd_T37 l0 x6_2).f1), .bool ((rd_T37 l0 x6_2).f2), .string ((rd_T37 l0 x6_2).f3)]] rfl hA_ ?_; (with_reducible refine (screeref07_May.calls ((rd_T37 l0 x6_2).f0) ((rd_T37 l0 x6_2).f1) ((rd_T37 l0 x6_2).f2) ((rd_T37 l0 x6_2).f3) true _ A9.out).mono ?_); rintro e w14 ⟨rfl, hb⟩; refine ⟨_, rfl, ?_⟩; replace BK229 := Aside0.mk (blk_below (g := gb229) (o := .cells #[.string ((rd_T37 l0 x6_2).f0), .int .u64 ((rd_T37 l0 x6_2).f1), .bool ((rd_T37 l0 x6_2).f2), .string ((rd_T37 l0 x6_2).f3)] 37 (0, 0)) (by (with_reducible repeat (first | refine blk_drewN ?_ _ | refine blk_drew ?_ | refine blk_alloc ?_ _)); refine blk_put (cs := #[.string ((rd_T37 l0 x6_2).f0), .int .u64 ((rd_T37 l0 x6_2).f1), .bool ((rd_T37 l0 x6_2).f2), .string (⟨#[]⟩ : ByteArray)]) ?_ 3 _ rfl; (with_reducible repeat (first | refine blk_drewN ?_ _ | refine blk_drew ?_ | refine blk_alloc ?_ _)); refine blk_put (cs := #[.string ((rd_T37 l0 x6_2).f0), .int .u64 ((rd_T37 l0 x6_2).f1), .bool false, .string (⟨#[]⟩ : ByteArray)]) ?_ 2 _ rfl; (with_reducible repeat (first | refine blk_drewN ?_ _ | refine blk_drew ?_ | refine blk_alloc ?_ _)); refine blk_put (cs := #[.string ((rd_T37 l0 x6_2).f0), .int .u64 0, .bool false, .string (⟨#[]⟩ : ByteArray)]) ?_ 1 _ rfl; (with_reducible repeat (first | refine blk_drewN ?_ _ | refine blk_drew ?_ | refine blk_alloc ?_ _)); refine blk_put (cs := #[.string (⟨#[]⟩ : ByteArray), .int .u64 0, .bool false, .string (⟨#[]⟩ : ByteArray)]) ?_ 0 _ rfl; (with_reducible repeat (first | refine blk_drewN ?_ _ | refine blk_drew ?_ | refine blk_alloc ?_ _)); exact BK229.out) hb); replace HB := Aside0.mk (below_step r11_ hb); clear hb A9))
     (try simp only [Act.put, sp_])
     go_cut [5, 8] (fun v5 v8 wc => ∃ (kq : Nat) (x5_10 : ByteArray) (x8_10 : Int), v5 = .string x5_10 ∧ v8 = .int .i64 x8_10 ∧ Aside0 (screeref09_Encode.j2 kq l0 x4_2 x5_10 x6_2 x8_10 ((rd_T37 l0 x6_2).f0) ((rd_T37 l0 x6_2).f1) ((rd_T37 l0 x6_2).f2) ((rd_T37 l0 x6_2).f3) = some (r1, r2)) ∧ Aside0 (kq ≤ k2) ∧ Aside0 (wc.heap[gb229]? = some (.cells #[.string ((rd_T37 l0 x6_2).f0), .int .u64 ((rd_T37 l0 x6_2).f1), .bool ((rd_T37 l0 x6_2).f2), .string ((rd_T37 l0 x6_2).f3)] 37 (0, 0))) ∧ Aside0 (Below w.heap.size w wc))
     case first =>
      have H := HC11.out
      clear HC11
      by_cases c15 : (Int.tmod x6_2 4) = 0
      ·rw [if_pos c15] at H
       have c15b0 := beq_iff_eq.mpr c15
       have c15b1 := bne_eq_false_iff_eq.mpr c15
       clear c15
       (first | rw [c15b0] | (simp only [i64_w, i32_w]; rw [c15b0]) | skip)
       replace H := Option.bind_eq_some_iff.mp H
       obtain ⟨t231, A160, H⟩ := H
       try dsimp only at H
       have A16 := Aside0.mk A160
       clear A160
       by_cases c17 : x5_2.size + t231.size ≤ 9223372036854775807
       rotate_left
       ·rw [if_neg c17] at H
        exact absurd H r22_
       rw [if_pos c17] at H
       have c17b0 := eq_true c17
       have c17b1 : decide (x5_2.size + t231.size ≤ 9223372036854775807) = true := decide_eq_true c17
       try have c17b2 : (9223372036854775807 < x5_2.size + t231.size) = False := eq_false (Nat.not_lt.2 c17)
       try (have c17b3 := c17b2; simp only [ByteArray.size_append] at c17b3)
       try (have c17b4 := c17b2; simp only [ByteArray.size_extract, ByteArray.size_append, Nat.sub_zero] at c17b4)
       have H' := Aside0.mk H
       clear H
       go_wp2_with (first | ((with_reducible refine gate_callee (f := 40) rfl ?_); refine goesL_ (some 43) rfl rfl Try.func40 r3_ rfl #[.int .u64 (IntKind.u64.wrap ((x4_2.size : Int)))] rfl hA_ ?_; (with_reducible refine (screeref01_Long.calls k2 (IntKind.u64.wrap ((x4_2.size : Int))) t231 _ A16.out).mono ?_); rintro e w18 ⟨rfl, hb⟩; refine ⟨_, rfl, ?_⟩; replace BK229 := Aside0.mk (blk_below (g := gb229) (o := .cells #[.string ((rd_T37 l0 x6_2).f0), .int .u64 ((rd_T37 l0 x6_2).f1), .bool ((rd_T37 l0 x6_2).f2), .string ((rd_T37 l0 x6_2).f3)] 37 (0, 0)) r23_ hb); replace HB := Aside0.mk (below_step r11_ hb); clear hb A16))
       go_meet
       case rel => exact ⟨_, (x5_2 ++ t231), (0), rs_, rs_, hH_, ⟨by have := HJ1.out; have := HK2.out; first | omega | exact Nat.le_refl _⟩, ⟨r23_⟩, ⟨r11_⟩⟩
      rw [if_neg c15] at H
      have c15b0 := beq_eq_false_iff_ne.mpr c15
      have c15b1 := bne_iff_ne.mpr c15
      (first | rw [c15b0] | (simp only [i64_w, i32_w]; rw [c15b0]) | skip)
      obtain ⟨ji19, hji19⟩ : ∃ j_ : Int, (wrap64 (x6_2 - 1)) = j_ := ⟨_, rfl⟩
      replace H : (if 0 ≤ (ji19) then (if (ji19) < (l0.length : Int) then ((screeref09_Shared.f k2 ((rd_T37 l0 (ji19)).f0) ((rd_T37 l0 x6_2).f0)).bind fun t233 => (screeref09_Encode.j2 k2 l0 x4_2 x5_2 x6_2 t233 ((rd_T37 l0 x6_2).f0) ((rd_T37 l0 x6_2).f1) ((rd_T37 l0 x6_2).f2) ((rd_T37 l0 x6_2).f3))) else (none)) else (none)) = some (r1, r2) := by first | (rw [hji19] at H; exact H) | (simp only [hji19] at H ⊢; exact H)
      have hji19w : (IntKind.i64.wrap (x6_2 - 1)) = ji19 := (i64_w _).trans hji19
      by_cases c20 : 0 ≤ (ji19)
      rotate_left
      ·rw [if_neg c20] at H
       exact absurd H r22_
      rw [if_pos c20] at H
      have c20b0 := decide_eq_true c20
      clear c20
      by_cases c21 : (ji19) < (l0.length : Int)
      rotate_left
      ·rw [if_neg c21] at H
       exact absurd H r22_
      rw [if_pos c21] at H
      have c21b0 := decide_eq_true c21
      clear c21
      replace H := Option.bind_eq_some_iff.mp H
      obtain ⟨t233, A220, H⟩ := H
      try dsimp only at H
      have A22 := Aside0.mk A220
      clear A220
      have H' := Aside0.mk H
      clear H
      try go_wp2
      replace BK229 := Aside0.mk (blk_drew BK229.out)
      replace HB := Aside0.mk (below_drew1 HB.out)
      have p232 : 0 ≤ ((ji19) : Int) := of_decide_eq_true as_
      have q232 : (ji19) < (l0.length : Int) := of_decide_eq_true as_
      obtain ⟨ad232, e232, hx232_0, hx232_1, hx232_2, hx232_3⟩ := at_T37 HR0.out (ji19) p232 q232
      have hw232_3 := hx232_3
      have hw232_2 := hx232_2
      have hw232_1 := hx232_1
      have hw232_0 := hx232_0
      obtain rfl : ad228 = ad232 := (by injection e232)
      replace hx232_0 := (HB.out.cell (World.block_lt_of_cell? w _ hx232_0)).trans hx232_0
      replace hx232_1 := (HB.out.cell (World.block_lt_of_cell? w _ hx232_1)).trans hx232_1
      replace hx232_2 := (HB.out.cell (World.block_lt_of_cell? w _ hx232_2)).trans hx232_2
      replace hx232_3 := (HB.out.cell (World.block_lt_of_cell? w _ hx232_3)).trans hx232_3
      replace p232 := eq_true p232
      replace q232 := eq_true q232
      refine start_ (n := 10) (S := fun w' => w'.cell? ⟨gb229, 0, none⟩ = some (.string ((rd_T37 l0 x6_2).f0)) ∧ w'.cell? ⟨gb229, 1, none⟩ = some (.int .u64 ((rd_T37 l0 x6_2).f1)) ∧ w'.cell? ⟨gb229, 2, none⟩ = some (.bool ((rd_T37 l0 x6_2).f2)) ∧ w'.cell? ⟨gb229, 3, none⟩ = some (.string ((rd_T37 l0 x6_2).f3)) ∧ w'.cell? (ad228.add (((ji19)).toNat * 4)) = some (.string ((rd_T37 l0 (ji19)).f0)) ∧ w'.cell? ⟨(ad228.add (((ji19)).toNat * 4)).block, (ad228.add (((ji19)).toNat * 4)).off + 1, none⟩ = some (.int .u64 ((rd_T37 l0 (ji19)).f1)) ∧ w'.cell? ⟨(ad228.add (((ji19)).toNat * 4)).block, (ad228.add (((ji19)).toNat * 4)).off + 2, none⟩ = some (.bool ((rd_T37 l0 (ji19)).f2)) ∧ w'.cell? ⟨(ad228.add (((ji19)).toNat * 4)).block, (ad228.add (((ji19)).toNat * 4)).off + 3, none⟩ = some (.string ((rd_T37 l0 (ji19)).f3))) (ds := []) #[N,N,N,N,N,N,N,N,N,N] r3_ rfl rfl ⟨(blk_cell BK229.out 0).trans rfl, (blk_cell BK229.out 1).trans rfl, (blk_cell BK229.out 2).trans rfl, (blk_cell BK229.out 3).trans rfl, ((HB.out.cell (World.block_lt_of_cell? w _ hw232_0)).trans hw232_0), ((HB.out.cell (World.block_lt_of_cell? w _ hw232_1)).trans hw232_1), ((HB.out.cell (World.block_lt_of_cell? w _ hw232_2)).trans hw232_2), ((HB.out.cell (World.block_lt_of_cell? w _ hw232_3)).trans hw232_3)⟩ (fun hHeld => ?_); refine with_tabW screeref09_Encode.tab14 screeref09_Encode.bits14 (fun HT_ HW_ => ?_)
      generalize w14.drew = w23 at BK229 HB hx232_0 hx232_1 hx232_2 hx232_3 hHeld ⊢
      refine pure_ (i := 0) (N := some 45) (v := ?_) (a' := ?_) #[Y,N,N,N,N,N,N,N,N,N] rfl rfl (any_of HT_.out r3_) (fun _ _ _ h => h) (Or.inl ⟨r42_, ?_⟩) ?_ ?_
      rotate_left
      ·intro w'
       go_simp
       with_reducible rfl
      rotate_left
      ·simp only [Act.put, sp_, i64_w, i32_w]
       rfl
      refine pure_ (i := 1) (N := some 46) (v := ?_) (a' := ?_) #[Y,Y,N,N,N,N,N,N,N,N] rfl rfl (any_of HT_.out r3_) (fun _ _ _ h => h) (Or.inl ⟨r42_, ?_⟩) ?_ ?_
      rotate_left
      ·intro w'
       go_simp
       with_reducible rfl
      rotate_left
      ·simp only [Act.put, sp_, i64_w, i32_w]
       rfl
      refine pure_ (i := 2) (N := some 47) (v := ?_) (a' := ?_) #[Y,Y,Y,N,N,N,N,N,N,N] rfl rfl (any_of HT_.out r3_) (fun _ _ _ h => h) (Or.inl ⟨r42_, ?_⟩) ?_ ?_
      rotate_left
      ·intro w'
       go_simp
       with_reducible rfl
      rotate_left
      ·simp only [Act.put, sp_, i64_w, i32_w]
       rfl
      refine pure_ (i := 3) (N := some 48) (v := ?_) (a' := ?_) #[Y,Y,Y,Y,N,N,N,N,N,N] rfl rfl (any_of HT_.out r3_) (fun _ _ _ h => h) (Or.inl ⟨r42_, ?_⟩) ?_ ?_
      rotate_left
      ·intro w'
       go_simp
       with_reducible rfl
      rotate_left
      ·simp only [Act.put, sp_, i64_w, i32_w]
       rfl
      refine pure_ (i := 4) (N := some 49) (v := ?_) (a' := ?_) #[Y,Y,Y,Y,Y,N,N,N,N,N] rfl rfl (any_of HT_.out r3_) (fun _ _ _ h => h) (Or.inl ⟨r42_, ?_⟩) ?_ ?_
      rotate_left
      ·intro w'
       go_simp
       with_reducible rfl
      rotate_left
      ·simp only [Act.put, sp_, i64_w, i32_w]
       rfl
      refine pure_ (i := 6) (N := some 51) (v := ?_) (a' := ?_) #[Y,Y,Y,Y,Y,N,Y,N,N,N] rfl rfl (any_of HT_.out r3_) (fun _ _ _ h => h) (Or.inl ⟨r42_, ?_⟩) ?_ ?_
      rotate_left
      ·intro w'
       go_simp
       with_reducible rfl
      rotate_left
      ·simp only [Act.put, sp_, i64_w, i32_w]
       rfl
      refine take_ (i := 5) (N := some 50) (v := ?_) (a' := ?_) #[Y,Y,Y,Y,Y,Y,Y,N,N,N] rfl rfl (take_ofW HT_.out HW_.out r3_) (fun _ _ _ h => h) (Or.inl ⟨r42_, ?_⟩) hHeld ?_ ?_
      rotate_left
      ·rintro w' ⟨s0, s1, s2, s3, s4, s5, s6, s7⟩
       go_simp
       with_reducible rfl
      rotate_left
      ·simp only [Act.put, sp_, i64_w, i32_w]
       rfl
      refine take_ (i := 7) (N := some 52) (v := ?_) (a' := ?_) #[Y,Y,Y,Y,Y,Y,Y,Y,N,N] rfl rfl (take_ofW HT_.out HW_.out r3_) (fun _ _ _ h => h) (Or.inl ⟨r42_, ?_⟩) hHeld ?_ ?_
      rotate_left
      ·rintro w' ⟨s0, s1, s2, s3, s4, s5, s6, s7⟩
       go_simp
       with_reducible rfl
      rotate_left
      ·simp only [Act.put, sp_, i64_w, i32_w]
       rfl
      refine one_ (i := 8) (N := some 53) #[Y,Y,Y,Y,Y,Y,Y,Y,Y,N] rfl rfl (one_of HT_.out r3_) r24_ (fun K hK => ?_)
      refine goes_ Try.func62 r3_ rfl #[.string ((rd_T37 l0 (ji19)).f0), .string ((rd_T37 l0 x6_2).f0)] r42_ rfl rfl (by (try simp only [List.map_toArray, List.map_cons, List.map_nil]); first | done | (simp only [hji19]; rfl) | rfl | (simp only [List.length_drop, List.length_take]; rfl) | (simp (disch := omega) only [IntWalk.u64_in, IntWalk.i64_in, IntWalk.u8_in]; rfl)) ?_
      with_reducible refine (screeref09_Shared.calls k2 ((rd_T37 l0 (ji19)).f0) ((rd_T37 l0 x6_2).f0) t233 _ A22.out).mono ?_
      rintro e w' ⟨rfl, ⟨nd, rfl⟩⟩
      refine ⟨_, rfl, ?_⟩
      refine hK.out _ _ ⟨(blk_cell BK229.out 0).trans rfl, (blk_cell BK229.out 1).trans rfl, (blk_cell BK229.out 2).trans rfl, (blk_cell BK229.out 3).trans rfl, ((HB.out.cell (World.block_lt_of_cell? w _ hw232_0)).trans hw232_0), ((HB.out.cell (World.block_lt_of_cell? w _ hw232_1)).trans hw232_1), ((HB.out.cell (World.block_lt_of_cell? w _ hw232_2)).trans hw232_2), ((HB.out.cell (World.block_lt_of_cell? w _ hw232_3)).trans hw232_3)⟩ (fun hHeld => ?_)
      clear hK K
      refine norm_ (a' := ?_) ?_ ?_
      rotate_left
      ·show Act.put _ (some 53) _ = _
       simp only [Act.put, sp_, i64_w, i32_w]
       rfl
      refine pure_ (i := 9) (N := some 8) (v := ?_) (a' := ?_) #[Y,Y,Y,Y,Y,Y,Y,Y,Y,Y] rfl rfl (any_of HT_.out r3_) (fun _ _ _ h => h) (Or.inl ⟨r42_, ?_⟩) ?_ ?_
      rotate_left
      ·intro w'
       go_simp
       with_reducible rfl
      rotate_left
      ·simp only [Act.put, sp_, i64_w, i32_w]
       rfl
      refine done_ (done_of HT_.out r3_) ?_
      (try clear hHeld)
      (try clear c17b0); (try clear c17b1); (try clear c17b2); (try clear c17b3); (try clear c17b4); (try clear c17b5); (try clear c17b6)
      try go_wp2
      go_meet
      case rel => exact ⟨_, (x5_2), (t233), rs_, rs_, hH_, ⟨by have := HJ1.out; have := HK2.out; first | omega | exact Nat.le_refl _⟩, ⟨r23_⟩, ⟨r11_⟩⟩
     case rest =>
      clear HC11
      try clear c6
      try clear c7
      try clear c7b0
      try clear c8
      try clear c8b0
      try clear c10
      try clear hcz13_0
      try clear hcz13_1
      try clear hcz13_2
      try clear hcz13_3
      try clear hfz13_0
      try clear hfz13_1
      try clear hfz13_2
      try clear hfz13_3
      try clear hx228_0
      try clear hx228_1
      try clear hx228_2
      try clear hx228_3
      try clear p228
      try clear q228
      obtain ⟨kq, x5_10, x8_10, rfl, rfl, HA, HJ10, BK229, HB⟩ := hcut
      cases kq with
      | zero => exact absurd HA.out (by simp [screeref09_Encode.j2])
      | succ kj10 =>
       have H := HA.out
       clear HA
       simp only [screeref09_Encode.j2] at H
       have HC24 := Aside0.mk H
       clear H
       have hcz25_0 : wc.cell? ⟨gb229, 0, none⟩ = some (.string ((rd_T37 l0 x6_2).f0)) := (blk_cell BK229.out 0).trans rfl
       have hcz25_1 : wc.cell? ⟨gb229, 1, none⟩ = some (.int .u64 ((rd_T37 l0 x6_2).f1)) := (blk_cell BK229.out 1).trans rfl
       have hcz25_2 : wc.cell? ⟨gb229, 2, none⟩ = some (.bool ((rd_T37 l0 x6_2).f2)) := (blk_cell BK229.out 2).trans rfl
       have hcz25_3 : wc.cell? ⟨gb229, 3, none⟩ = some (.string ((rd_T37 l0 x6_2).f3)) := (blk_cell BK229.out 3).trans rfl
       have hfz25_0 := blk_frozen BK229.out 0
       have hfz25_1 := blk_frozen BK229.out 1
       have hfz25_2 := blk_frozen BK229.out 2
       have hfz25_3 := blk_frozen BK229.out 3
       go_upto_if 55 with (fail)
       go_cut [9] (fun v9 wc => ∃ (kq : Nat) (x9_23 : ByteArray), v9 = .string x9_23 ∧ Aside0 (screeref09_Encode.j3 kq l0 x4_2 x5_10 x6_2 x8_10 x9_23 ((rd_T37 l0 x6_2).f0) ((rd_T37 l0 x6_2).f1) ((rd_T37 l0 x6_2).f2) ((rd_T37 l0 x6_2).f3) = some (r1, r2)) ∧ Aside0 (kq ≤ kj10) ∧ Aside0 (wc.heap[gb229]? = some (.cells #[.string ((rd_T37 l0 x6_2).f0), .int .u64 ((rd_T37 l0 x6_2).f1), .bool ((rd_T37 l0 x6_2).f2), .string ((rd_T37 l0 x6_2).f3)] 37 (0, 0))) ∧ Aside0 (Below w.heap.size w wc))
       case first =>
        have H := HC24.out
        clear HC24
        by_cases c26 : ((rd_T37 l0 x6_2).f2) = true
        ·rw [if_pos c26] at H
         have c26b0 : ((rd_T37 l0 x6_2).f2) = true := c26
         clear c26
         (first | rw [c26b0] | (simp only [i64_w, i32_w]; rw [c26b0]) | skip)
         have H' := Aside0.mk H
         clear H
         go_wp2
         go_meet
         case rel => exact ⟨_, ((⟨#[1]⟩ : ByteArray)), rs_, hH_, ⟨by have := HJ1.out; have := HK2.out; have := HJ10.out; first | omega | exact Nat.le_refl _⟩, ⟨r23_⟩, ⟨r11_⟩⟩
        rw [if_neg c26] at H
        have c26b0 : ((rd_T37 l0 x6_2).f2) = false := by simpa using c26
        clear c26
        (first | rw [c26b0] | (simp only [i64_w, i32_w]; rw [c26b0]) | skip)
        have H' := Aside0.mk H
        clear H
        go_wp2
        go_meet
        case rel => exact ⟨_, ((⟨#[0]⟩ : ByteArray)), rs_, hH_, ⟨by have := HJ1.out; have := HK2.out; have := HJ10.out; first | omega | exact Nat.le_refl _⟩, ⟨r23_⟩, ⟨r11_⟩⟩
       case rest =>
        clear HC24
        try clear c6
        try clear c7
        try clear c7b0
        try clear c8
        try clear c8b0
        try clear c10
        try clear hcz13_0
        try clear hcz13_1
        try clear hcz13_2
        try clear hcz13_3
        try clear hcz25_0
        try clear hcz25_1
        try clear hcz25_2
        try clear hcz25_3
        try clear hfz13_0
        try clear hfz13_1
        try clear hfz13_2
        try clear hfz13_3
        try clear hfz25_0
        try clear hfz25_1
        try clear hfz25_2
        try clear hfz25_3
        try clear hx228_0
        try clear hx228_1
        try clear hx228_2
        try clear hx228_3
        try clear p228
        try clear q228
        obtain ⟨kq, x9_23, rfl, HA, HJ23, BK229, HB⟩ := hcut
        cases kq with
        | zero => exact absurd HA.out (by simp [screeref09_Encode.j3])
        | succ kj23 =>
         have H := HA.out
         clear HA
         simp only [screeref09_Encode.j3] at H
         replace H := Option.bind_eq_some_iff.mp H
         obtain ⟨t234, A270, H⟩ := H
         try dsimp only at H
         have A27 := Aside0.mk A270
         clear A270
         by_cases c28 : 0 ≤ x8_10
         rotate_left
         ·rw [if_neg c28] at H
          exact absurd H r22_
         rw [if_pos c28] at H
         have c28b0 := eq_true c28
         have c28b1 : decide (0 ≤ x8_10) = true := decide_eq_true c28
         clear c28
         by_cases c29 : x8_10 ≤ (((rd_T37 l0 x6_2).f0).size : Int)
         rotate_left
         ·rw [if_neg c29] at H
          exact absurd H r22_
         rw [if_pos c29] at H
         have c29b0 := eq_true c29
         have c29b1 : decide (x8_10 ≤ (((rd_T37 l0 x6_2).f0).size : Int)) = true := decide_eq_true c29
         clear c29
         replace H := Option.bind_eq_some_iff.mp H
         obtain ⟨t235, A300, H⟩ := H
         try dsimp only at H
         have A30 := Aside0.mk A300
         clear A300
         by_cases c31 : t234.size + t235.size ≤ 9223372036854775807
         rotate_left
         ·rw [if_neg c31] at H
          exact absurd H r22_
         rw [if_pos c31] at H
         have c31b0 := eq_true c31
         have c31b1 : decide (t234.size + t235.size ≤ 9223372036854775807) = true := decide_eq_true c31
         try have c31b2 : (9223372036854775807 < t234.size + t235.size) = False := eq_false (Nat.not_lt.2 c31)
         try (have c31b3 := c31b2; simp only [ByteArray.size_append] at c31b3)
         try (have c31b4 := c31b2; simp only [ByteArray.size_extract, ByteArray.size_append, Nat.sub_zero] at c31b4)
         replace H := Option.bind_eq_some_iff.mp H
         obtain ⟨t236, A320, H⟩ := H
         try dsimp only at H
         have A32 := Aside0.mk A320
         clear A320
         by_cases c33 : (t234 ++ t235).size + t236.size ≤ 9223372036854775807
         rotate_left
         ·rw [if_neg c33] at H
          exact absurd H r22_
         rw [if_pos c33] at H
         have c33b0 := eq_true c33
         have c33b1 : decide ((t234 ++ t235).size + t236.size ≤ 9223372036854775807) = true := decide_eq_true c33
         try have c33b2 : (9223372036854775807 < (t234 ++ t235).size + t236.size) = False := eq_false (Nat.not_lt.2 c33)
         try (have c33b3 := c33b2; simp only [ByteArray.size_append] at c33b3)
         try (have c33b4 := c33b2; simp only [ByteArray.size_extract, ByteArray.size_append, Nat.sub_zero] at c33b4)
         by_cases c34 : ((t234 ++ t235) ++ t236).size + x9_23.size ≤ 9223372036854775807
         rotate_left
         ·rw [if_neg c34] at H
          exact absurd H r22_
         rw [if_pos c34] at H
         have c34b0 := eq_true c34
         have c34b1 : decide (((t234 ++ t235) ++ t236).size + x9_23.size ≤ 9223372036854775807) = true := decide_eq_true c34
         try have c34b2 : (9223372036854775807 < ((t234 ++ t235) ++ t236).size + x9_23.size) = False := eq_false (Nat.not_lt.2 c34)
         try (have c34b3 := c34b2; simp only [ByteArray.size_append] at c34b3)
         try (have c34b4 := c34b2; simp only [ByteArray.size_extract, ByteArray.size_append, Nat.sub_zero] at c34b4)
         replace H := Option.bind_eq_some_iff.mp H
         obtain ⟨t237, A350, H⟩ := H
         try dsimp only at H
         have A35 := Aside0.mk A350
         clear A350
         by_cases c36 : (((t234 ++ t235) ++ t236) ++ x9_23).size + t237.size ≤ 9223372036854775807
         rotate_left
         ·rw [if_neg c36] at H
          exact absurd H r22_
         rw [if_pos c36] at H
         have c36b0 := eq_true c36
         have c36b1 : decide ((((t234 ++ t235) ++ t236) ++ x9_23).size + t237.size ≤ 9223372036854775807) = true := decide_eq_true c36
         try have c36b2 : (9223372036854775807 < (((t234 ++ t235) ++ t236) ++ x9_23).size + t237.size) = False := eq_false (Nat.not_lt.2 c36)
         try (have c36b3 := c36b2; simp only [ByteArray.size_append] at c36b3)
         try (have c36b4 := c36b2; simp only [ByteArray.size_extract, ByteArray.size_append, Nat.sub_zero] at c36b4)
         by_cases c37 : x4_2.size + ((((t234 ++ t235) ++ t236) ++ x9_23) ++ t237).size ≤ 9223372036854775807
         rotate_left
         ·rw [if_neg c37] at H
          exact absurd H r22_
         rw [if_pos c37] at H
         have c37b0 := eq_true c37
         have c37b1 : decide (x4_2.size + ((((t234 ++ t235) ++ t236) ++ x9_23) ++ t237).size ≤ 9223372036854775807) = true := decide_eq_true c37
         try have c37b2 : (9223372036854775807 < x4_2.size + ((((t234 ++ t235) ++ t236) ++ x9_23) ++ t237).size) = False := eq_false (Nat.not_lt.2 c37)
         try (have c37b3 := c37b2; simp only [ByteArray.size_append] at c37b3)
         try (have c37b4 := c37b2; simp only [ByteArray.size_extract, ByteArray.size_append, Nat.sub_zero] at c37b4)
         have H' := Aside0.mk H
         clear H
         try go_wp2
         replace BK229 := Aside0.mk (blk_drew BK229.out)
         replace HB := Aside0.mk (below_drew1 HB.out)
         refine start_ (n := 22) (S := fun w' => w'.cell? ⟨gb229, 0, none⟩ = some (.string ((rd_T37 l0 x6_2).f0)) ∧ w'.cell? ⟨gb229, 1, none⟩ = some (.int .u64 ((rd_T37 l0 x6_2).f1)) ∧ w'.cell? ⟨gb229, 2, none⟩ = some (.bool ((rd_T37 l0 x6_2).f2)) ∧ w'.cell? ⟨gb229, 3, none⟩ = some (.string ((rd_T37 l0 x6_2).f3))) (ds := []) #[N,N,N,N,N,N,N,N,N,N,N,N,N,N,N,N,N,N,N,N,N,N] r3_ rfl rfl ⟨(blk_cell BK229.out 0).trans rfl, (blk_cell BK229.out 1).trans rfl, (blk_cell BK229.out 2).trans rfl, (blk_cell BK229.out 3).trans rfl⟩ (fun hHeld => ?_); refine with_tabW screeref09_Encode.tab18 screeref09_Encode.bits18 (fun HT_ HW_ => ?_)
         generalize wc.drew = w38 at BK229 HB hHeld ⊢
         refine pure_ (i := 0) (N := some 56) (v := ?_) (a' := ?_) #[Y,N,N,N,N,N,N,N,N,N,N,N,N,N,N,N,N,N,N,N,N,N] rfl rfl (any_of HT_.out r3_) (fun _ _ _ h => h) (Or.inl ⟨r42_, ?_⟩) ?_ ?_
         rotate_left
         ·intro w'
          go_simp
          with_reducible rfl
         rotate_left
         ·simp only [Act.put, sp_, i64_w, i32_w]
          rfl
         refine pure_ (i := 1) (N := some 57) (v := ?_) (a' := ?_) #[Y,Y,N,N,N,N,N,N,N,N,N,N,N,N,N,N,N,N,N,N,N,N] rfl rfl (any_of HT_.out r3_) (fun _ _ _ h => h) (Or.inl ⟨r42_, ?_⟩) ?_ ?_
         rotate_left
         ·intro w'
          go_simp
          with_reducible rfl
         rotate_left
         ·simp only [Act.put, sp_, i64_w, i32_w]
          rfl
         refine pure_ (i := 2) (N := some 58) (v := ?_) (a' := ?_) #[Y,Y,Y,N,N,N,N,N,N,N,N,N,N,N,N,N,N,N,N,N,N,N] rfl rfl (any_of HT_.out r3_) (fun _ _ _ h => h) (Or.inl ⟨r42_, ?_⟩) ?_ ?_
         rotate_left
         ·intro w'
          go_simp
          with_reducible rfl
         rotate_left
         ·simp only [Act.put, sp_, i64_w, i32_w]
          rfl
         refine pure_ (i := 4) (N := some 60) (v := ?_) (a' := ?_) #[Y,Y,Y,N,Y,N,N,N,N,N,N,N,N,N,N,N,N,N,N,N,N,N] rfl rfl (any_of HT_.out r3_) (fun _ _ _ h => h) (Or.inl ⟨r42_, ?_⟩) ?_ ?_
         rotate_left
         ·intro w'
          go_simp
          with_reducible rfl
         rotate_left
         ·simp only [Act.put, sp_, i64_w, i32_w]
          rfl
         refine pure_ (i := 6) (N := some 62) (v := ?_) (a' := ?_) #[Y,Y,Y,N,Y,N,Y,N,N,N,N,N,N,N,N,N,N,N,N,N,N,N] rfl rfl (any_of HT_.out r3_) (fun _ _ _ h => h) (Or.inl ⟨r42_, ?_⟩) ?_ ?_
         rotate_left
         ·intro w'
          go_simp
          with_reducible rfl
         rotate_left
         ·simp only [Act.put, sp_, i64_w, i32_w]
          rfl
         refine pure_ (i := 10) (N := some 66) (v := ?_) (a' := ?_) #[Y,Y,Y,N,Y,N,Y,N,N,N,Y,N,N,N,N,N,N,N,N,N,N,N] rfl rfl (any_of HT_.out r3_) (fun _ _ _ h => h) (Or.inl ⟨r42_, ?_⟩) ?_ ?_
         rotate_left
         ·intro w'
          go_simp
          with_reducible rfl
         rotate_left
         ·simp only [Act.put, sp_, i64_w, i32_w]
          rfl
         refine pure_ (i := 14) (N := some 70) (v := ?_) (a' := ?_) #[Y,Y,Y,N,Y,N,Y,N,N,N,Y,N,N,N,Y,N,N,N,N,N,N,N] rfl rfl (any_of HT_.out r3_) (fun _ _ _ h => h) (Or.inl ⟨r42_, ?_⟩) ?_ ?_
         rotate_left
         ·intro w'
          go_simp
          with_reducible rfl
         rotate_left
         ·simp only [Act.put, sp_, i64_w, i32_w]
          rfl
         refine pure_ (i := 16) (N := some 72) (v := ?_) (a' := ?_) #[Y,Y,Y,N,Y,N,Y,N,N,N,Y,N,N,N,Y,N,Y,N,N,N,N,N] rfl rfl (any_of HT_.out r3_) (fun _ _ _ h => h) (Or.inl ⟨r42_, ?_⟩) ?_ ?_
         rotate_left
         ·intro w'
          go_simp
          with_reducible rfl
         rotate_left
         ·simp only [Act.put, sp_, i64_w, i32_w]
          rfl
         refine take_ (i := 5) (N := some 61) (v := ?_) (a' := ?_) #[Y,Y,Y,N,Y,Y,Y,N,N,N,Y,N,N,N,Y,N,Y,N,N,N,N,N] rfl rfl (take_ofW HT_.out HW_.out r3_) (fun _ _ _ h => h) (Or.inl ⟨r42_, ?_⟩) hHeld ?_ ?_
         rotate_left
         ·rintro w' ⟨s0, s1, s2, s3⟩
          go_simp
          with_reducible rfl
         rotate_left
         ·simp only [Act.put, sp_, i64_w, i32_w]
          rfl
         refine pure_ (i := 7) (N := some 63) (v := ?_) (a' := ?_) #[Y,Y,Y,N,Y,Y,Y,Y,N,N,Y,N,N,N,Y,N,Y,N,N,N,N,N] rfl rfl (any_of HT_.out r3_) (fun _ _ _ h => h) (Or.inl ⟨r42_, ?_⟩) ?_ ?_
         rotate_left
         ·intro w'
          go_simp
          with_reducible rfl
         rotate_left
         ·simp only [Act.put, sp_, i64_w, i32_w]
          rfl
         refine take_ (i := 11) (N := some 67) (v := ?_) (a' := ?_) #[Y,Y,Y,N,Y,Y,Y,Y,N,N,Y,Y,N,N,Y,N,Y,N,N,N,N,N] rfl rfl (take_ofW HT_.out HW_.out r3_) (fun _ _ _ h => h) (Or.inl ⟨r42_, ?_⟩) hHeld ?_ ?_
         rotate_left
         ·rintro w' ⟨s0, s1, s2, s3⟩
          go_simp
          with_reducible rfl
         rotate_left
         ·simp only [Act.put, sp_, i64_w, i32_w]
          rfl
         refine take_ (i := 17) (N := some 73) (v := ?_) (a' := ?_) #[Y,Y,Y,N,Y,Y,Y,Y,N,N,Y,Y,N,N,Y,N,Y,Y,N,N,N,N] rfl rfl (take_ofW HT_.out HW_.out r3_) (fun _ _ _ h => h) (Or.inl ⟨r42_, ?_⟩) hHeld ?_ ?_
         rotate_left
         ·rintro w' ⟨s0, s1, s2, s3⟩
          go_simp
          with_reducible rfl
         rotate_left
         ·simp only [Act.put, sp_, i64_w, i32_w]
          rfl
         refine one_ (i := 3) (N := some 59) #[Y,Y,Y,Y,Y,Y,Y,Y,N,N,Y,Y,N,N,Y,N,Y,Y,N,N,N,N] rfl rfl (one_of HT_.out r3_) r24_ (fun K hK => ?_)
         refine goes_ Try.func37 r3_ rfl #[.int .u64 (IntKind.u64.wrap (x8_10))] r42_ rfl rfl hA_ ?_
         with_reducible refine (screeref01_Short.calls kj23 (IntKind.u64.wrap (x8_10)) t234 _ A27.out).mono ?_
         rintro e w39 ⟨rfl, hb⟩
         refine ⟨_, rfl, ?_⟩
         replace BK229 := Aside0.mk (blk_below (g := gb229) (o := .cells #[.string ((rd_T37 l0 x6_2).f0), .int .u64 ((rd_T37 l0 x6_2).f1), .bool ((rd_T37 l0 x6_2).f2), .string ((rd_T37 l0 x6_2).f3)] 37 (0, 0)) r23_ hb)
         replace HB := Aside0.mk (below_step r11_ hb)
         (try clear hb)
         (try clear hb2)
         (try clear hk)
         (try clear hi)
         (try clear A27)
         refine hK.out _ _ ⟨(blk_cell BK229.out 0).trans rfl, (blk_cell BK229.out 1).trans rfl, (blk_cell BK229.out 2).trans rfl, (blk_cell BK229.out 3).trans rfl⟩ (fun hHeld => ?_)
         clear hK K
         refine norm_ (a' := ?_) ?_ ?_
         rotate_left
         ·show Act.put _ (some 59) _ = _
          simp only [Act.put, sp_, i64_w, i32_w]
          rfl
         refine one_ (i := 8) (N := some 64) #[Y,Y,Y,Y,Y,Y,Y,Y,Y,N,Y,Y,N,N,Y,N,Y,Y,N,N,N,N] rfl rfl (one_of HT_.out r3_) r24_ (fun K hK => ?_)
         refine goes_ Try.func36 r3_ rfl #[.string (((rd_T37 l0 x6_2).f0).extract (x8_10 : Int).toNat ((rd_T37 l0 x6_2).f0).size)] r42_ rfl rfl hA_ ?_
         with_reducible refine (screeref05_Text.calls kj23 (((rd_T37 l0 x6_2).f0).extract (x8_10 : Int).toNat ((rd_T37 l0 x6_2).f0).size) t235 _ A30.out).mono ?_
         rintro e w40 ⟨rfl, hb⟩
         refine ⟨_, rfl, ?_⟩
         replace BK229 := Aside0.mk (blk_below (g := gb229) (o := .cells #[.string ((rd_T37 l0 x6_2).f0), .int .u64 ((rd_T37 l0 x6_2).f1), .bool ((rd_T37 l0 x6_2).f2), .string ((rd_T37 l0 x6_2).f3)] 37 (0, 0)) r23_ hb)
         replace HB := Aside0.mk (below_step r11_ hb)
         (try clear hb)
         (try clear hb2)
         (try clear hk)
         (try clear hi)
         (try clear A30)
         refine hK.out _ _ ⟨(blk_cell BK229.out 0).trans rfl, (blk_cell BK229.out 1).trans rfl, (blk_cell BK229.out 2).trans rfl, (blk_cell BK229.out 3).trans rfl⟩ (fun hHeld => ?_)
         clear hK K
         refine norm_ (a' := ?_) ?_ ?_
         rotate_left
         ·show Act.put _ (some 64) _ = _
          simp only [Act.put, sp_, i64_w, i32_w]
          rfl
         refine pure_ (i := 9) (N := some 65) (v := ?_) (a' := ?_) #[Y,Y,Y,Y,Y,Y,Y,Y,Y,Y,Y,Y,N,N,Y,N,Y,Y,N,N,N,N] rfl rfl (any_of HT_.out r3_) (fun _ _ _ h => h) (Or.inl ⟨r42_, ?_⟩) ?_ ?_
         rotate_left
         ·intro w'
          go_simp
          with_reducible rfl
         rotate_left
         ·simp only [Act.put, sp_, i64_w, i32_w]
          rfl
         refine one_ (i := 12) (N := some 68) #[Y,Y,Y,Y,Y,Y,Y,Y,Y,Y,Y,Y,Y,N,Y,N,Y,Y,N,N,N,N] rfl rfl (one_of HT_.out r3_) r24_ (fun K hK => ?_)
         refine goes_ Try.func37 r3_ rfl #[.int .u64 ((rd_T37 l0 x6_2).f1)] r42_ rfl rfl hA_ ?_
         with_reducible refine (screeref01_Short.calls kj23 ((rd_T37 l0 x6_2).f1) t236 _ A32.out).mono ?_
         rintro e w41 ⟨rfl, hb⟩
         refine ⟨_, rfl, ?_⟩
         replace BK229 := Aside0.mk (blk_below (g := gb229) (o := .cells #[.string ((rd_T37 l0 x6_2).f0), .int .u64 ((rd_T37 l0 x6_2).f1), .bool ((rd_T37 l0 x6_2).f2), .string ((rd_T37 l0 x6_2).f3)] 37 (0, 0)) r23_ hb)
         replace HB := Aside0.mk (below_step r11_ hb)
         (try clear hb)
         (try clear hb2)
         (try clear hk)
         (try clear hi)
         (try clear A32)
         refine hK.out _ _ ⟨(blk_cell BK229.out 0).trans rfl, (blk_cell BK229.out 1).trans rfl, (blk_cell BK229.out 2).trans rfl, (blk_cell BK229.out 3).trans rfl⟩ (fun hHeld => ?_)
         clear hK K
         refine norm_ (a' := ?_) ?_ ?_
         rotate_left
         ·show Act.put _ (some 68) _ = _
          simp only [Act.put, sp_, i64_w, i32_w]
          rfl
         refine pure_ (i := 13) (N := some 69) (v := ?_) (a' := ?_) #[Y,Y,Y,Y,Y,Y,Y,Y,Y,Y,Y,Y,Y,Y,Y,N,Y,Y,N,N,N,N] rfl rfl (any_of HT_.out r3_) (fun _ _ _ h => h) (Or.inl ⟨r42_, ?_⟩) ?_ ?_
         rotate_left
         ·intro w'
          go_simp
          with_reducible rfl
         rotate_left
         ·simp only [Act.put, sp_, i64_w, i32_w]
          rfl
         refine pure_ (i := 15) (N := some 71) (v := ?_) (a' := ?_) #[Y,Y,Y,Y,Y,Y,Y,Y,Y,Y,Y,Y,Y,Y,Y,Y,Y,Y,N,N,N,N] rfl rfl (any_of HT_.out r3_) (fun _ _ _ h => h) (Or.inl ⟨r42_, ?_⟩) ?_ ?_
         rotate_left
         ·intro w'
          go_simp
          with_reducible rfl
         rotate_left
         ·simp only [Act.put, sp_, i64_w, i32_w]
          rfl
         refine one_ (i := 18) (N := some 74) #[Y,Y,Y,Y,Y,Y,Y,Y,Y,Y,Y,Y,Y,Y,Y,Y,Y,Y,Y,N,N,N] rfl rfl (one_of HT_.out r3_) r24_ (fun K hK => ?_)
         refine goes_ Try.func36 r3_ rfl #[.string ((rd_T37 l0 x6_2).f3)] r42_ rfl rfl hA_ ?_
         with_reducible refine (screeref05_Text.calls kj23 ((rd_T37 l0 x6_2).f3) t237 _ A35.out).mono ?_
         rintro e w42 ⟨rfl, hb⟩
         refine ⟨_, rfl, ?_⟩
         replace BK229 := Aside0.mk (blk_below (g := gb229) (o := .cells #[.string ((rd_T37 l0 x6_2).f0), .int .u64 ((rd_T37 l0 x6_2).f1), .bool ((rd_T37 l0 x6_2).f2), .string ((rd_T37 l0 x6_2).f3)] 37 (0, 0)) r23_ hb)
         replace HB := Aside0.mk (below_step r11_ hb)
         (try clear hb)
         (try clear hb2)
         (try clear hk)
         (try clear hi)
         (try clear A35)
         refine hK.out _ _ ⟨(blk_cell BK229.out 0).trans rfl, (blk_cell BK229.out 1).trans rfl, (blk_cell BK229.out 2).trans rfl, (blk_cell BK229.out 3).trans rfl⟩ (fun hHeld => ?_)
         clear hK K
         refine norm_ (a' := ?_) ?_ ?_
         rotate_left
         ·show Act.put _ (some 74) _ = _
          simp only [Act.put, sp_, i64_w, i32_w]
          rfl
         refine pure_ (i := 19) (N := some 75) (v := ?_) (a' := ?_) #[Y,Y,Y,Y,Y,Y,Y,Y,Y,Y,Y,Y,Y,Y,Y,Y,Y,Y,Y,Y,N,N] rfl rfl (any_of HT_.out r3_) (fun _ _ _ h => h) (Or.inl ⟨r42_, ?_⟩) ?_ ?_
         rotate_left
         ·intro w'
          go_simp
          with_reducible rfl
         rotate_left
         ·simp only [Act.put, sp_, i64_w, i32_w]
          rfl
         refine pure_ (i := 20) (N := some 76) (v := ?_) (a' := ?_) #[Y,Y,Y,Y,Y,Y,Y,Y,Y,Y,Y,Y,Y,Y,Y,Y,Y,Y,Y,Y,Y,N] rfl rfl (any_of HT_.out r3_) (fun _ _ _ h => h) (Or.inl ⟨r42_, ?_⟩) ?_ ?_
         rotate_left
         ·intro w'
          go_simp
          with_reducible rfl
         rotate_left
         ·simp only [Act.put, sp_, i64_w, i32_w]
          rfl
         refine pure_ (i := 21) (N := some 4) (v := ?_) (a' := ?_) #[Y,Y,Y,Y,Y,Y,Y,Y,Y,Y,Y,Y,Y,Y,Y,Y,Y,Y,Y,Y,Y,Y] rfl rfl (any_of HT_.out r3_) (fun _ _ _ h => h) (Or.inl ⟨r42_, ?_⟩) ?_ ?_
         rotate_left
         ·intro w'
          go_simp
          with_reducible rfl
         rotate_left
         ·simp only [Act.put, sp_, i64_w, i32_w]
          rfl
         refine done_ (done_of HT_.out r3_) ?_
         (try clear hHeld)
         (try clear c17b0); (try clear c17b1); (try clear c17b2); (try clear c17b3); (try clear c17b4); (try clear c17b5); (try clear c17b6); (try clear c28b0); (try clear c28b1); (try clear c28b2); (try clear c28b3); (try clear c28b4); (try clear c28b5); (try clear c28b6); (try clear c29b0); (try clear c29b1); (try clear c29b2); (try clear c29b3); (try clear c29b4); (try clear c29b5); (try clear c29b6); (try clear c31b0); (try clear c31b1); (try clear c31b2); (try clear c31b3); (try clear c31b4); (try clear c31b5); (try clear c31b6); (try clear c33b0); (try clear c33b1); (try clear c33b2); (try clear c33b3); (try clear c33b4); (try clear c33b5); (try clear c33b6); (try clear c34b0); (try clear c34b1); (try clear c34b2); (try clear c34b3); (try clear c34b4); (try clear c34b5); (try clear c34b6); (try clear c36b0); (try clear c36b1); (try clear c36b2); (try clear c36b3); (try clear c36b4); (try clear c36b5); (try clear c36b6); (try clear c37b0); (try clear c37b1); (try clear c37b2); (try clear c37b3); (try clear c37b4); (try clear c37b5); (try clear c37b6)
         try go_wp2
         go_roundg kj23
         case measure => have := HJ1.out; have := HK2.out; have := HJ10.out; have := HJ23.out; omega
         case rel => exact ⟨(x4_2 ++ ((((t234 ++ t235) ++ t236) ++ x9_23) ++ t237)), (x5_10), (wrap64 (x6_2 + 1)), rs_, rs_, rs_, hH_, ⟨by have := HJ1.out; have := HK2.out; have := HJ10.out; have := HJ23.out; omega⟩, ⟨r11_⟩⟩

end Go.Proofs.Ytgdkikkjaofbfaa.P
