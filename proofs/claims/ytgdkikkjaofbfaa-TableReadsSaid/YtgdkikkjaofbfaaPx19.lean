-- Printed by a program of this session's own (wip/tools/pprint.sh, over the kit's print, with given contracts): not typed by hand.
import Derived.Test.YtgdkikkjaofbfaaPx0
import Derived.Test.YtgdkikkjaofbfaaPx15
import Derived.Test.YtgdkikkjaofbfaaPx16
import Derived.Test.YtgdkikkjaofbfaaPx18
namespace Go.Proofs.Ytgdkikkjaofbfaa.P
open Go.RowKit Go.Proofs.YtgdkikkjaofbfaaW.PrintWords Go.Proofs.YtgdkikkjaofbfaaW.PrintLast Go.Proofs.YtgdkikkjaofbfaaW.PrintMore
attribute [local go_sem] max2_int min2_int max_two min_two max_three min_three max_four min_four   -- for this text's walks alone
set_option linter.unusedVariables false
set_option linter.unusedSimpArgs false
-- SQUEEZED4
-- SQUEEZED3

/-! ### qr: function 13 -/
mutual
def qr.j0 : Nat → List (S37) → Bool → Option (ByteArray × Int)
 | 0, _, _ => none
 | k + 1, x0, x25 => if x25 = true then (some ((⟨#[]⟩ : ByteArray), 2)) else (qr.l0 k x0 (⟨#[]⟩ : ByteArray) (⟨#[]⟩ : ByteArray) 0 0)
def qr.l0 : Nat → List (S37) → ByteArray → ByteArray → Int → Int → Option (ByteArray × Int)
 | 0, _, _, _, _, _ => none
 | k + 1, x0, x4, x5, x6, x7 => if x7 < (x0.length : Int) then (if (wrap64 (x7 + 8)) > (x0.length : Int) then (qr.j2 k x0 x4 x5 x6 x7 (x0.length : Int)) else (qr.j2 k x0 x4 x5 x6 x7 (wrap64 (x7 + 8)))) else ((qt.f k (IntKind.u64.wrap (x6))).bind fun t286 => (if t286.size + x5.size ≤ 9223372036854775807 then ((qz.f k x0).bind fun t287 => ((ql.f k t287).bind fun bt290 => (if x4.size + (t286 ++ x5).size ≤ 9223372036854775807 then (if (x4 ++ (t286 ++ x5)).size + bt290.1.size ≤ 9223372036854775807 then ((qw.f k (IntKind.u64.wrap (((t286 ++ x5).size : Int)))).bind fun t292 => (if ((x4 ++ (t286 ++ x5)) ++ bt290.1).size + t292.size ≤ 9223372036854775807 then ((qw.f k (IntKind.u64.wrap ((bt290.1.size : Int)))).bind fun t293 => (if (((x4 ++ (t286 ++ x5)) ++ bt290.1) ++ t292).size + t293.size ≤ 9223372036854775807 then ((qw.f k (IntKind.u64.wrap ((x0.length : Int)))).bind fun t294 => (if ((((x4 ++ (t286 ++ x5)) ++ bt290.1) ++ t292) ++ t293).size + t294.size ≤ 9223372036854775807 then (if (((((x4 ++ (t286 ++ x5)) ++ bt290.1) ++ t292) ++ t293) ++ t294).size + 8 ≤ 9223372036854775807 then (some ((((((x4 ++ (t286 ++ x5)) ++ bt290.1) ++ t292) ++ t293) ++ t294) ++ (⟨#[115, 99, 114, 101, 101, 48, 48, 49]⟩ : ByteArray), 0)) else (none)) else (none))) else (none))) else (none))) else (none)) else (none)))) else (none)))
def qr.j2 : Nat → List (S37) → ByteArray → ByteArray → Int → Int → Int → Option (ByteArray × Int)
 | 0, _, _, _, _, _, _ => none
 | k + 1, x0, x4, x5, x6, x7, x8 => if 0 ≤ x7 then (if x7 ≤ x8 then (if x8 ≤ (x0.length : Int) then ((qg.f k ((x0.take (x8 : Int).toNat).drop (x7 : Int).toNat)).bind fun bt278 => (if bt278.2 = 0 then (if 0 ≤ (wrap64 (x8 - 1)) then (if (wrap64 (x8 - 1)) < (x0.length : Int) then ((qT.f k ((rd_T37 x0 (wrap64 (x8 - 1))).f0)).bind fun t281 => ((qt.f k ((rd_T37 x0 (wrap64 (x8 - 1))).f1)).bind fun t283 => (if t281.size + t283.size ≤ 9223372036854775807 then ((qt.f k (IntKind.u64.wrap ((x4.size : Int)))).bind fun t284 => (if (t281 ++ t283).size + t284.size ≤ 9223372036854775807 then ((qt.f k (IntKind.u64.wrap ((bt278.1.size : Int)))).bind fun t285 => (if ((t281 ++ t283) ++ t284).size + t285.size ≤ 9223372036854775807 then (if x5.size + (((t281 ++ t283) ++ t284) ++ t285).size ≤ 9223372036854775807 then (if x4.size + bt278.1.size ≤ 9223372036854775807 then (qr.l0 k x0 (x4 ++ bt278.1) (x5 ++ (((t281 ++ t283) ++ t284) ++ t285)) (wrap64 (x6 + 1)) (wrap64 (x7 + 8))) else (none)) else (none)) else (none))) else (none))) else (none)))) else (none)) else (none)) else (some ((⟨#[]⟩ : ByteArray), bt278.2)))) else (none)) else (none)) else (none)
end
def qr.f (k : Nat) (l0 : List (S37)) : Option (ByteArray × Int) := if (l0.length : Int) < 1 then (qr.j0 k l0 true) else (if (l0.length : Int) > 500 then (qr.j0 k l0 true) else ((qB.f k l0).bind fun t273 => (qr.j0 k l0 (!t273))))
theorem qr.mono_l : ∀ k, (∀ y0 y1, LeO (qr.j0 k y0 y1) (qr.j0 (k + 1) y0 y1)) ∧ (∀ y0 y1 y2 y3 y4, LeO (qr.l0 k y0 y1 y2 y3 y4) (qr.l0 (k + 1) y0 y1 y2 y3 y4)) ∧ (∀ y0 y1 y2 y3 y4 y5, LeO (qr.j2 k y0 y1 y2 y3 y4 y5) (qr.j2 (k + 1) y0 y1 y2 y3 y4 y5))
 | 0 => ⟨fun _ _ r h => by simp [qr.j0] at h, fun _ _ _ _ _ r h => by simp [qr.l0] at h, fun _ _ _ _ _ _ r h => by simp [qr.j2] at h⟩
 | k + 1 => by
  obtain ⟨ih0, ih1, ih2⟩ := qr.mono_l k
  refine ⟨?_, ?_, ?_⟩
  ·intro y0 y1
   unfold qr.j0
   repeat' first
   | (with_reducible exact ih0 _ _)
   | (with_reducible exact ih1 _ _ _ _ _)
   | (with_reducible exact ih2 _ _ _ _ _ _)
   | (with_reducible exact LeO.refl _)
   | (with_reducible exact LeO.none _)
   | (with_reducible refine LeO.ite ?_ ?_)
   | (with_reducible refine LeO.bind ?_ (fun _ => ?_))
   | exact ih0 _ _
   | exact ih1 _ _ _ _ _
   | exact ih2 _ _ _ _ _ _
   | exact qw.mono _ _
   | exact qt.mono _ _
   | exact qT.mono _ _
   | exact qB.mono _ _
   | exact qg.mono _ _
   | exact ql.mono _ _
   | exact qz.mono _ _
   | exact LeO.none _
   | refine LeO.ite ?_ ?_
   | refine LeO.bind ?_ (fun _ => ?_)
  ·intro y0 y1 y2 y3 y4
   unfold qr.l0
   repeat' first
   | (with_reducible exact ih0 _ _)
   | (with_reducible exact ih1 _ _ _ _ _)
   | (with_reducible exact ih2 _ _ _ _ _ _)
   | (with_reducible exact LeO.refl _)
   | (with_reducible exact LeO.none _)
   | (with_reducible refine LeO.ite ?_ ?_)
   | (with_reducible refine LeO.bind ?_ (fun _ => ?_))
   | exact ih0 _ _
   | exact ih1 _ _ _ _ _
   | exact ih2 _ _ _ _ _ _
   | exact qw.mono _ _
   | exact qt.mono _ _
   | exact qT.mono _ _
   | exact qB.mono _ _
   | exact qg.mono _ _
   | exact ql.mono _ _
   | exact qz.mono _ _
   | exact LeO.none _
   | refine LeO.ite ?_ ?_
   | refine LeO.bind ?_ (fun _ => ?_)
  ·intro y0 y1 y2 y3 y4 y5
   unfold qr.j2
   repeat' first
   | (with_reducible exact ih0 _ _)
   | (with_reducible exact ih1 _ _ _ _ _)
   | (with_reducible exact ih2 _ _ _ _ _ _)
   | (with_reducible exact LeO.refl _)
   | (with_reducible exact LeO.none _)
   | (with_reducible refine LeO.ite ?_ ?_)
   | (with_reducible refine LeO.bind ?_ (fun _ => ?_))
   | exact ih0 _ _
   | exact ih1 _ _ _ _ _
   | exact ih2 _ _ _ _ _ _
   | exact qw.mono _ _
   | exact qt.mono _ _
   | exact qT.mono _ _
   | exact qB.mono _ _
   | exact qg.mono _ _
   | exact ql.mono _ _
   | exact qz.mono _ _
   | exact LeO.none _
   | refine LeO.ite ?_ ?_
   | refine LeO.bind ?_ (fun _ => ?_)
theorem qr.mono : ∀ a0 k, LeO (qr.f k a0) (qr.f (k + 1) a0) := by
 intro a0 k
 obtain ⟨ih0, ih1, ih2⟩ := qr.mono_l k
 unfold qr.f
 repeat' first
   | (with_reducible exact ih0 _ _)
   | (with_reducible exact ih1 _ _ _ _ _)
   | (with_reducible exact ih2 _ _ _ _ _ _)
   | (with_reducible exact LeO.refl _)
   | (with_reducible exact LeO.none _)
   | (with_reducible refine LeO.ite ?_ ?_)
   | (with_reducible refine LeO.bind ?_ (fun _ => ?_))
   | exact ih0 _ _
   | exact ih1 _ _ _ _ _
   | exact ih2 _ _ _ _ _ _
   | exact qw.mono _ _
   | exact qt.mono _ _
   | exact qT.mono _ _
   | exact qB.mono _ _
   | exact qg.mono _ _
   | exact ql.mono _ _
   | exact qz.mono _ _
   | exact LeO.none _
   | refine LeO.ite ?_ ?_
   | refine LeO.bind ?_ (fun _ => ?_)
def qr.T15 : Bool × List (List Nat × List Nat) := (true, [([], []), ([], []), ([], []), ([2], [2]), ([1, 3], [1, 3]), ([4], [4]), ([5], [5]), ([6], [6]), ([], []), ([], []), ([9], [9]), ([8, 10], [8, 10]), ([11], [11]), ([12], [12]), ([13, 7], [13]), ([7, 14], [7, 14]), ([], []), ([16], [16]), ([17], [17]), ([18, 14], [18]), ([15, 19], [15, 19]), ([], []), ([21], [21]), ([22], [22]), ([23, 19], [23]), ([20, 24], [20, 24]), ([0, 25], [0, 25]), ([26, 24, 0, 1, 2, 3, 4, 5, 6, 7, 8, 9, 10, 11, 12, 13, 14, 15, 16, 17, 18, 19, 20, 21, 22, 23, 24, 25, 26], [0, 26])])
def qr.B15 : List Nat := [0, 0, 0, 4, 14, 30, 62, 126, 0, 0, 512, 1792, 3840, 7936, 16382, 32766, 0, 65536, 196608, 491518, 1048574, 0, 2097152, 6291456, 15695870, 33554430, 67108863, 134217727]
theorem qr.tab15 : rtab .any (opsOf Try.f13 15) = qr.T15 := by kernel_rfl
theorem qr.bits15 : waitsOk qr.T15.2 qr.B15 = true := by kernel_rfl
set_option maxHeartbeats 8000000 in
set_option maxRecDepth 100000 in
theorem qr.calls (k : Nat) (A0 : Option Addr) (c0 : Nat) (l0 : List (S37)) (r1 : ByteArray) (r2 : Int) (w : World) (hr0 : Kd.C k37 w A0 l0.length l0) (hc0 : l0.length ≤ c0) (h : qr.f k l0 = some (r1, r2)) :
  Calls Try.prog 13 #[.slice A0 l0.length c0] w fun e w' => e = .returned (.tuple #[.string r1, .int .i64 r2]) ∧ Below w.heap.size w w' := by
 have HR0 := Aside0.mk hr0
 have HC0 := Aside0.mk hc0
 clear hr0 hc0
 have HB := Aside0.mk (Below.refl w.heap.size w)
 have H : (if (l0.length : Int) < 1 then (qr.j0 k l0 true) else (if (l0.length : Int) > 500 then (qr.j0 k l0 true) else ((qB.f k l0).bind fun t273 => (qr.j0 k l0 (!t273))))) = some (r1, r2) := h
 clear h
 have HC2 := Aside0.mk H
 clear H
 go_enter Try.func13, Try.ntmps13
 go_upto_region 1 with (fail)
 go_cut [25] (fun v25 wc => ∃ (kq : Nat) (x25_1 : Bool), v25 = .bool x25_1 ∧ Aside0 (qr.j0 kq l0 x25_1 = some (r1, r2)) ∧ Aside0 (kq ≤ k) ∧ Aside0 (Below w.heap.size w wc))
 case first =>
  have H := HC2.out
  clear HC2
  by_cases c3 : (l0.length : Int) < 1
  ·rw [if_pos c3] at H
   have c3b0 := decide_eq_true c3
   have c3b1 : decide (l0.length < 1) = true := decide_eq_true r18_
   clear c3
   (first | rw [c3b0] | (simp only [i64_w, i32_w]; rw [c3b0]) | skip)
   have H' := Aside0.mk H
   clear H
   go_wp2
   go_meet
   case rel => exact ⟨_, (true), rs_, hH_, ⟨by first | omega | exact Nat.le_refl _⟩, ⟨hB_⟩⟩
  rw [if_neg c3] at H
  have c3b0 := decide_eq_false c3
  have c3b1 : decide (l0.length < 1) = false := decide_eq_false r18_
  clear c3
  (first | rw [c3b0] | (simp only [i64_w, i32_w]; rw [c3b0]) | skip)
  by_cases c4 : (l0.length : Int) > 500
  ·rw [if_pos c4] at H
   have c4b0 : decide (500 < (l0.length : Int)) = true := decide_eq_true c4
   have c4b1 : decide (500 < l0.length) = true := decide_eq_true r18_
   clear c4
   have H' := Aside0.mk H
   clear H
   go_wp2
   go_meet
   case rel => exact ⟨_, (true), rs_, hH_, ⟨by first | omega | exact Nat.le_refl _⟩, ⟨hB_⟩⟩
  rw [if_neg c4] at H
  have c4b0 : decide (500 < (l0.length : Int)) = false := decide_eq_false c4
  have c4b1 : decide (500 < l0.length) = false := decide_eq_false r18_
  clear c4
  replace H := bs_ H
  obtain ⟨t273, A50, H⟩ := H
  try dsimp only at H
  have A5 := Aside0.mk A50
  clear A50
  have H' := Aside0.mk H
  clear H
  go_wp2_with (first | (go_at_call 34; (with_reducible refine (qB.calls k _ _ l0 t273 _ ?side1 ?side2 A5.out).mono ?_); (case side1 => repeat (first | exact (Kd.C_below HR0.out HB.out) | (with_reducible refine Kd.C_alloc ?_ _) | (with_reducible refine Kd.C_drewN ?_ _) | (with_reducible refine Kd.C_drew ?_))); (case side2 => exact HC0.out); rintro e w' ⟨rfl, ⟨nd, rfl⟩⟩))
  go_meet
  case rel => exact ⟨_, (!t273), rs_, hH_, ⟨by first | omega | exact Nat.le_refl _⟩, ⟨hB_⟩⟩
 case rest =>
  clear HC2
  obtain ⟨kq, x25_1, rfl, HA, HJ1, HB⟩ := hcut
  cases kq with
  | zero => exact absurd HA.out (by simp [qr.j0])
  | succ kj1 =>
   have H := HA.out
   clear HA
   simp only [qr.j0] at H
   by_cases c6 : x25_1 = true
   ·subst c6
    rw [if_pos rfl] at H
    simp only [Option.some.injEq, Prod.mk.injEq] at H
    obtain ⟨rfl, rfl⟩ := H
    go_wp2
    go_ret2
    exact ⟨rf_, hB_⟩
   replace c6 := Bool.eq_false_iff.mpr c6
   subst c6
   rw [if_neg ff_] at H
   have H' := Aside0.mk H
   clear H
   go_wp2
   go_loopg [4, 5, 6, 7] kj1 (fun kq v4 v5 v6 v7 w' => ∃ (x4_2 : ByteArray) (x5_2 : ByteArray) (x6_2 : Int) (x7_2 : Int), v4 = .string x4_2 ∧ v5 = .string x5_2 ∧ v6 = .int .i64 x6_2 ∧ v7 = .int .i64 x7_2 ∧ Aside0 (qr.l0 kq l0 x4_2 x5_2 x6_2 x7_2 = some (r1, r2)) ∧ Aside0 (kq ≤ kj1) ∧ Aside0 (Below w.heap.size w w'))
   case atStart => exact ⟨((⟨#[]⟩ : ByteArray)), ((⟨#[]⟩ : ByteArray)), (0), (0), rs_, rs_, rs_, rs_, H', ⟨Nat.le_refl _⟩, ⟨hB_⟩⟩
   case round =>
    clear H'
    try clear c6
    obtain ⟨x4_2, x5_2, x6_2, x7_2, rfl, rfl, rfl, rfl, HA, HK2, HB⟩ := hrel
    cases gk with
    | zero => exact absurd HA.out (by simp [qr.l0])
    | succ k2 =>
     have H := HA.out
     clear HA
     simp only [qr.l0] at H
     by_cases c7 : x7_2 < (l0.length : Int)
     rotate_left
     ·rw [if_neg c7] at H
      have c7b0 := decide_eq_false c7
      clear c7
      replace H := bs_ H
      obtain ⟨t286, A360, H⟩ := H
      try dsimp only at H
      have A36 := Aside0.mk A360
      clear A360
      by_cases c37 : t286.size + x5_2.size ≤ 9223372036854775807
      rotate_left
      ·rw [if_neg c37] at H
       exact absurd H r17_
      rw [if_pos c37] at H
      have c37b0 := eq_true c37
      have c37b1 : decide (t286.size + x5_2.size ≤ 9223372036854775807) = true := decide_eq_true c37
      try have c37b2 : (9223372036854775807 < t286.size + x5_2.size) = False := eq_false (Nat.not_lt.2 c37)
      try (have c37b3 := c37b2; simp only [ByteArray.size_append] at c37b3)
      try (have c37b4 := c37b2; simp only [ByteArray.size_extract, ByteArray.size_append, Nat.sub_zero] at c37b4)
      replace H := bs_ H
      obtain ⟨t287, A380, H⟩ := H
      try dsimp only at H
      have A38 := Aside0.mk A380
      clear A380
      replace H := bs_ H
      obtain ⟨⟨t290, t291⟩, A390, H⟩ := H
      try dsimp only at H
      have A39 := Aside0.mk A390
      clear A390
      by_cases c40 : x4_2.size + (t286 ++ x5_2).size ≤ 9223372036854775807
      rotate_left
      ·rw [if_neg c40] at H
       exact absurd H r17_
      rw [if_pos c40] at H
      have c40b0 := eq_true c40
      have c40b1 : decide (x4_2.size + (t286 ++ x5_2).size ≤ 9223372036854775807) = true := decide_eq_true c40
      try have c40b2 : (9223372036854775807 < x4_2.size + (t286 ++ x5_2).size) = False := eq_false (Nat.not_lt.2 c40)
      try (have c40b3 := c40b2; simp only [ByteArray.size_append] at c40b3)
      try (have c40b4 := c40b2; simp only [ByteArray.size_extract, ByteArray.size_append, Nat.sub_zero] at c40b4)
      by_cases c41 : (x4_2 ++ (t286 ++ x5_2)).size + t290.size ≤ 9223372036854775807
      rotate_left
      ·rw [if_neg c41] at H
       exact absurd H r17_
      rw [if_pos c41] at H
      have c41b0 := eq_true c41
      have c41b1 : decide ((x4_2 ++ (t286 ++ x5_2)).size + t290.size ≤ 9223372036854775807) = true := decide_eq_true c41
      try have c41b2 : (9223372036854775807 < (x4_2 ++ (t286 ++ x5_2)).size + t290.size) = False := eq_false (Nat.not_lt.2 c41)
      try (have c41b3 := c41b2; simp only [ByteArray.size_append] at c41b3)
      try (have c41b4 := c41b2; simp only [ByteArray.size_extract, ByteArray.size_append, Nat.sub_zero] at c41b4)
      replace H := bs_ H
      obtain ⟨t292, A420, H⟩ := H
      try dsimp only at H
      have A42 := Aside0.mk A420
      clear A420
      by_cases c43 : ((x4_2 ++ (t286 ++ x5_2)) ++ t290).size + t292.size ≤ 9223372036854775807
      rotate_left
      ·rw [if_neg c43] at H
       exact absurd H r17_
      rw [if_pos c43] at H
      have c43b0 := eq_true c43
      have c43b1 : decide (((x4_2 ++ (t286 ++ x5_2)) ++ t290).size + t292.size ≤ 9223372036854775807) = true := decide_eq_true c43
      try have c43b2 : (9223372036854775807 < ((x4_2 ++ (t286 ++ x5_2)) ++ t290).size + t292.size) = False := eq_false (Nat.not_lt.2 c43)
      try (have c43b3 := c43b2; simp only [ByteArray.size_append] at c43b3)
      try (have c43b4 := c43b2; simp only [ByteArray.size_extract, ByteArray.size_append, Nat.sub_zero] at c43b4)
      replace H := bs_ H
      obtain ⟨t293, A440, H⟩ := H
      try dsimp only at H
      have A44 := Aside0.mk A440
      clear A440
      by_cases c45 : (((x4_2 ++ (t286 ++ x5_2)) ++ t290) ++ t292).size + t293.size ≤ 9223372036854775807
      rotate_left
      ·rw [if_neg c45] at H
       exact absurd H r17_
      rw [if_pos c45] at H
      have c45b0 := eq_true c45
      have c45b1 : decide ((((x4_2 ++ (t286 ++ x5_2)) ++ t290) ++ t292).size + t293.size ≤ 9223372036854775807) = true := decide_eq_true c45
      try have c45b2 : (9223372036854775807 < (((x4_2 ++ (t286 ++ x5_2)) ++ t290) ++ t292).size + t293.size) = False := eq_false (Nat.not_lt.2 c45)
      try (have c45b3 := c45b2; simp only [ByteArray.size_append] at c45b3)
      try (have c45b4 := c45b2; simp only [ByteArray.size_extract, ByteArray.size_append, Nat.sub_zero] at c45b4)
      replace H := bs_ H
      obtain ⟨t294, A460, H⟩ := H
      try dsimp only at H
      have A46 := Aside0.mk A460
      clear A460
      by_cases c47 : ((((x4_2 ++ (t286 ++ x5_2)) ++ t290) ++ t292) ++ t293).size + t294.size ≤ 9223372036854775807
      rotate_left
      ·rw [if_neg c47] at H
       exact absurd H r17_
      rw [if_pos c47] at H
      have c47b0 := eq_true c47
      have c47b1 : decide (((((x4_2 ++ (t286 ++ x5_2)) ++ t290) ++ t292) ++ t293).size + t294.size ≤ 9223372036854775807) = true := decide_eq_true c47
      try have c47b2 : (9223372036854775807 < ((((x4_2 ++ (t286 ++ x5_2)) ++ t290) ++ t292) ++ t293).size + t294.size) = False := eq_false (Nat.not_lt.2 c47)
      try (have c47b3 := c47b2; simp only [ByteArray.size_append] at c47b3)
      try (have c47b4 := c47b2; simp only [ByteArray.size_extract, ByteArray.size_append, Nat.sub_zero] at c47b4)
      by_cases c48 : (((((x4_2 ++ (t286 ++ x5_2)) ++ t290) ++ t292) ++ t293) ++ t294).size + 8 ≤ 9223372036854775807
      rotate_left
      ·rw [if_neg c48] at H
       exact absurd H r17_
      rw [if_pos c48] at H
      have c48b0 := eq_true c48
      have c48b1 : decide ((((((x4_2 ++ (t286 ++ x5_2)) ++ t290) ++ t292) ++ t293) ++ t294).size + 8 ≤ 9223372036854775807) = true := decide_eq_true c48
      try have c48b2 : (9223372036854775807 < (((((x4_2 ++ (t286 ++ x5_2)) ++ t290) ++ t292) ++ t293) ++ t294).size + 8) = False := eq_false (Nat.not_lt.2 c48)
      try (have c48b3 := c48b2; simp only [ByteArray.size_append] at c48b3)
      try (have c48b4 := c48b2; simp only [ByteArray.size_extract, ByteArray.size_append, Nat.sub_zero] at c48b4)
      simp only [Option.some.injEq, Prod.mk.injEq] at H
      obtain ⟨rfl, rfl⟩ := H
      have y_ := of_decide_eq_true c37b1
      have Az_ := A42.out
      rw [IntWalk.u64_in _ (by have h_ : ((t286 ++ x5_2).size : Int) = (t286.size : Int) + (x5_2.size : Int) := (by rw [ByteArray.size_append]; rfl); omega), ByteArray.size_append, Int.natCast_add] at Az_
      clear A42 y_
      have A42 := Aside0.mk Az_
      clear Az_
      go_wp2_with (first | ((with_reducible refine gate_callee (f := 37) rfl ?_); refine goesL_ (some 85) rfl rfl Try.func37 r2_ rfl #[.int .u64 (IntKind.u64.wrap (x6_2))] rfl hA_ ?_; (with_reducible refine (qt.calls k2 (IntKind.u64.wrap (x6_2)) t286 _ A36.out).mono ?_); rintro e w49 ⟨rfl, hb⟩; refine ⟨_, rfl, ?_⟩; replace HB := Aside0.mk (below_step hB_ hb); clear hb A36) | ((with_reducible refine gate_callee (f := 39) rfl ?_); refine goesL_ (some 90) rfl rfl Try.func39 r2_ rfl #[.slice A0 l0.length c0] rfl hA_ ?_; (with_reducible refine (qz.calls k2 _ _ l0 t287 _ ?side1 ?side2 A38.out).mono ?_); (case side1 => repeat (first | exact (Kd.C_below HR0.out HB.out) | (with_reducible refine Kd.C_alloc ?_ _) | (with_reducible refine Kd.C_drewN ?_ _) | (with_reducible refine Kd.C_drew ?_))); (case side2 => exact HC0.out); rintro e w50 ⟨v288, rfl, ho0, hb⟩; refine ⟨_, rfl, ?_⟩; have HO289 := Aside0.mk (Kd.R_lower ho0 (below_size hB_)); replace HB := Aside0.mk (below_step hB_ hb); clear hb ho0 A38; obtain ⟨Ao51, co51, eo51⟩ := Kd.R_slice HO289.out; subst eo51) | ((with_reducible refine gate_callee (f := 38) rfl ?_); refine goesL_ (some 91) rfl rfl Try.func38 r2_ rfl #[.slice Ao51 t287.length co51] rfl hA_ ?_; (with_reducible refine (ql.calls k2 _ _ t287 t290 t291 _ ?side1 ?side2 A39.out).mono ?_); (case side1 => repeat (first | exact (Kd.R_reads' HO289.out).2.2 | (with_reducible refine Kd.C_alloc ?_ _) | (with_reducible refine Kd.C_drewN ?_ _) | (with_reducible refine Kd.C_drew ?_))); (case side2 => exact (Kd.R_reads' HO289.out).2.1); rintro e w52 ⟨rfl, hb⟩; refine ⟨_, rfl, ?_⟩; replace HO289 := Aside0.mk (Kd.R_below r41_ hb); replace HB := Aside0.mk (below_step hB_ hb); clear hb A39) | ((with_reducible refine gate_callee (f := 40) rfl ?_); refine goesL_ (some 102) rfl rfl Try.func40 r2_ rfl #[.int .u64 ((t286.size : Int) + (x5_2.size : Int))] rfl hA_ ?_; (with_reducible refine (qw.calls k2 ((t286.size : Int) + (x5_2.size : Int)) t292 _ A42.out).mono ?_); rintro e w53 ⟨rfl, hb⟩; refine ⟨_, rfl, ?_⟩; replace HO289 := Aside0.mk (Kd.R_below r41_ hb); replace HB := Aside0.mk (below_step hB_ hb); clear hb A42) | ((with_reducible refine gate_callee (f := 40) rfl ?_); refine goesL_ (some 107) rfl rfl Try.func40 r2_ rfl #[.int .u64 (IntKind.u64.wrap ((t290.size : Int)))] rfl hA_ ?_; (with_reducible refine (qw.calls k2 (IntKind.u64.wrap ((t290.size : Int))) t293 _ A44.out).mono ?_); rintro e w54 ⟨rfl, hb⟩; refine ⟨_, rfl, ?_⟩; replace HO289 := Aside0.mk (Kd.R_below r41_ hb); replace HB := Aside0.mk (below_step hB_ hb); clear hb A44) | ((with_reducible refine gate_callee (f := 40) rfl ?_); refine goesL_ (some 112) rfl rfl Try.func40 r2_ rfl #[.int .u64 (IntKind.u64.wrap ((l0.length : Int)))] rfl hA_ ?_; (with_reducible refine (qw.calls k2 (IntKind.u64.wrap ((l0.length : Int))) t294 _ A46.out).mono ?_); rintro e w55 ⟨rfl, hb⟩; refine ⟨_, rfl, ?_⟩; replace HO289 := Aside0.mk (Kd.R_below r41_ hb); replace HB := Aside0.mk (below_step hB_ hb); clear hb A46))
      go_ret2
      exact ⟨rf_, hB_⟩
     rw [if_pos c7] at H
     have c7b0 := decide_eq_true c7
     clear c7
     have HC8 := Aside0.mk H
     clear H
     go_upto_if 37 with (fail)
     go_cut [8] (fun v8 wc => ∃ (kq : Nat) (x8_7 : Int), v8 = .int .i64 x8_7 ∧ Aside0 (qr.j2 kq l0 x4_2 x5_2 x6_2 x7_2 x8_7 = some (r1, r2)) ∧ Aside0 (kq ≤ k2) ∧ Aside0 (Below w.heap.size w wc))
     case first =>
      have H := HC8.out
      clear HC8
      by_cases c9 : (wrap64 (x7_2 + 8)) > (l0.length : Int)
      ·rw [if_pos c9] at H
       have c9b0 : decide ((l0.length : Int) < (wrap64 (x7_2 + 8))) = true := decide_eq_true c9
       clear c9
       (first | rw [c9b0] | (simp only [i64_w, i32_w]; rw [c9b0]) | skip)
       have H' := Aside0.mk H
       clear H
       go_wp2
       go_meet
       case rel => exact ⟨_, ((l0.length : Int)), rs_, hH_, ⟨by have := HJ1.out; have := HK2.out; first | omega | exact Nat.le_refl _⟩, ⟨hB_⟩⟩
      rw [if_neg c9] at H
      have c9b0 : decide ((l0.length : Int) < (wrap64 (x7_2 + 8))) = false := decide_eq_false c9
      clear c9
      (first | rw [c9b0] | (simp only [i64_w, i32_w]; rw [c9b0]) | skip)
      have H' := Aside0.mk H
      clear H
      go_wp2
      go_meet
      case rel => exact ⟨_, (wrap64 (x7_2 + 8)), rs_, hH_, ⟨by have := HJ1.out; have := HK2.out; first | omega | exact Nat.le_refl _⟩, ⟨hB_⟩⟩
     case rest =>
      clear HC8
      try clear c6
      try clear c7
      try clear c7b0
      obtain ⟨kq, x8_7, rfl, HA, HJ7, HB⟩ := hcut
      cases kq with
      | zero => exact absurd HA.out (by simp [qr.j2])
      | succ kj7 =>
       have H := HA.out
       clear HA
       simp only [qr.j2] at H
       by_cases c10 : 0 ≤ x7_2
       rotate_left
       ·rw [if_neg c10] at H
        exact absurd H r17_
       rw [if_pos c10] at H
       have c10b0 := eq_true c10
       have c10b1 : decide (0 ≤ x7_2) = true := decide_eq_true c10
       clear c10
       by_cases c11 : x7_2 ≤ x8_7
       rotate_left
       ·rw [if_neg c11] at H
        exact absurd H r17_
       rw [if_pos c11] at H
       have c11b0 := eq_true c11
       have c11b1 : decide (x7_2 ≤ x8_7) = true := decide_eq_true c11
       clear c11
       by_cases c12 : x8_7 ≤ (l0.length : Int)
       rotate_left
       ·rw [if_neg c12] at H
        exact absurd H r17_
       rw [if_pos c12] at H
       have c12b0 := eq_true c12
       have c12b1 : decide (x8_7 ≤ (l0.length : Int)) = true := decide_eq_true c12
       clear c12
       obtain ⟨y274, hy274⟩ : ∃ y_ : List (S37), y_ = ((l0.take (x8_7 : Int).toNat).drop (x7_2 : Int).toNat) := ⟨_, rfl⟩
       replace H : ((qg.f kj7 y274).bind fun bt278 => (if bt278.2 = 0 then (if 0 ≤ (wrap64 (x8_7 - 1)) then (if (wrap64 (x8_7 - 1)) < (l0.length : Int) then ((qT.f kj7 ((rd_T37 l0 (wrap64 (x8_7 - 1))).f0)).bind fun t281 => ((qt.f kj7 ((rd_T37 l0 (wrap64 (x8_7 - 1))).f1)).bind fun t283 => (if t281.size + t283.size ≤ 9223372036854775807 then ((qt.f kj7 (IntKind.u64.wrap ((x4_2.size : Int)))).bind fun t284 => (if (t281 ++ t283).size + t284.size ≤ 9223372036854775807 then ((qt.f kj7 (IntKind.u64.wrap ((bt278.1.size : Int)))).bind fun t285 => (if ((t281 ++ t283) ++ t284).size + t285.size ≤ 9223372036854775807 then (if x5_2.size + (((t281 ++ t283) ++ t284) ++ t285).size ≤ 9223372036854775807 then (if x4_2.size + bt278.1.size ≤ 9223372036854775807 then (qr.l0 kj7 l0 (x4_2 ++ bt278.1) (x5_2 ++ (((t281 ++ t283) ++ t284) ++ t285)) (wrap64 (x6_2 + 1)) (wrap64 (x7_2 + 8))) else (none)) else (none)) else (none))) else (none))) else (none)))) else (none)) else (none)) else (some ((⟨#[]⟩ : ByteArray), bt278.2)))) = some (r1, r2) := by first | (rw [hy274]; with_reducible exact H) | (have H2_ := (Option.bind_some _ _).symm.trans H; rw [hy274]; with_reducible exact H2_) | (have H2_ := (Option.bind_some _ _).symm.trans H; with_reducible exact H2_) | with_reducible exact H | (rw [hy274]; exact H) | exact H
       have Ny274 := Aside0.mk hy274
       clear hy274
       replace H := bs_ H
       obtain ⟨⟨t278, t279⟩, A130, H⟩ := H
       try dsimp only at H
       have A13 := Aside0.mk A130
       clear A130
       by_cases c14 : t279 = 0
       rotate_left
       ·rw [if_neg c14] at H
        have c14b0 := beq_eq_false_iff_ne.mpr c14
        have c14b1 := bne_iff_ne.mpr c14
        simp only [Option.some.injEq, Prod.mk.injEq] at H
        obtain ⟨rfl, rfl⟩ := H
        have q34 : (x8_7 : Int) ≤ ((l0.length : Int) : Int) := of_decide_eq_true as_
        obtain ⟨i034, hi034, _, hsz34, _⟩ := info_parts info37
        have hroom34 : l0.length ≤ c0 := HC0.out
        have hC34 : Kd.C k37 _ A0 l0.length l0 := HR0.out
        have ql34 : (x7_2 : Int) ≤ (x8_7 : Int) := of_decide_eq_true as_
        have q034 : (0 : Int) ≤ (x7_2 : Int) := of_decide_eq_true as_
        have hcut34 := cut_mid (P := Try.prog) 22 37 .i64 .i64 Try.underlying22 hi034 4 hsz34 A0 l0.length c0 x7_2 x8_7 q034 ql34 q34 hroom34
        have hr34 := Kd.C_mid (lo := (x7_2 : Int).toNat) (hi := (x8_7 : Int).toNat) (c := c0) hC34 r18_ r18_ hroom34
        obtain ⟨A34, hA34⟩ : ∃ A1, A1 = (if c0 = (x7_2 : Int).toNat then A0 else (A0 : Option Addr).map (·.add ((x7_2 : Int).toNat * 4))) := ⟨_, rfl⟩
        obtain ⟨c34, hc34⟩ : ∃ c1, c1 = c0 - (x7_2 : Int).toNat := ⟨_, rfl⟩
        have hy34 : y274.length = (x8_7 : Int).toNat - (x7_2 : Int).toNat := (by rw [Ny274.out, List.length_drop, List.length_take] <;> omega)
        rw [show ((l0).take (x8_7 : Int).toNat).drop (x7_2 : Int).toNat = y274 from Ny274.out.symm] at hr34
        replace hr34 : Kd.C k37 _ A34 y274.length y274 := (by rw [hA34]; exact hr34)
        rw [← hy34, ← hA34, ← hc34] at hcut34
        have HR277 := Aside0.mk hr34
        have HC277 := Aside0.mk (show y274.length ≤ c34 from by rw [hy34, hc34]; exact Nat.sub_le_sub_right (Nat.le_trans r18_ hroom34) _)
        clear hr34 hC34 hroom34 hi034 hsz34 hc34
        have KY34 := Aside0.mk hy34
        have KA34 := Aside0.mk hA34
        clear hy34 hA34
        replace q34 := eq_true q34
        go_wp2_with (first | ((with_reducible refine gate_callee (f := 35) rfl ?_); refine goesL_ (some 45) rfl rfl Try.func35 r2_ rfl #[.slice A34 y274.length c34] rfl hA_ ?_; (with_reducible refine (qg.calls kj7 _ _ y274 t278 t279 _ ?side1 ?side2 A13.out).mono ?_); (case side1 => repeat (first | exact (Kd.C_below HR277.out HB.out) | (with_reducible refine Kd.C_alloc ?_ _) | (with_reducible refine Kd.C_drewN ?_ _) | (with_reducible refine Kd.C_drew ?_))); (case side2 => exact HC277.out); rintro e w35 ⟨rfl, hb⟩; refine ⟨_, rfl, ?_⟩; replace HB := Aside0.mk (below_step hB_ hb); clear hb A13))
        go_ret2
        exact ⟨rf_, hB_⟩
       rw [if_pos c14] at H
       have c14b0 := beq_iff_eq.mpr c14
       have c14b1 := bne_eq_false_iff_eq.mpr c14
       clear c14
       obtain ⟨ji15, hji15⟩ : ∃ j_ : Int, (wrap64 (x8_7 - 1)) = j_ := ⟨_, rfl⟩
       replace H : (if 0 ≤ (ji15) then (if (ji15) < (l0.length : Int) then ((qT.f kj7 ((rd_T37 l0 (ji15)).f0)).bind fun t281 => ((qt.f kj7 ((rd_T37 l0 (ji15)).f1)).bind fun t283 => (if t281.size + t283.size ≤ 9223372036854775807 then ((qt.f kj7 (IntKind.u64.wrap ((x4_2.size : Int)))).bind fun t284 => (if (t281 ++ t283).size + t284.size ≤ 9223372036854775807 then ((qt.f kj7 (IntKind.u64.wrap ((t278.size : Int)))).bind fun t285 => (if ((t281 ++ t283) ++ t284).size + t285.size ≤ 9223372036854775807 then (if x5_2.size + (((t281 ++ t283) ++ t284) ++ t285).size ≤ 9223372036854775807 then (if x4_2.size + t278.size ≤ 9223372036854775807 then (qr.l0 kj7 l0 (x4_2 ++ t278) (x5_2 ++ (((t281 ++ t283) ++ t284) ++ t285)) (wrap64 (x6_2 + 1)) (wrap64 (x7_2 + 8))) else (none)) else (none)) else (none))) else (none))) else (none)))) else (none)) else (none)) = some (r1, r2) := by first | (rw [hji15] at H; exact H) | (simp only [hji15] at H ⊢; exact H)
       (try rw [hji15])
       (try rw [hji15] at A13)
       have hji15w : (IntKind.i64.wrap (x8_7 - 1)) = ji15 := (i64_w _).trans hji15
       by_cases c16 : 0 ≤ (ji15)
       rotate_left
       ·rw [if_neg c16] at H
        exact absurd H r17_
       rw [if_pos c16] at H
       have c16b0 := decide_eq_true c16
       clear c16
       by_cases c17 : (ji15) < (l0.length : Int)
       rotate_left
       ·rw [if_neg c17] at H
        exact absurd H r17_
       rw [if_pos c17] at H
       have c17b0 := decide_eq_true c17
       clear c17
       replace H := bs_ H
       obtain ⟨t281, A180, H⟩ := H
       try dsimp only at H
       have A18 := Aside0.mk A180
       clear A180
       replace H := bs_ H
       obtain ⟨t283, A190, H⟩ := H
       try dsimp only at H
       have A19 := Aside0.mk A190
       clear A190
       by_cases c20 : t281.size + t283.size ≤ 9223372036854775807
       rotate_left
       ·rw [if_neg c20] at H
        exact absurd H r17_
       rw [if_pos c20] at H
       have c20b0 := eq_true c20
       have c20b1 : decide (t281.size + t283.size ≤ 9223372036854775807) = true := decide_eq_true c20
       try have c20b2 : (9223372036854775807 < t281.size + t283.size) = False := eq_false (Nat.not_lt.2 c20)
       try (have c20b3 := c20b2; simp only [ByteArray.size_append] at c20b3)
       try (have c20b4 := c20b2; simp only [ByteArray.size_extract, ByteArray.size_append, Nat.sub_zero] at c20b4)
       replace H := bs_ H
       obtain ⟨t284, A210, H⟩ := H
       try dsimp only at H
       have A21 := Aside0.mk A210
       clear A210
       by_cases c22 : (t281 ++ t283).size + t284.size ≤ 9223372036854775807
       rotate_left
       ·rw [if_neg c22] at H
        exact absurd H r17_
       rw [if_pos c22] at H
       have c22b0 := eq_true c22
       have c22b1 : decide ((t281 ++ t283).size + t284.size ≤ 9223372036854775807) = true := decide_eq_true c22
       try have c22b2 : (9223372036854775807 < (t281 ++ t283).size + t284.size) = False := eq_false (Nat.not_lt.2 c22)
       try (have c22b3 := c22b2; simp only [ByteArray.size_append] at c22b3)
       try (have c22b4 := c22b2; simp only [ByteArray.size_extract, ByteArray.size_append, Nat.sub_zero] at c22b4)
       replace H := bs_ H
       obtain ⟨t285, A230, H⟩ := H
       try dsimp only at H
       have A23 := Aside0.mk A230
       clear A230
       by_cases c24 : ((t281 ++ t283) ++ t284).size + t285.size ≤ 9223372036854775807
       rotate_left
       ·rw [if_neg c24] at H
        exact absurd H r17_
       rw [if_pos c24] at H
       have c24b0 := eq_true c24
       have c24b1 : decide (((t281 ++ t283) ++ t284).size + t285.size ≤ 9223372036854775807) = true := decide_eq_true c24
       try have c24b2 : (9223372036854775807 < ((t281 ++ t283) ++ t284).size + t285.size) = False := eq_false (Nat.not_lt.2 c24)
       try (have c24b3 := c24b2; simp only [ByteArray.size_append] at c24b3)
       try (have c24b4 := c24b2; simp only [ByteArray.size_extract, ByteArray.size_append, Nat.sub_zero] at c24b4)
       by_cases c25 : x5_2.size + (((t281 ++ t283) ++ t284) ++ t285).size ≤ 9223372036854775807
       rotate_left
       ·rw [if_neg c25] at H
        exact absurd H r17_
       rw [if_pos c25] at H
       have c25b0 := eq_true c25
       have c25b1 : decide (x5_2.size + (((t281 ++ t283) ++ t284) ++ t285).size ≤ 9223372036854775807) = true := decide_eq_true c25
       try have c25b2 : (9223372036854775807 < x5_2.size + (((t281 ++ t283) ++ t284) ++ t285).size) = False := eq_false (Nat.not_lt.2 c25)
       try (have c25b3 := c25b2; simp only [ByteArray.size_append] at c25b3)
       try (have c25b4 := c25b2; simp only [ByteArray.size_extract, ByteArray.size_append, Nat.sub_zero] at c25b4)
       by_cases c26 : x4_2.size + t278.size ≤ 9223372036854775807
       rotate_left
       ·rw [if_neg c26] at H
        exact absurd H r17_
       rw [if_pos c26] at H
       have c26b0 := eq_true c26
       have c26b1 : decide (x4_2.size + t278.size ≤ 9223372036854775807) = true := decide_eq_true c26
       try have c26b2 : (9223372036854775807 < x4_2.size + t278.size) = False := eq_false (Nat.not_lt.2 c26)
       try (have c26b3 := c26b2; simp only [ByteArray.size_append] at c26b3)
       try (have c26b4 := c26b2; simp only [ByteArray.size_extract, ByteArray.size_append, Nat.sub_zero] at c26b4)
       have H' := Aside0.mk H
       clear H
       have q27 : (x8_7 : Int) ≤ ((l0.length : Int) : Int) := of_decide_eq_true as_
       obtain ⟨i027, hi027, _, hsz27, _⟩ := info_parts info37
       have hroom27 : l0.length ≤ c0 := HC0.out
       have hC27 : Kd.C k37 _ A0 l0.length l0 := HR0.out
       have ql27 : (x7_2 : Int) ≤ (x8_7 : Int) := of_decide_eq_true as_
       have q027 : (0 : Int) ≤ (x7_2 : Int) := of_decide_eq_true as_
       have hcut27 := cut_mid (P := Try.prog) 22 37 .i64 .i64 Try.underlying22 hi027 4 hsz27 A0 l0.length c0 x7_2 x8_7 q027 ql27 q27 hroom27
       have hr27 := Kd.C_mid (lo := (x7_2 : Int).toNat) (hi := (x8_7 : Int).toNat) (c := c0) hC27 r18_ r18_ hroom27
       obtain ⟨A27, hA27⟩ : ∃ A1, A1 = (if c0 = (x7_2 : Int).toNat then A0 else (A0 : Option Addr).map (·.add ((x7_2 : Int).toNat * 4))) := ⟨_, rfl⟩
       obtain ⟨c27, hc27⟩ : ∃ c1, c1 = c0 - (x7_2 : Int).toNat := ⟨_, rfl⟩
       have hy27 : y274.length = (x8_7 : Int).toNat - (x7_2 : Int).toNat := (by rw [Ny274.out, List.length_drop, List.length_take] <;> omega)
       rw [show ((l0).take (x8_7 : Int).toNat).drop (x7_2 : Int).toNat = y274 from Ny274.out.symm] at hr27
       replace hr27 : Kd.C k37 _ A27 y274.length y274 := (by rw [hA27]; exact hr27)
       rw [← hy27, ← hA27, ← hc27] at hcut27
       have HR277 := Aside0.mk hr27
       have HC277 := Aside0.mk (show y274.length ≤ c27 from by rw [hy27, hc27]; exact Nat.sub_le_sub_right (Nat.le_trans r18_ hroom27) _)
       clear hr27 hC27 hroom27 hi027 hsz27 hc27
       have KY27 := Aside0.mk hy27
       have KA27 := Aside0.mk hA27
       clear hy27 hA27
       replace q27 := eq_true q27
       try go_wp2_with (first | ((with_reducible refine gate_callee (f := 35) rfl ?_); refine goesL_ (some 45) rfl rfl Try.func35 r2_ rfl #[.slice A27 y274.length c27] rfl hA_ ?_; (with_reducible refine (qg.calls kj7 _ _ y274 t278 t279 _ ?side1 ?side2 A13.out).mono ?_); (case side1 => repeat (first | exact (Kd.C_below HR277.out HB.out) | (with_reducible refine Kd.C_alloc ?_ _) | (with_reducible refine Kd.C_drewN ?_ _) | (with_reducible refine Kd.C_drew ?_))); (case side2 => exact HC277.out); rintro e w28 ⟨rfl, hb⟩; refine ⟨_, rfl, ?_⟩; replace HB := Aside0.mk (below_step hB_ hb); clear hb A13))
       replace HB := Aside0.mk (below_drew1 HB.out)
       have p280 : 0 ≤ ((ji15) : Int) := of_decide_eq_true as_
       have q280 : (ji15) < (l0.length : Int) := of_decide_eq_true as_
       obtain ⟨ad280, e280, hx280_0, hx280_1, hx280_2, hx280_3⟩ := at_T37 HR0.out (ji15) p280 q280
       have hw280_3 := hx280_3
       have hw280_2 := hx280_2
       have hw280_1 := hx280_1
       have hw280_0 := hx280_0
       cases e280
       replace hx280_0 := (HB.out.cell (World.block_lt_of_cell? w _ hx280_0)).trans hx280_0
       replace hx280_1 := (HB.out.cell (World.block_lt_of_cell? w _ hx280_1)).trans hx280_1
       replace hx280_2 := (HB.out.cell (World.block_lt_of_cell? w _ hx280_2)).trans hx280_2
       replace hx280_3 := (HB.out.cell (World.block_lt_of_cell? w _ hx280_3)).trans hx280_3
       replace p280 := eq_true p280
       replace q280 := eq_true q280
       have p282 : 0 ≤ ((ji15) : Int) := of_decide_eq_true as_
       have q282 : (ji15) < (l0.length : Int) := of_decide_eq_true as_
       obtain ⟨ad282, e282, hx282_0, hx282_1, hx282_2, hx282_3⟩ := at_T37 HR0.out (ji15) p282 q282
       have hw282_3 := hx282_3
       have hw282_2 := hx282_2
       have hw282_1 := hx282_1
       have hw282_0 := hx282_0
       obtain rfl : ad280 = ad282 := (by injection e282)
       replace hx282_0 := (HB.out.cell (World.block_lt_of_cell? w _ hx282_0)).trans hx282_0
       replace hx282_1 := (HB.out.cell (World.block_lt_of_cell? w _ hx282_1)).trans hx282_1
       replace hx282_2 := (HB.out.cell (World.block_lt_of_cell? w _ hx282_2)).trans hx282_2
       replace hx282_3 := (HB.out.cell (World.block_lt_of_cell? w _ hx282_3)).trans hx282_3
       replace p282 := eq_true p282
       replace q282 := eq_true q282
       refine start_ (n := 28) (S := fun w' => w'.cell? (ad280.add (((ji15)).toNat * 4)) = some (.string ((rd_T37 l0 (ji15)).f0)) ∧ w'.cell? ⟨(ad280.add (((ji15)).toNat * 4)).block, (ad280.add (((ji15)).toNat * 4)).off + 1, none⟩ = some (.int .u64 ((rd_T37 l0 (ji15)).f1)) ∧ w'.cell? ⟨(ad280.add (((ji15)).toNat * 4)).block, (ad280.add (((ji15)).toNat * 4)).off + 2, none⟩ = some (.bool ((rd_T37 l0 (ji15)).f2)) ∧ w'.cell? ⟨(ad280.add (((ji15)).toNat * 4)).block, (ad280.add (((ji15)).toNat * 4)).off + 3, none⟩ = some (.string ((rd_T37 l0 (ji15)).f3)) ∧ w'.cell? (ad280.add (((ji15)).toNat * 4)) = some (.string ((rd_T37 l0 (ji15)).f0)) ∧ w'.cell? ⟨(ad280.add (((ji15)).toNat * 4)).block, (ad280.add (((ji15)).toNat * 4)).off + 1, none⟩ = some (.int .u64 ((rd_T37 l0 (ji15)).f1)) ∧ w'.cell? ⟨(ad280.add (((ji15)).toNat * 4)).block, (ad280.add (((ji15)).toNat * 4)).off + 2, none⟩ = some (.bool ((rd_T37 l0 (ji15)).f2)) ∧ w'.cell? ⟨(ad280.add (((ji15)).toNat * 4)).block, (ad280.add (((ji15)).toNat * 4)).off + 3, none⟩ = some (.string ((rd_T37 l0 (ji15)).f3))) (ds := []) #[N,N,N,N,N,N,N,N,N,N,N,N,N,N,N,N,N,N,N,N,N,N,N,N,N,N,N,N] r2_ rfl rfl ⟨((HB.out.cell (World.block_lt_of_cell? w _ hw280_0)).trans hw280_0), ((HB.out.cell (World.block_lt_of_cell? w _ hw280_1)).trans hw280_1), ((HB.out.cell (World.block_lt_of_cell? w _ hw280_2)).trans hw280_2), ((HB.out.cell (World.block_lt_of_cell? w _ hw280_3)).trans hw280_3), ((HB.out.cell (World.block_lt_of_cell? w _ hw282_0)).trans hw282_0), ((HB.out.cell (World.block_lt_of_cell? w _ hw282_1)).trans hw282_1), ((HB.out.cell (World.block_lt_of_cell? w _ hw282_2)).trans hw282_2), ((HB.out.cell (World.block_lt_of_cell? w _ hw282_3)).trans hw282_3)⟩ (fun hHeld => ?_); refine with_tabW qr.tab15 qr.bits15 (fun HT_ HW_ => ?_)
       generalize w28.drew = w29 at HB hx280_0 hx280_1 hx280_2 hx280_3 hx282_0 hx282_1 hx282_2 hx282_3 hHeld ⊢
       refine pu_ 0 (some 51) (mk_ 28 1) (any_of HT_.out r2_) ?_
       refine pu_ 1 (some 52) (mk_ 28 3) (any_of HT_.out r2_) ?_
       refine pu_ 2 (some 53) (mk_ 28 7) (any_of HT_.out r2_) ?_
       refine pu_ 3 (some 54) (mk_ 28 15) (any_of HT_.out r2_) ?_
       refine pu_ 4 (some 55) (mk_ 28 31) (any_of HT_.out r2_) ?_
       refine pu_ 5 (some 56) (mk_ 28 63) (any_of HT_.out r2_) ?_
       refine pu_ 8 (some 59) (mk_ 28 319) (any_of HT_.out r2_) ?_
       refine pu_ 9 (some 60) (mk_ 28 831) (any_of HT_.out r2_) ?_
       refine pu_ 10 (some 61) (mk_ 28 1855) (any_of HT_.out r2_) ?_
       refine pu_ 11 (some 62) (mk_ 28 3903) (any_of HT_.out r2_) ?_
       refine pu_ 12 (some 63) (mk_ 28 7999) (any_of HT_.out r2_) ?_
       refine pu_ 16 (some 67) (mk_ 28 73535) (any_of HT_.out r2_) ?_
       refine pu_ 17 (some 68) (mk_ 28 204607) (any_of HT_.out r2_) ?_
       refine pu_ 18 (some 69) (mk_ 28 466751) (any_of HT_.out r2_) ?_
       refine pu_ 21 (some 72) (mk_ 28 2563903) (any_of HT_.out r2_) ?_
       refine pu_ 22 (some 73) (mk_ 28 6758207) (any_of HT_.out r2_) ?_
       refine pu_ 23 (some 74) (mk_ 28 15146815) (any_of HT_.out r2_) ?_
       refine tk_ (v := ?_) 6 (some 57) (mk_ 28 15146879) (take_ofW HT_.out HW_.out r2_) hHeld ?_ ?_
       rotate_left
       ·rintro w' ⟨s0, s1, s2, s3, s4, s5, s6, s7⟩
        go_simp
        with_reducible rfl
       refine tk_ (v := ?_) 13 (some 64) (mk_ 28 15155071) (take_ofW HT_.out HW_.out r2_) hHeld ?_ ?_
       rotate_left
       ·rintro w' ⟨s0, s1, s2, s3, s4, s5, s6, s7⟩
        go_simp
        with_reducible rfl
       refine one_ (i := 7) (N := some 58) (mk_ 28 15155199) rfl rfl (one_of HT_.out r2_) r24_ (fun K hK => ?_)
       refine goes_ Try.func36 r2_ rfl #[.string ((rd_T37 l0 (ji15)).f0)] r37_ rfl rfl (by (try simp only [List.map_toArray, List.map_cons, List.map_nil]); first | done | (simp only [hji15]; rfl) | rfl | (simp only [List.length_drop, List.length_take]; rfl) | (simp (disch := omega) only [IntWalk.u64_in, IntWalk.i64_in, IntWalk.u8_in]; rfl)) ?_
       with_reducible refine (qT.calls kj7 ((rd_T37 l0 (ji15)).f0) t281 _ A18.out).mono ?_
       rintro e w30 ⟨rfl, hb⟩
       refine ⟨_, rfl, ?_⟩
       replace HB := Aside0.mk (below_step hB_ hb)
       (try clear hb)
       (try clear hb2)
       (try clear hk)
       (try clear hi)
       (try clear A18)
       refine hK.out _ _ ⟨((HB.out.cell (World.block_lt_of_cell? w _ hw280_0)).trans hw280_0), ((HB.out.cell (World.block_lt_of_cell? w _ hw280_1)).trans hw280_1), ((HB.out.cell (World.block_lt_of_cell? w _ hw280_2)).trans hw280_2), ((HB.out.cell (World.block_lt_of_cell? w _ hw280_3)).trans hw280_3), ((HB.out.cell (World.block_lt_of_cell? w _ hw282_0)).trans hw282_0), ((HB.out.cell (World.block_lt_of_cell? w _ hw282_1)).trans hw282_1), ((HB.out.cell (World.block_lt_of_cell? w _ hw282_2)).trans hw282_2), ((HB.out.cell (World.block_lt_of_cell? w _ hw282_3)).trans hw282_3)⟩ (fun hHeld => ?_)
       clear hK K
       refine nm_ (some 58) ?_
       refine one_ (i := 14) (N := some 65) (mk_ 28 15171583) rfl rfl (one_of HT_.out r2_) r24_ (fun K hK => ?_)
       refine goes_ Try.func37 r2_ rfl #[.int .u64 ((rd_T37 l0 (ji15)).f1)] r37_ rfl rfl (by (try simp only [List.map_toArray, List.map_cons, List.map_nil]); first | done | (simp only [hji15]; rfl) | rfl | (simp only [List.length_drop, List.length_take]; rfl) | (simp (disch := omega) only [IntWalk.u64_in, IntWalk.i64_in, IntWalk.u8_in]; rfl)) ?_
       with_reducible refine (qt.calls kj7 ((rd_T37 l0 (ji15)).f1) t283 _ A19.out).mono ?_
       rintro e w31 ⟨rfl, hb⟩
       refine ⟨_, rfl, ?_⟩
       replace HB := Aside0.mk (below_step hB_ hb)
       (try clear hb)
       (try clear hb2)
       (try clear hk)
       (try clear hi)
       (try clear A19)
       refine hK.out _ _ ⟨((HB.out.cell (World.block_lt_of_cell? w _ hw280_0)).trans hw280_0), ((HB.out.cell (World.block_lt_of_cell? w _ hw280_1)).trans hw280_1), ((HB.out.cell (World.block_lt_of_cell? w _ hw280_2)).trans hw280_2), ((HB.out.cell (World.block_lt_of_cell? w _ hw280_3)).trans hw280_3), ((HB.out.cell (World.block_lt_of_cell? w _ hw282_0)).trans hw282_0), ((HB.out.cell (World.block_lt_of_cell? w _ hw282_1)).trans hw282_1), ((HB.out.cell (World.block_lt_of_cell? w _ hw282_2)).trans hw282_2), ((HB.out.cell (World.block_lt_of_cell? w _ hw282_3)).trans hw282_3)⟩ (fun hHeld => ?_)
       clear hK K
       refine nm_ (some 65) ?_
       refine pu_ 15 (some 66) (mk_ 28 15204351) (any_of HT_.out r2_) ?_
       refine one_ (i := 19) (N := some 70) (mk_ 28 15728639) rfl rfl (one_of HT_.out r2_) r24_ (fun K hK => ?_)
       refine goes_ Try.func37 r2_ rfl #[.int .u64 (IntKind.u64.wrap ((x4_2.size : Int)))] r37_ rfl rfl hA_ ?_
       with_reducible refine (qt.calls kj7 (IntKind.u64.wrap ((x4_2.size : Int))) t284 _ A21.out).mono ?_
       rintro e w32 ⟨rfl, hb⟩
       refine ⟨_, rfl, ?_⟩
       replace HB := Aside0.mk (below_step hB_ hb)
       (try clear hb)
       (try clear hb2)
       (try clear hk)
       (try clear hi)
       (try clear A21)
       refine hK.out _ _ ⟨((HB.out.cell (World.block_lt_of_cell? w _ hw280_0)).trans hw280_0), ((HB.out.cell (World.block_lt_of_cell? w _ hw280_1)).trans hw280_1), ((HB.out.cell (World.block_lt_of_cell? w _ hw280_2)).trans hw280_2), ((HB.out.cell (World.block_lt_of_cell? w _ hw280_3)).trans hw280_3), ((HB.out.cell (World.block_lt_of_cell? w _ hw282_0)).trans hw282_0), ((HB.out.cell (World.block_lt_of_cell? w _ hw282_1)).trans hw282_1), ((HB.out.cell (World.block_lt_of_cell? w _ hw282_2)).trans hw282_2), ((HB.out.cell (World.block_lt_of_cell? w _ hw282_3)).trans hw282_3)⟩ (fun hHeld => ?_)
       clear hK K
       refine nm_ (some 70) ?_
       refine pu_ 20 (some 71) (mk_ 28 16777215) (any_of HT_.out r2_) ?_
       refine one_ (i := 24) (N := some 75) (mk_ 28 33554431) rfl rfl (one_of HT_.out r2_) r24_ (fun K hK => ?_)
       refine goes_ Try.func37 r2_ rfl #[.int .u64 (IntKind.u64.wrap ((t278.size : Int)))] r37_ rfl rfl hA_ ?_
       with_reducible refine (qt.calls kj7 (IntKind.u64.wrap ((t278.size : Int))) t285 _ A23.out).mono ?_
       rintro e w33 ⟨rfl, hb⟩
       refine ⟨_, rfl, ?_⟩
       replace HB := Aside0.mk (below_step hB_ hb)
       (try clear hb)
       (try clear hb2)
       (try clear hk)
       (try clear hi)
       (try clear A23)
       refine hK.out _ _ ⟨((HB.out.cell (World.block_lt_of_cell? w _ hw280_0)).trans hw280_0), ((HB.out.cell (World.block_lt_of_cell? w _ hw280_1)).trans hw280_1), ((HB.out.cell (World.block_lt_of_cell? w _ hw280_2)).trans hw280_2), ((HB.out.cell (World.block_lt_of_cell? w _ hw280_3)).trans hw280_3), ((HB.out.cell (World.block_lt_of_cell? w _ hw282_0)).trans hw282_0), ((HB.out.cell (World.block_lt_of_cell? w _ hw282_1)).trans hw282_1), ((HB.out.cell (World.block_lt_of_cell? w _ hw282_2)).trans hw282_2), ((HB.out.cell (World.block_lt_of_cell? w _ hw282_3)).trans hw282_3)⟩ (fun hHeld => ?_)
       clear hK K
       refine nm_ (some 75) ?_
       refine pu_ 25 (some 76) (mk_ 28 67108863) (any_of HT_.out r2_) ?_
       refine pu_ 26 (some 77) (mk_ 28 134217727) (any_of HT_.out r2_) ?_
       refine pu_ 27 (some 5) (mk_ 28 268435455) (any_of HT_.out r2_) ?_
       refine done_ (done_of HT_.out r2_) ?_
       (try clear hHeld)
       (try clear c10b0); (try clear c10b1); (try clear c10b2); (try clear c10b3); (try clear c10b4); (try clear c10b5); (try clear c10b6); (try clear c11b0); (try clear c11b1); (try clear c11b2); (try clear c11b3); (try clear c11b4); (try clear c11b5); (try clear c11b6); (try clear c12b0); (try clear c12b1); (try clear c12b2); (try clear c12b3); (try clear c12b4); (try clear c12b5); (try clear c12b6); (try clear c20b0); (try clear c20b1); (try clear c20b2); (try clear c20b3); (try clear c20b4); (try clear c20b5); (try clear c20b6); (try clear c22b0); (try clear c22b1); (try clear c22b2); (try clear c22b3); (try clear c22b4); (try clear c22b5); (try clear c22b6); (try clear c24b0); (try clear c24b1); (try clear c24b2); (try clear c24b3); (try clear c24b4); (try clear c24b5); (try clear c24b6); (try clear c25b0); (try clear c25b1); (try clear c25b2); (try clear c25b3); (try clear c25b4); (try clear c25b5); (try clear c25b6); (try clear c26b0); (try clear c26b1); (try clear c26b2); (try clear c26b3); (try clear c26b4); (try clear c26b5); (try clear c26b6)
       try go_wp2
       go_roundg kj7
       case measure => have := HJ1.out; have := HK2.out; have := HJ7.out; omega
       case rel => exact ⟨(x4_2 ++ t278), (x5_2 ++ (((t281 ++ t283) ++ t284) ++ t285)), (wrap64 (x6_2 + 1)), (wrap64 (x7_2 + 8)), rs_, rs_, rs_, rs_, hH_, ⟨by have := HJ1.out; have := HK2.out; have := HJ7.out; omega⟩, ⟨hB_⟩⟩

end Go.Proofs.Ytgdkikkjaofbfaa.P
