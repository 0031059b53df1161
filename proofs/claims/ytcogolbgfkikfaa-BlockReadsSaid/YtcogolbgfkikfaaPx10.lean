-- Printed by a program of this session's own (wip/tools/pprint.sh, over the kit's print, with given contracts): not typed by hand.
import Derived.Test.YtcogolbgfkikfaaPx0
import Derived.Test.YtcogolbgfkikfaaPx9
namespace Go.Proofs.Ytcogolbgfkikfaa.P
open Go.RowKit Go.Proofs.YtcogolbgfkikfaaW.PrintWords Go.Proofs.YtcogolbgfkikfaaW.PrintLast Go.Proofs.YtcogolbgfkikfaaW.PrintMore
attribute [local go_sem] max2_int min2_int max_two min_two max_three min_three max_four min_four   -- for this text's walks alone
set_option linter.unusedVariables false
set_option linter.unusedSimpArgs false

/-! ### screeref09_Encode: function 13 -/
mutual
def screeref09_Encode.j0 : Nat → List (S35) → Bool → Option (ByteArray × Int)
  | 0, _, _ => none
  | k + 1, x0, x22 => if x22 = true then (some ((⟨#[]⟩ : ByteArray), 2)) else (screeref09_Encode.l0 k x0 (⟨#[]⟩ : ByteArray) (⟨#[]⟩ : ByteArray) 0)
def screeref09_Encode.l0 : Nat → List (S35) → ByteArray → ByteArray → Int → Option (ByteArray × Int)
  | 0, _, _, _, _ => none
  | k + 1, x0, x4, x5, x6 => if x6 < (x0.length : Int) then (if 0 ≤ x6 then ((screeref07_May.f ((rd_T35 x0 x6).f0) ((rd_T35 x0 x6).f1) ((rd_T35 x0 x6).f2) ((rd_T35 x0 x6).f3)).bind fun t181 => (if t181 = true then (if (Int.tmod x6 4) = 0 then ((screeref01_Long.f k (IntKind.u64.wrap ((x4.size : Int)))).bind fun t182 => (if x5.size + t182.size ≤ 9223372036854775807 then (screeref09_Encode.j2 k x0 x4 (x5 ++ t182) x6 0 ((rd_T35 x0 x6).f0) ((rd_T35 x0 x6).f1) ((rd_T35 x0 x6).f2) ((rd_T35 x0 x6).f3)) else (none))) else (if 0 ≤ (wrap64 (x6 - 1)) then (if (wrap64 (x6 - 1)) < (x0.length : Int) then ((screeref09_Shared.f k ((rd_T35 x0 (wrap64 (x6 - 1))).f0) ((rd_T35 x0 x6).f0)).bind fun t184 => (screeref09_Encode.j2 k x0 x4 x5 x6 t184 ((rd_T35 x0 x6).f0) ((rd_T35 x0 x6).f1) ((rd_T35 x0 x6).f2) ((rd_T35 x0 x6).f3))) else (none)) else (none))) else (some ((⟨#[]⟩ : ByteArray), 2)))) else (none)) else (if x4.size + x5.size ≤ 9223372036854775807 then ((screeref01_Long.f k (IntKind.u64.wrap ((x0.length : Int)))).bind fun t178 => (if (x4 ++ x5).size + t178.size ≤ 9223372036854775807 then (some ((x4 ++ x5) ++ t178, 0)) else (none))) else (none))
def screeref09_Encode.j2 : Nat → List (S35) → ByteArray → ByteArray → Int → Int → ByteArray → Int → Bool → ByteArray → Option (ByteArray × Int)
  | 0, _, _, _, _, _, _, _, _, _ => none
  | k + 1, x0, x4, x5, x6, x8, x181000, x181001, x181002, x181003 => if x181002 = true then (screeref09_Encode.j3 k x0 x4 x5 x6 x8 (⟨#[1]⟩ : ByteArray) x181000 x181001 x181002 x181003) else (screeref09_Encode.j3 k x0 x4 x5 x6 x8 (⟨#[0]⟩ : ByteArray) x181000 x181001 x181002 x181003)
def screeref09_Encode.j3 : Nat → List (S35) → ByteArray → ByteArray → Int → Int → ByteArray → ByteArray → Int → Bool → ByteArray → Option (ByteArray × Int)
  | 0, _, _, _, _, _, _, _, _, _, _ => none
  | k + 1, x0, x4, x5, x6, x8, x9, x181000, x181001, x181002, x181003 => (screeref01_Short.f k (IntKind.u64.wrap (x8))).bind fun t185 => (if 0 ≤ x8 then (if x8 ≤ (x181000.size : Int) then ((screeref05_Text.f k (x181000.extract (x8 : Int).toNat x181000.size)).bind fun t186 => (if t185.size + t186.size ≤ 9223372036854775807 then ((screeref01_Short.f k x181001).bind fun t187 => (if (t185 ++ t186).size + t187.size ≤ 9223372036854775807 then (if ((t185 ++ t186) ++ t187).size + x9.size ≤ 9223372036854775807 then ((screeref05_Text.f k x181003).bind fun t188 => (if (((t185 ++ t186) ++ t187) ++ x9).size + t188.size ≤ 9223372036854775807 then (if x4.size + ((((t185 ++ t186) ++ t187) ++ x9) ++ t188).size ≤ 9223372036854775807 then (screeref09_Encode.l0 k x0 (x4 ++ ((((t185 ++ t186) ++ t187) ++ x9) ++ t188)) x5 (wrap64 (x6 + 1))) else (none)) else (none))) else (none)) else (none))) else (none))) else (none)) else (none))
end
def screeref09_Encode.f (k : Nat) (l0 : List (S35)) : Option (ByteArray × Int) := if (l0.length : Int) < 1 then (screeref09_Encode.j0 k l0 true) else (if (l0.length : Int) > 32 then (screeref09_Encode.j0 k l0 true) else ((screeref08_Row.f k l0).bind fun t177 => (screeref09_Encode.j0 k l0 (!t177))))
theorem screeref09_Encode.mono_l : ∀ k, (∀ y0 y1, LeO (screeref09_Encode.j0 k y0 y1) (screeref09_Encode.j0 (k + 1) y0 y1)) ∧ (∀ y0 y1 y2 y3, LeO (screeref09_Encode.l0 k y0 y1 y2 y3) (screeref09_Encode.l0 (k + 1) y0 y1 y2 y3)) ∧ (∀ y0 y1 y2 y3 y4 y5 y6 y7 y8, LeO (screeref09_Encode.j2 k y0 y1 y2 y3 y4 y5 y6 y7 y8) (screeref09_Encode.j2 (k + 1) y0 y1 y2 y3 y4 y5 y6 y7 y8)) ∧ (∀ y0 y1 y2 y3 y4 y5 y6 y7 y8 y9, LeO (screeref09_Encode.j3 k y0 y1 y2 y3 y4 y5 y6 y7 y8 y9) (screeref09_Encode.j3 (k + 1) y0 y1 y2 y3 y4 y5 y6 y7 y8 y9))
  | 0 => ⟨fun _ _ r h => by simp [screeref09_Encode.j0] at h, fun _ _ _ _ r h => by simp [screeref09_Encode.l0] at h, fun _ _ _ _ _ _ _ _ _ r h => by simp [screeref09_Encode.j2] at h, fun _ _ _ _ _ _ _ _ _ _ r h => by simp [screeref09_Encode.j3] at h⟩
  | k + 1 => by
    obtain ⟨ih0, ih1, ih2, ih3⟩ := screeref09_Encode.mono_l k
    refine ⟨?_, ?_, ?_, ?_⟩
    · intro y0 y1
      unfold screeref09_Encode.j0
      repeat' first
      | (with_reducible exact ih0 _ _)
      | (with_reducible exact ih1 _ _ _ _)
      | (with_reducible exact ih2 _ _ _ _ _ _ _ _ _)
      | (with_reducible exact ih3 _ _ _ _ _ _ _ _ _ _)
      | (with_reducible exact screeref01_Long.mono _ _)
      | (with_reducible exact screeref01_Short.mono _ _)
      | (with_reducible exact screeref05_Text.mono _ _)
      | (with_reducible exact screeref08_Row.mono _ _)
      | (with_reducible exact screeref09_Shared.mono _ _ _)
      | (with_reducible exact LeO.refl _)
      | (with_reducible exact LeO.none _)
      | (with_reducible refine LeO.ite ?_ ?_)
      | (with_reducible refine LeO.bind ?_ (fun _ => ?_))
      | exact ih0 _ _
      | exact ih1 _ _ _ _
      | exact ih2 _ _ _ _ _ _ _ _ _
      | exact ih3 _ _ _ _ _ _ _ _ _ _
      | exact screeref01_Long.mono _ _
      | exact screeref01_Short.mono _ _
      | exact screeref05_Text.mono _ _
      | exact screeref08_Row.mono _ _
      | exact screeref09_Shared.mono _ _ _
      | exact LeO.none _
      | refine LeO.ite ?_ ?_
      | refine LeO.bind ?_ (fun _ => ?_)
    · intro y0 y1 y2 y3
      unfold screeref09_Encode.l0
      repeat' first
      | (with_reducible exact ih0 _ _)
      | (with_reducible exact ih1 _ _ _ _)
      | (with_reducible exact ih2 _ _ _ _ _ _ _ _ _)
      | (with_reducible exact ih3 _ _ _ _ _ _ _ _ _ _)
      | (with_reducible exact screeref01_Long.mono _ _)
      | (with_reducible exact screeref01_Short.mono _ _)
      | (with_reducible exact screeref05_Text.mono _ _)
      | (with_reducible exact screeref08_Row.mono _ _)
      | (with_reducible exact screeref09_Shared.mono _ _ _)
      | (with_reducible exact LeO.refl _)
      | (with_reducible exact LeO.none _)
      | (with_reducible refine LeO.ite ?_ ?_)
      | (with_reducible refine LeO.bind ?_ (fun _ => ?_))
      | exact ih0 _ _
      | exact ih1 _ _ _ _
      | exact ih2 _ _ _ _ _ _ _ _ _
      | exact ih3 _ _ _ _ _ _ _ _ _ _
      | exact screeref01_Long.mono _ _
      | exact screeref01_Short.mono _ _
      | exact screeref05_Text.mono _ _
      | exact screeref08_Row.mono _ _
      | exact screeref09_Shared.mono _ _ _
      | exact LeO.none _
      | refine LeO.ite ?_ ?_
      | refine LeO.bind ?_ (fun _ => ?_)
    · intro y0 y1 y2 y3 y4 y5 y6 y7 y8
      unfold screeref09_Encode.j2
      repeat' first
      | (with_reducible exact ih0 _ _)
      | (with_reducible exact ih1 _ _ _ _)
      | (with_reducible exact ih2 _ _ _ _ _ _ _ _ _)
      | (with_reducible exact ih3 _ _ _ _ _ _ _ _ _ _)
      | (with_reducible exact screeref01_Long.mono _ _)
      | (with_reducible exact screeref01_Short.mono _ _)
      | (with_reducible exact screeref05_Text.mono _ _)
      | (with_reducible exact screeref08_Row.mono _ _)
      | (with_reducible exact screeref09_Shared.mono _ _ _)
      | (with_reducible exact LeO.refl _)
      | (with_reducible exact LeO.none _)
      | (with_reducible refine LeO.ite ?_ ?_)
      | (with_reducible refine LeO.bind ?_ (fun _ => ?_))
      | exact ih0 _ _
      | exact ih1 _ _ _ _
      | exact ih2 _ _ _ _ _ _ _ _ _
      | exact ih3 _ _ _ _ _ _ _ _ _ _
      | exact screeref01_Long.mono _ _
      | exact screeref01_Short.mono _ _
      | exact screeref05_Text.mono _ _
      | exact screeref08_Row.mono _ _
      | exact screeref09_Shared.mono _ _ _
      | exact LeO.none _
      | refine LeO.ite ?_ ?_
      | refine LeO.bind ?_ (fun _ => ?_)
    · intro y0 y1 y2 y3 y4 y5 y6 y7 y8 y9
      unfold screeref09_Encode.j3
      repeat' first
      | (with_reducible exact ih0 _ _)
      | (with_reducible exact ih1 _ _ _ _)
      | (with_reducible exact ih2 _ _ _ _ _ _ _ _ _)
      | (with_reducible exact ih3 _ _ _ _ _ _ _ _ _ _)
      | (with_reducible exact screeref01_Long.mono _ _)
      | (with_reducible exact screeref01_Short.mono _ _)
      | (with_reducible exact screeref05_Text.mono _ _)
      | (with_reducible exact screeref08_Row.mono _ _)
      | (with_reducible exact screeref09_Shared.mono _ _ _)
      | (with_reducible exact LeO.refl _)
      | (with_reducible exact LeO.none _)
      | (with_reducible refine LeO.ite ?_ ?_)
      | (with_reducible refine LeO.bind ?_ (fun _ => ?_))
      | exact ih0 _ _
      | exact ih1 _ _ _ _
      | exact ih2 _ _ _ _ _ _ _ _ _
      | exact ih3 _ _ _ _ _ _ _ _ _ _
      | exact screeref01_Long.mono _ _
      | exact screeref01_Short.mono _ _
      | exact screeref05_Text.mono _ _
      | exact screeref08_Row.mono _ _
      | exact screeref09_Shared.mono _ _ _
      | exact LeO.none _
      | refine LeO.ite ?_ ?_
      | refine LeO.bind ?_ (fun _ => ?_)
theorem screeref09_Encode.mono : ∀ a0 k, LeO (screeref09_Encode.f k a0) (screeref09_Encode.f (k + 1) a0) := by
  intro a0 k
  obtain ⟨ih0, ih1, ih2, ih3⟩ := screeref09_Encode.mono_l k
  unfold screeref09_Encode.f
  repeat' first
      | (with_reducible exact ih0 _ _)
      | (with_reducible exact ih1 _ _ _ _)
      | (with_reducible exact ih2 _ _ _ _ _ _ _ _ _)
      | (with_reducible exact ih3 _ _ _ _ _ _ _ _ _ _)
      | (with_reducible exact screeref01_Long.mono _ _)
      | (with_reducible exact screeref01_Short.mono _ _)
      | (with_reducible exact screeref05_Text.mono _ _)
      | (with_reducible exact screeref08_Row.mono _ _)
      | (with_reducible exact screeref09_Shared.mono _ _ _)
      | (with_reducible exact LeO.refl _)
      | (with_reducible exact LeO.none _)
      | (with_reducible refine LeO.ite ?_ ?_)
      | (with_reducible refine LeO.bind ?_ (fun _ => ?_))
      | exact ih0 _ _
      | exact ih1 _ _ _ _
      | exact ih2 _ _ _ _ _ _ _ _ _
      | exact ih3 _ _ _ _ _ _ _ _ _ _
      | exact screeref01_Long.mono _ _
      | exact screeref01_Short.mono _ _
      | exact screeref05_Text.mono _ _
      | exact screeref08_Row.mono _ _
      | exact screeref09_Shared.mono _ _ _
      | exact LeO.none _
      | refine LeO.ite ?_ ?_
      | refine LeO.bind ?_ (fun _ => ?_)
def screeref09_Encode.T14 : Bool × List (List Nat × List Nat) := (true, [([], []), ([], []), ([1], [1]), ([0, 2], [0, 2]), ([3], [3]), ([4], [4]), ([], []), ([6], [6]), ([5, 7], [5, 7]), ([8, 8, 0, 1, 2, 3, 4, 5, 6, 7, 8], [8])])
def screeref09_Encode.B14 : List Nat := [0, 0, 2, 7, 15, 31, 0, 64, 255, 511]
theorem screeref09_Encode.tab14 : rtab .any (opsOf Try.f13 14) = screeref09_Encode.T14 := by kernel_rfl
theorem screeref09_Encode.bits14 : waitsOk screeref09_Encode.T14.2 screeref09_Encode.B14 = true := by kernel_rfl
def screeref09_Encode.T18 : Bool × List (List Nat × List Nat) := (true, [([], []), ([], []), ([1], [1]), ([2], [2]), ([], []), ([4], [4]), ([], []), ([5, 6], [5, 6]), ([7, 3], [7]), ([3, 8], [3, 8]), ([], []), ([10], [10]), ([11, 8], [11]), ([9, 12], [9, 12]), ([], []), ([13, 14], [13, 14]), ([], []), ([16], [16]), ([17, 12], [17]), ([15, 18], [15, 18]), ([0, 19], [0, 19]), ([20, 18, 0, 1, 2, 3, 4, 5, 6, 7, 8, 9, 10, 11, 12, 13, 14, 15, 16, 17, 18, 19, 20], [0, 20])])
def screeref09_Encode.B18 : List Nat := [0, 0, 2, 6, 0, 16, 0, 112, 254, 510, 0, 1024, 3582, 8190, 0, 32766, 0, 65536, 204286, 524286, 1048575, 2097151]
theorem screeref09_Encode.tab18 : rtab .any (opsOf Try.f13 18) = screeref09_Encode.T18 := by kernel_rfl
theorem screeref09_Encode.bits18 : waitsOk screeref09_Encode.T18.2 screeref09_Encode.B18 = true := by kernel_rfl
set_option maxHeartbeats 8000000 in
set_option maxRecDepth 100000 in
theorem screeref09_Encode.calls (k : Nat) (A0 : Option Addr) (c0 : Nat) (l0 : List (S35)) (r1 : ByteArray) (r2 : Int) (w : World) (hr0 : Kd.C k35 w A0 l0.length l0) (hc0 : l0.length ≤ c0) (h : screeref09_Encode.f k l0 = some (r1, r2)) :
    Calls Try.prog 13 #[.slice A0 l0.length c0] w fun e w' => e = .returned (.tuple #[.string r1, .int .i64 r2]) ∧ Below w.heap.size w w' := by
  have hu35 := Try.underlying35
  have HR0 := Aside0.mk hr0
  have HC0 := Aside0.mk hc0
  clear hr0 hc0
  have HB := Aside0.mk (Below.refl w.heap.size w)
  have H : (if (l0.length : Int) < 1 then (screeref09_Encode.j0 k l0 true) else (if (l0.length : Int) > 32 then (screeref09_Encode.j0 k l0 true) else ((screeref08_Row.f k l0).bind fun t177 => (screeref09_Encode.j0 k l0 (!t177))))) = some (r1, r2) := h
  clear h
  have HC2 := Aside0.mk H
  clear H
  go_enter Try.func13, Try.ntmps13
  go_upto_region 1 with (fail)
  go_cut [22] (fun v22 wc => ∃ (kq : Nat) (x22_1 : Bool), v22 = .bool x22_1 ∧ Aside0 (screeref09_Encode.j0 kq l0 x22_1 = some (r1, r2)) ∧ Aside0 (kq ≤ k) ∧ Aside0 (Below w.heap.size w wc))
  case first =>
    have H := HC2.out
    clear HC2
    by_cases c3 : (l0.length : Int) < 1
    · rw [if_pos c3] at H
      have c3b0 : decide ((l0.length : Int) < 1) = true := decide_eq_true c3
      have c3b1 : decide (l0.length < 1) = true := decide_eq_true (by omega)
      clear c3
      (first | rw [c3b0] | (simp only [i64_w, i32_w]; rw [c3b0]) | skip)
      have H' := Aside0.mk H
      clear H
      go_wp2
      go_meet
      case rel => exact ⟨_, (true), (by first | rfl | (simp; done) | (simp [*]; done)), (by first | (with_reducible exact H') | exact H' | (subst_vars; exact H')), ⟨by first | omega | exact Nat.le_refl _⟩, ⟨by repeat (first | (with_reducible first | exact HB.out | apply below_alloc | apply pw_below_drewN | apply below_drew1) | exact HB.out)⟩⟩
    · rw [if_neg c3] at H
      have c3b0 : decide ((l0.length : Int) < 1) = false := decide_eq_false c3
      have c3b1 : decide (l0.length < 1) = false := decide_eq_false (by omega)
      clear c3
      (first | rw [c3b0] | (simp only [i64_w, i32_w]; rw [c3b0]) | skip)
      by_cases c4 : (l0.length : Int) > 32
      · rw [if_pos c4] at H
        have c4b0 : decide (32 < (l0.length : Int)) = true := decide_eq_true c4
        have c4b1 : decide (32 < l0.length) = true := decide_eq_true (by omega)
        clear c4
        have H' := Aside0.mk H
        clear H
        go_wp2
        go_meet
        case rel => exact ⟨_, (true), (by first | rfl | (simp; done) | (simp [*]; done)), (by first | (with_reducible exact H') | exact H' | (subst_vars; exact H')), ⟨by first | omega | exact Nat.le_refl _⟩, ⟨by repeat (first | (with_reducible first | exact HB.out | apply below_alloc | apply pw_below_drewN | apply below_drew1) | exact HB.out)⟩⟩
      · rw [if_neg c4] at H
        have c4b0 : decide (32 < (l0.length : Int)) = false := decide_eq_false c4
        have c4b1 : decide (32 < l0.length) = false := decide_eq_false (by omega)
        clear c4
        replace H := Option.bind_eq_some_iff.mp H
        obtain ⟨t177, A50, H⟩ := H
        replace H : (screeref09_Encode.j0 k l0 (!t177)) = some (r1, r2) := H
        have A5 := Aside0.mk A50
        clear A50
        have H' := Aside0.mk H
        clear H
        go_wp2_with (first | (go_at_call 31; (with_reducible refine (screeref08_Row.calls k _ _ l0 t177 _ ?side1 ?side2 A5.out).mono ?_); (case side1 => repeat (first | exact (Kd.C_below HR0.out HB.out) | (with_reducible refine Kd.C_alloc ?_ _) | (with_reducible refine Kd.C_drewN ?_ _) | (with_reducible refine Kd.C_drew ?_))); (case side2 => exact HC0.out); rintro e w' ⟨rfl, ⟨nd, rfl⟩⟩))
        go_meet
        case rel => exact ⟨_, (!t177), (by first | rfl | (simp; done) | (simp [*]; done)), (by first | (with_reducible exact H') | exact H' | (subst_vars; exact H')), ⟨by first | omega | exact Nat.le_refl _⟩, ⟨by repeat (first | (with_reducible first | exact HB.out | apply below_alloc | apply pw_below_drewN | apply below_drew1) | exact HB.out)⟩⟩
  case rest =>
    clear HC2
    try clear c1
    try clear p2
    try clear c3
    try clear c3b0
    try clear c3b1
    try clear c4
    try clear c4b0
    try clear c4b1
    obtain ⟨kq, x22_1, rfl, HA, HJ1, HB⟩ := hcut
    cases kq with
    | zero => exact absurd HA.out (by simp [screeref09_Encode.j0])
    | succ kj1 =>
      have H := HA.out
      clear HA
      simp only [screeref09_Encode.j0] at H
      by_cases c6 : x22_1 = true
      · subst c6
        have H1 : (some ((⟨#[]⟩ : ByteArray), 2)) = some (r1, r2) := by rw [if_pos rfl] at H; exact H
        clear H
        have H := H1
        clear H1
        simp only [Option.some.injEq, Prod.mk.injEq] at H
        obtain ⟨rfl, rfl⟩ := H
        go_wp2
        go_ret2
        exact ⟨by first | rfl | (simp [errW_none, errW_some] <;> rfl) | (simp (disch := omega) only [← i64_w, IntWalk.i64_in]; rfl) | (simp [*, errW_none, errW_some] <;> rfl), by repeat (first | (with_reducible first | exact HB.out | apply below_alloc | apply pw_below_drewN | apply below_drew1) | exact HB.out)⟩
      · replace c6 := Bool.eq_false_iff.mpr c6
        subst c6
        have H1 : (screeref09_Encode.l0 kj1 l0 (⟨#[]⟩ : ByteArray) (⟨#[]⟩ : ByteArray) 0) = some (r1, r2) := by rw [if_neg (show ¬ (false = true) by decide)] at H; exact H
        clear H
        have H := H1
        clear H1
        have H' := Aside0.mk H
        clear H
        go_wp2
        go_loopg [4, 5, 6] kj1 (fun kq v4 v5 v6 w' => ∃ (x4_2 : ByteArray) (x5_2 : ByteArray) (x6_2 : Int), v4 = .string x4_2 ∧ v5 = .string x5_2 ∧ v6 = .int .i64 x6_2 ∧ Aside0 (screeref09_Encode.l0 kq l0 x4_2 x5_2 x6_2 = some (r1, r2)) ∧ Aside0 (kq ≤ kj1) ∧ Aside0 (Below w.heap.size w w'))
        case atStart => exact ⟨((⟨#[]⟩ : ByteArray)), ((⟨#[]⟩ : ByteArray)), (0), (by first | rfl | (simp; done) | (simp [*]; done)), (by first | rfl | (simp; done) | (simp [*]; done)), (by first | rfl | (simp; done) | (simp [*]; done)), H', ⟨Nat.le_refl _⟩, ⟨by repeat (first | (with_reducible first | exact HB.out | apply below_alloc | apply pw_below_drewN | apply below_drew1) | exact HB.out)⟩⟩
        case round =>
          clear H'
          try clear c1
          try clear p2
          try clear c3
          try clear c3b0
          try clear c3b1
          try clear c4
          try clear c4b0
          try clear c4b1
          try clear c6
          try clear p2
          obtain ⟨x4_2, x5_2, x6_2, rfl, rfl, rfl, HA, HK2, HB⟩ := hrel
          cases gk with
          | zero => exact absurd HA.out (by simp [screeref09_Encode.l0])
          | succ k2 =>
            have H := HA.out
            clear HA
            simp only [screeref09_Encode.l0] at H
            by_cases c7 : x6_2 < (l0.length : Int)
            · rw [if_pos c7] at H
              have c7b0 : decide (x6_2 < (l0.length : Int)) = true := decide_eq_true c7
              clear c7
              by_cases c8 : 0 ≤ x6_2
              · rw [if_pos c8] at H
                have c8b0 : decide (0 ≤ x6_2) = true := decide_eq_true c8
                clear c8
                replace H := Option.bind_eq_some_iff.mp H
                obtain ⟨t181, A90, H⟩ := H
                replace H : (if t181 = true then (if (Int.tmod x6_2 4) = 0 then ((screeref01_Long.f k2 (IntKind.u64.wrap ((x4_2.size : Int)))).bind fun t182 => (if x5_2.size + t182.size ≤ 9223372036854775807 then (screeref09_Encode.j2 k2 l0 x4_2 (x5_2 ++ t182) x6_2 0 ((rd_T35 l0 x6_2).f0) ((rd_T35 l0 x6_2).f1) ((rd_T35 l0 x6_2).f2) ((rd_T35 l0 x6_2).f3)) else (none))) else (if 0 ≤ (wrap64 (x6_2 - 1)) then (if (wrap64 (x6_2 - 1)) < (l0.length : Int) then ((screeref09_Shared.f k2 ((rd_T35 l0 (wrap64 (x6_2 - 1))).f0) ((rd_T35 l0 x6_2).f0)).bind fun t184 => (screeref09_Encode.j2 k2 l0 x4_2 x5_2 x6_2 t184 ((rd_T35 l0 x6_2).f0) ((rd_T35 l0 x6_2).f1) ((rd_T35 l0 x6_2).f2) ((rd_T35 l0 x6_2).f3))) else (none)) else (none))) else (some ((⟨#[]⟩ : ByteArray), 2))) = some (r1, r2) := H
                have A9 := Aside0.mk A90
                clear A90
                by_cases c10 : t181 = true
                · subst c10
                  have H1 : (if (Int.tmod x6_2 4) = 0 then ((screeref01_Long.f k2 (IntKind.u64.wrap ((x4_2.size : Int)))).bind fun t182 => (if x5_2.size + t182.size ≤ 9223372036854775807 then (screeref09_Encode.j2 k2 l0 x4_2 (x5_2 ++ t182) x6_2 0 ((rd_T35 l0 x6_2).f0) ((rd_T35 l0 x6_2).f1) ((rd_T35 l0 x6_2).f2) ((rd_T35 l0 x6_2).f3)) else (none))) else (if 0 ≤ (wrap64 (x6_2 - 1)) then (if (wrap64 (x6_2 - 1)) < (l0.length : Int) then ((screeref09_Shared.f k2 ((rd_T35 l0 (wrap64 (x6_2 - 1))).f0) ((rd_T35 l0 x6_2).f0)).bind fun t184 => (screeref09_Encode.j2 k2 l0 x4_2 x5_2 x6_2 t184 ((rd_T35 l0 x6_2).f0) ((rd_T35 l0 x6_2).f1) ((rd_T35 l0 x6_2).f2) ((rd_T35 l0 x6_2).f3))) else (none)) else (none))) = some (r1, r2) := by rw [if_pos rfl] at H; exact H
                  clear H
                  have H := H1
                  clear H1
                  have HC11 := Aside0.mk H
                  clear H
                  have p179 : 0 ≤ (x6_2 : Int) := of_decide_eq_true (by first | (with_reducible assumption) | assumption)
                  have q179 : x6_2 < (l0.length : Int) := of_decide_eq_true (by first | (with_reducible assumption) | assumption)
                  obtain ⟨ad179, e179, hx179_0, hx179_1, hx179_2, hx179_3⟩ := at_T35 HR0.out x6_2 p179 q179
                  cases e179
                  replace hx179_0 := (HB.out.cell (World.block_lt_of_cell? w _ hx179_0)).trans hx179_0
                  replace hx179_1 := (HB.out.cell (World.block_lt_of_cell? w _ hx179_1)).trans hx179_1
                  replace hx179_2 := (HB.out.cell (World.block_lt_of_cell? w _ hx179_2)).trans hx179_2
                  replace hx179_3 := (HB.out.cell (World.block_lt_of_cell? w _ hx179_3)).trans hx179_3
                  replace p179 := eq_true p179
                  replace q179 := eq_true q179
                  go_upto_if 38 with (first | ((with_reducible refine gate_dst (N := 7) rfl ?_); (try (refine gate_guard (by rfl) ?_; dsimp only)); refine box_event ?hg (N := 7) ?hd (cs := #[.string (⟨#[]⟩ : ByteArray), .int .u64 0, .bool false, .string (⟨#[]⟩ : ByteArray)]) (t := 35) ?hr ?_; (case hd => rfl); (case hg => rfl); (case hr => first | (go_simp; done) | (go_simp; rfl)); intro gb180 hg w12 hbox hb; have n0_ := Aside0.mk (below_step (by repeat (first | (with_reducible first | exact HB.out | apply below_alloc | apply pw_below_drewN | apply below_drew1) | exact HB.out)) hb); have n1_ := Aside0.mk (hbox); have n2_ := Aside0.mk ((by rw [hg]; exact (below_size (by repeat (first | (with_reducible first | exact HB.out | apply below_alloc | apply pw_below_drewN | apply below_drew1) | exact HB.out))) : w.heap.size ≤ gb180)); have n3_ := Aside0.mk ((by rw [hg]; exact (below_size (by repeat (first | (with_reducible first | exact HB.out | apply below_alloc | apply pw_below_drewN | apply below_drew1) | exact HB.out))) : w.heap.size ≤ gb180)); clear HB; have HB := n0_; have BK180 := n1_; have GW180 := n2_; have GE180 := n3_; clear n0_ n1_ n2_ n3_; clear hb hbox hg; have hcz13_0 : w12.cell? ⟨gb180, 0, none⟩ = some (.string (⟨#[]⟩ : ByteArray)) := (blk_cell BK180.out 0).trans rfl; have hcz13_1 : w12.cell? ⟨gb180, 1, none⟩ = some (.int .u64 0) := (blk_cell BK180.out 1).trans rfl; have hcz13_2 : w12.cell? ⟨gb180, 2, none⟩ = some (.bool false) := (blk_cell BK180.out 2).trans rfl; have hcz13_3 : w12.cell? ⟨gb180, 3, none⟩ = some (.string (⟨#[]⟩ : ByteArray)) := (blk_cell BK180.out 3).trans rfl; have hfz13_0 := blk_frozen BK180.out 0; have hfz13_1 := blk_frozen BK180.out 1; have hfz13_2 := blk_frozen BK180.out 2; have hfz13_3 := blk_frozen BK180.out 3) | ((with_reducible refine gate_callee (f := 32) rfl ?_); refine goesL_ (some 34) rfl rfl Try.func32 (by kernel_rfl) rfl #[.agg #[.string ((rd_T35 l0 x6_2).f0), .int .u64 ((rd_T35 l0 x6_2).f1), .bool ((rd_T35 l0 x6_2).f2), .string ((rd_T35 l0 x6_2).f3)]] rfl (by (try simp only [List.map_toArray, List.map_cons, List.map_nil]); first | done | rfl | (simp only [List.length_drop, List.length_take]; rfl) | (simp (disch := omega) only [IntWalk.u64_in, IntWalk.i64_in, IntWalk.u8_in]; rfl)) ?_; (with_reducible refine (screeref07_May.calls ((rd_T35 l0 x6_2).f0) ((rd_T35 l0 x6_2).f1) ((rd_T35 l0 x6_2).f2) ((rd_T35 l0 x6_2).f3) true _ A9.out).mono ?_); rintro e w14 ⟨rfl, hb⟩; refine ⟨_, rfl, ?_⟩; have n0_ := Aside0.mk (blk_below (g := gb180) (o := .cells #[.string ((rd_T35 l0 x6_2).f0), .int .u64 ((rd_T35 l0 x6_2).f1), .bool ((rd_T35 l0 x6_2).f2), .string ((rd_T35 l0 x6_2).f3)] 35 (0, 0)) (by (with_reducible repeat (first | refine blk_drewN ?_ _ | refine blk_drew ?_ | refine blk_alloc ?_ _)); refine blk_put (cs := #[.string ((rd_T35 l0 x6_2).f0), .int .u64 ((rd_T35 l0 x6_2).f1), .bool ((rd_T35 l0 x6_2).f2), .string (⟨#[]⟩ : ByteArray)]) ?_ 3 _ rfl; (with_reducible repeat (first | refine blk_drewN ?_ _ | refine blk_drew ?_ | refine blk_alloc ?_ _)); refine blk_put (cs := #[.string ((rd_T35 l0 x6_2).f0), .int .u64 ((rd_T35 l0 x6_2).f1), .bool false, .string (⟨#[]⟩ : ByteArray)]) ?_ 2 _ rfl; (with_reducible repeat (first | refine blk_drewN ?_ _ | refine blk_drew ?_ | refine blk_alloc ?_ _)); refine blk_put (cs := #[.string ((rd_T35 l0 x6_2).f0), .int .u64 0, .bool false, .string (⟨#[]⟩ : ByteArray)]) ?_ 1 _ rfl; (with_reducible repeat (first | refine blk_drewN ?_ _ | refine blk_drew ?_ | refine blk_alloc ?_ _)); refine blk_put (cs := #[.string (⟨#[]⟩ : ByteArray), .int .u64 0, .bool false, .string (⟨#[]⟩ : ByteArray)]) ?_ 0 _ rfl; (with_reducible repeat (first | refine blk_drewN ?_ _ | refine blk_drew ?_ | refine blk_alloc ?_ _)); exact BK180.out) hb); have n1_ := Aside0.mk (below_step (by repeat (first | (with_reducible first | exact HB.out | apply below_alloc | apply pw_below_drewN | apply below_drew1 | refine below_set ?_ GE180.out) | exact HB.out)) hb); clear BK180; clear HB; have BK180 := n0_; have HB := n1_; clear n0_ n1_; (try clear hb); (try clear hb2); (try clear hk); (try clear hi); (try clear A9)))
                  (try simp only [Act.put, List.setIfInBounds_toArray, List.set_cons_zero, List.set_cons_succ])
                  go_cut [5, 8] (fun v5 v8 wc => ∃ (kq : Nat) (x5_10 : ByteArray) (x8_10 : Int), v5 = .string x5_10 ∧ v8 = .int .i64 x8_10 ∧ Aside0 (screeref09_Encode.j2 kq l0 x4_2 x5_10 x6_2 x8_10 ((rd_T35 l0 x6_2).f0) ((rd_T35 l0 x6_2).f1) ((rd_T35 l0 x6_2).f2) ((rd_T35 l0 x6_2).f3) = some (r1, r2)) ∧ Aside0 (kq ≤ k2) ∧ Aside0 (wc.heap[gb180]? = some (.cells #[.string ((rd_T35 l0 x6_2).f0), .int .u64 ((rd_T35 l0 x6_2).f1), .bool ((rd_T35 l0 x6_2).f2), .string ((rd_T35 l0 x6_2).f3)] 35 (0, 0))) ∧ Aside0 (Below w.heap.size w wc))
                  case first =>
                    have H := HC11.out
                    clear HC11
                    by_cases c15 : (Int.tmod x6_2 4) = 0
                    · rw [if_pos c15] at H
                      have c15b0 : ((Int.tmod x6_2 4) == 0) = true := beq_iff_eq.mpr c15
                      have c15b1 : ((Int.tmod x6_2 4) != 0) = false := bne_eq_false_iff_eq.mpr c15
                      clear c15
                      (first | rw [c15b0] | (simp only [i64_w, i32_w]; rw [c15b0]) | skip)
                      replace H := Option.bind_eq_some_iff.mp H
                      obtain ⟨t182, A160, H⟩ := H
                      replace H : (if x5_2.size + t182.size ≤ 9223372036854775807 then (screeref09_Encode.j2 k2 l0 x4_2 (x5_2 ++ t182) x6_2 0 ((rd_T35 l0 x6_2).f0) ((rd_T35 l0 x6_2).f1) ((rd_T35 l0 x6_2).f2) ((rd_T35 l0 x6_2).f3)) else (none)) = some (r1, r2) := H
                      have A16 := Aside0.mk A160
                      clear A160
                      by_cases c17 : x5_2.size + t182.size ≤ 9223372036854775807
                      · rw [if_pos c17] at H
                        have c17b0 := eq_true c17
                        have c17b1 : decide (x5_2.size + t182.size ≤ 9223372036854775807) = true := decide_eq_true c17
                        try have c17b2 : (9223372036854775807 < x5_2.size + t182.size) = False := eq_false (Nat.not_lt.2 c17)
                        try (have c17b3 := c17b2; simp only [ByteArray.size_append] at c17b3)
                        try (have c17b4 := c17b2; simp only [ByteArray.size_extract, ByteArray.size_append, Nat.sub_zero] at c17b4)
                        have H' := Aside0.mk H
                        clear H
                        go_wp2_with (first | ((with_reducible refine gate_callee (f := 33) rfl ?_); refine goesL_ (some 43) rfl rfl Try.func33 (by kernel_rfl) rfl #[.int .u64 (IntKind.u64.wrap ((x4_2.size : Int)))] rfl (by (try simp only [List.map_toArray, List.map_cons, List.map_nil]); first | done | rfl | (simp only [List.length_drop, List.length_take]; rfl) | (simp (disch := omega) only [IntWalk.u64_in, IntWalk.i64_in, IntWalk.u8_in]; rfl)) ?_; (with_reducible refine (screeref01_Long.calls k2 (IntKind.u64.wrap ((x4_2.size : Int))) t182 _ A16.out).mono ?_); rintro e w18 ⟨rfl, hb⟩; refine ⟨_, rfl, ?_⟩; have n0_ := Aside0.mk (blk_below (g := gb180) (o := .cells #[.string ((rd_T35 l0 x6_2).f0), .int .u64 ((rd_T35 l0 x6_2).f1), .bool ((rd_T35 l0 x6_2).f2), .string ((rd_T35 l0 x6_2).f3)] 35 (0, 0)) (by (with_reducible repeat (first | refine blk_drewN ?_ _ | refine blk_drew ?_ | refine blk_alloc ?_ _)); exact BK180.out) hb); have n1_ := Aside0.mk (below_step (by repeat (first | (with_reducible first | exact HB.out | apply below_alloc | apply pw_below_drewN | apply below_drew1 | refine below_set ?_ GE180.out) | exact HB.out)) hb); clear BK180; clear HB; have BK180 := n0_; have HB := n1_; clear n0_ n1_; (try clear hb); (try clear hb2); (try clear hk); (try clear hi); (try clear A16)))
                        go_meet
                        case rel => exact ⟨_, (x5_2 ++ t182), (0), (by first | rfl | (simp; done) | (simp [*]; done)), (by first | rfl | (simp; done) | (simp [*]; done)), (by first | (with_reducible exact H') | exact H' | (subst_vars; exact H')), ⟨by have := HJ1.out; have := HK2.out; first | omega | exact Nat.le_refl _⟩, ⟨by (with_reducible repeat (first | refine blk_drewN ?_ _ | refine blk_drew ?_ | refine blk_alloc ?_ _)); exact BK180.out⟩, ⟨by repeat (first | (with_reducible first | exact HB.out | apply below_alloc | apply pw_below_drewN | apply below_drew1 | refine below_set ?_ GE180.out) | exact HB.out)⟩⟩
                      · rw [if_neg c17] at H
                        exact absurd H (by simp)
                    · rw [if_neg c15] at H
                      have c15b0 : ((Int.tmod x6_2 4) == 0) = false := beq_eq_false_iff_ne.mpr c15
                      have c15b1 : ((Int.tmod x6_2 4) != 0) = true := bne_iff_ne.mpr c15
                      (first | rw [c15b0] | (simp only [i64_w, i32_w]; rw [c15b0]) | skip)
                      obtain ⟨ji19, hji19⟩ : ∃ j_ : Int, (wrap64 (x6_2 - 1)) = j_ := ⟨_, rfl⟩
                      replace H : (if 0 ≤ (ji19) then (if (ji19) < (l0.length : Int) then ((screeref09_Shared.f k2 ((rd_T35 l0 (ji19)).f0) ((rd_T35 l0 x6_2).f0)).bind fun t184 => (screeref09_Encode.j2 k2 l0 x4_2 x5_2 x6_2 t184 ((rd_T35 l0 x6_2).f0) ((rd_T35 l0 x6_2).f1) ((rd_T35 l0 x6_2).f2) ((rd_T35 l0 x6_2).f3))) else (none)) else (none)) = some (r1, r2) := by first | (rw [hji19] at H; exact H) | (simp only [hji19] at H ⊢; exact H)
                      have hji19w : (IntKind.i64.wrap (x6_2 - 1)) = ji19 := (i64_w _).trans hji19
                      by_cases c20 : 0 ≤ (ji19)
                      · rw [if_pos c20] at H
                        have c20b0 : decide (0 ≤ (ji19)) = true := decide_eq_true c20
                        clear c20
                        by_cases c21 : (ji19) < (l0.length : Int)
                        · rw [if_pos c21] at H
                          have c21b0 : decide ((ji19) < (l0.length : Int)) = true := decide_eq_true c21
                          clear c21
                          replace H := Option.bind_eq_some_iff.mp H
                          obtain ⟨t184, A220, H⟩ := H
                          replace H : (screeref09_Encode.j2 k2 l0 x4_2 x5_2 x6_2 t184 ((rd_T35 l0 x6_2).f0) ((rd_T35 l0 x6_2).f1) ((rd_T35 l0 x6_2).f2) ((rd_T35 l0 x6_2).f3)) = some (r1, r2) := H
                          have A22 := Aside0.mk A220
                          clear A220
                          have H' := Aside0.mk H
                          clear H
                          try go_wp2
                          have n0_ := Aside0.mk (blk_drew BK180.out)
                          have n1_ := Aside0.mk (below_drew1 HB.out)
                          clear BK180
                          clear HB
                          have BK180 := n0_
                          have HB := n1_
                          clear n0_ n1_
                          have p183 : 0 ≤ ((ji19) : Int) := of_decide_eq_true (by first | (with_reducible assumption) | assumption)
                          have q183 : (ji19) < (l0.length : Int) := of_decide_eq_true (by first | (with_reducible assumption) | assumption)
                          obtain ⟨ad183, e183, hx183_0, hx183_1, hx183_2, hx183_3⟩ := at_T35 HR0.out (ji19) p183 q183
                          have hw183_3 := hx183_3
                          have hw183_2 := hx183_2
                          have hw183_1 := hx183_1
                          have hw183_0 := hx183_0
                          obtain rfl : ad179 = ad183 := (by injection e183)
                          replace hx183_0 := (HB.out.cell (World.block_lt_of_cell? w _ hx183_0)).trans hx183_0
                          replace hx183_1 := (HB.out.cell (World.block_lt_of_cell? w _ hx183_1)).trans hx183_1
                          replace hx183_2 := (HB.out.cell (World.block_lt_of_cell? w _ hx183_2)).trans hx183_2
                          replace hx183_3 := (HB.out.cell (World.block_lt_of_cell? w _ hx183_3)).trans hx183_3
                          replace p183 := eq_true p183
                          replace q183 := eq_true q183
                          refine start_ (n := 10) (S := fun w' => w'.cell? ⟨gb180, 0, none⟩ = some (.string ((rd_T35 l0 x6_2).f0)) ∧ w'.cell? ⟨gb180, 1, none⟩ = some (.int .u64 ((rd_T35 l0 x6_2).f1)) ∧ w'.cell? ⟨gb180, 2, none⟩ = some (.bool ((rd_T35 l0 x6_2).f2)) ∧ w'.cell? ⟨gb180, 3, none⟩ = some (.string ((rd_T35 l0 x6_2).f3)) ∧ w'.cell? (ad179.add (((ji19)).toNat * 4)) = some (.string ((rd_T35 l0 (ji19)).f0)) ∧ w'.cell? ⟨(ad179.add (((ji19)).toNat * 4)).block, (ad179.add (((ji19)).toNat * 4)).off + 1, none⟩ = some (.int .u64 ((rd_T35 l0 (ji19)).f1)) ∧ w'.cell? ⟨(ad179.add (((ji19)).toNat * 4)).block, (ad179.add (((ji19)).toNat * 4)).off + 2, none⟩ = some (.bool ((rd_T35 l0 (ji19)).f2)) ∧ w'.cell? ⟨(ad179.add (((ji19)).toNat * 4)).block, (ad179.add (((ji19)).toNat * 4)).off + 3, none⟩ = some (.string ((rd_T35 l0 (ji19)).f3))) (ds := []) #[false, false, false, false, false, false, false, false, false, false] (by kernel_rfl) rfl rfl ⟨(blk_cell BK180.out 0).trans rfl, (blk_cell BK180.out 1).trans rfl, (blk_cell BK180.out 2).trans rfl, (blk_cell BK180.out 3).trans rfl, ((HB.out.cell (World.block_lt_of_cell? w _ hw183_0)).trans hw183_0), ((HB.out.cell (World.block_lt_of_cell? w _ hw183_1)).trans hw183_1), ((HB.out.cell (World.block_lt_of_cell? w _ hw183_2)).trans hw183_2), ((HB.out.cell (World.block_lt_of_cell? w _ hw183_3)).trans hw183_3)⟩ (fun hHeld => ?_); refine with_tabW screeref09_Encode.tab14 screeref09_Encode.bits14 (fun HT_ HW_ => ?_)
                          generalize w14.drew = w23 at BK180 HB hx183_0 hx183_1 hx183_2 hx183_3 hHeld ⊢
                          refine pure_ (i := 0) (N := some 45) (v := ?_) (a' := ?_) #[true, false, false, false, false, false, false, false, false, false] rfl rfl (any_of HT_.out (by kernel_rfl)) (fun _ _ _ h => h) (Or.inl ⟨by rfl, ?_⟩) ?_ ?_
                          rotate_left
                          · intro w'
                            go_simp
                            with_reducible rfl
                          rotate_left
                          · simp only [Act.put, List.setIfInBounds_toArray, List.set_cons_zero, List.set_cons_succ, i64_w, i32_w]
                            rfl
                          refine pure_ (i := 1) (N := some 46) (v := ?_) (a' := ?_) #[true, true, false, false, false, false, false, false, false, false] rfl rfl (any_of HT_.out (by kernel_rfl)) (fun _ _ _ h => h) (Or.inl ⟨by rfl, ?_⟩) ?_ ?_
                          rotate_left
                          · intro w'
                            go_simp
                            with_reducible rfl
                          rotate_left
                          · simp only [Act.put, List.setIfInBounds_toArray, List.set_cons_zero, List.set_cons_succ, i64_w, i32_w]
                            rfl
                          refine pure_ (i := 2) (N := some 47) (v := ?_) (a' := ?_) #[true, true, true, false, false, false, false, false, false, false] rfl rfl (any_of HT_.out (by kernel_rfl)) (fun _ _ _ h => h) (Or.inl ⟨by rfl, ?_⟩) ?_ ?_
                          rotate_left
                          · intro w'
                            go_simp
                            with_reducible rfl
                          rotate_left
                          · simp only [Act.put, List.setIfInBounds_toArray, List.set_cons_zero, List.set_cons_succ, i64_w, i32_w]
                            rfl
                          refine pure_ (i := 3) (N := some 48) (v := ?_) (a' := ?_) #[true, true, true, true, false, false, false, false, false, false] rfl rfl (any_of HT_.out (by kernel_rfl)) (fun _ _ _ h => h) (Or.inl ⟨by rfl, ?_⟩) ?_ ?_
                          rotate_left
                          · intro w'
                            go_simp
                            with_reducible rfl
                          rotate_left
                          · simp only [Act.put, List.setIfInBounds_toArray, List.set_cons_zero, List.set_cons_succ, i64_w, i32_w]
                            rfl
                          refine pure_ (i := 4) (N := some 49) (v := ?_) (a' := ?_) #[true, true, true, true, true, false, false, false, false, false] rfl rfl (any_of HT_.out (by kernel_rfl)) (fun _ _ _ h => h) (Or.inl ⟨by rfl, ?_⟩) ?_ ?_
                          rotate_left
                          · intro w'
                            go_simp
                            with_reducible rfl
                          rotate_left
                          · simp only [Act.put, List.setIfInBounds_toArray, List.set_cons_zero, List.set_cons_succ, i64_w, i32_w]
                            rfl
                          refine pure_ (i := 6) (N := some 51) (v := ?_) (a' := ?_) #[true, true, true, true, true, false, true, false, false, false] rfl rfl (any_of HT_.out (by kernel_rfl)) (fun _ _ _ h => h) (Or.inl ⟨by rfl, ?_⟩) ?_ ?_
                          rotate_left
                          · intro w'
                            go_simp
                            with_reducible rfl
                          rotate_left
                          · simp only [Act.put, List.setIfInBounds_toArray, List.set_cons_zero, List.set_cons_succ, i64_w, i32_w]
                            rfl
                          refine take_ (i := 5) (N := some 50) (v := ?_) (a' := ?_) #[true, true, true, true, true, true, true, false, false, false] rfl rfl (take_ofW HT_.out HW_.out (by kernel_rfl)) (fun _ _ _ h => h) (Or.inl ⟨by rfl, ?_⟩) hHeld ?_ ?_
                          rotate_left
                          · rintro w' ⟨s0, s1, s2, s3, s4, s5, s6, s7⟩
                            go_simp
                            with_reducible rfl
                          rotate_left
                          · simp only [Act.put, List.setIfInBounds_toArray, List.set_cons_zero, List.set_cons_succ, i64_w, i32_w]
                            rfl
                          refine take_ (i := 7) (N := some 52) (v := ?_) (a' := ?_) #[true, true, true, true, true, true, true, true, false, false] rfl rfl (take_ofW HT_.out HW_.out (by kernel_rfl)) (fun _ _ _ h => h) (Or.inl ⟨by rfl, ?_⟩) hHeld ?_ ?_
                          rotate_left
                          · rintro w' ⟨s0, s1, s2, s3, s4, s5, s6, s7⟩
                            go_simp
                            with_reducible rfl
                          rotate_left
                          · simp only [Act.put, List.setIfInBounds_toArray, List.set_cons_zero, List.set_cons_succ, i64_w, i32_w]
                            rfl
                          refine one_ (i := 8) (N := some 53) #[true, true, true, true, true, true, true, true, true, false] rfl rfl (one_of HT_.out (by kernel_rfl)) (by decide) (fun K hK => ?_)
                          refine goes_ Try.func15 (by kernel_rfl) rfl #[.string ((rd_T35 l0 (ji19)).f0), .string ((rd_T35 l0 x6_2).f0)] (by rfl) rfl rfl (by (try simp only [List.map_toArray, List.map_cons, List.map_nil]); first | done | (simp only [hji19]; rfl) | rfl | (simp only [List.length_drop, List.length_take]; rfl) | (simp (disch := omega) only [IntWalk.u64_in, IntWalk.i64_in, IntWalk.u8_in]; rfl)) ?_
                          with_reducible refine (screeref09_Shared.calls k2 ((rd_T35 l0 (ji19)).f0) ((rd_T35 l0 x6_2).f0) t184 _ A22.out).mono ?_
                          rintro e w' ⟨rfl, ⟨nd, rfl⟩⟩
                          refine ⟨_, rfl, ?_⟩
                          refine hK.out _ _ ⟨(blk_cell BK180.out 0).trans rfl, (blk_cell BK180.out 1).trans rfl, (blk_cell BK180.out 2).trans rfl, (blk_cell BK180.out 3).trans rfl, ((HB.out.cell (World.block_lt_of_cell? w _ hw183_0)).trans hw183_0), ((HB.out.cell (World.block_lt_of_cell? w _ hw183_1)).trans hw183_1), ((HB.out.cell (World.block_lt_of_cell? w _ hw183_2)).trans hw183_2), ((HB.out.cell (World.block_lt_of_cell? w _ hw183_3)).trans hw183_3)⟩ (fun hHeld => ?_)
                          clear hK K
                          refine norm_ (a' := ?_) ?_ ?_
                          rotate_left
                          · show Act.put _ (some 53) _ = _
                            simp only [Act.put, List.setIfInBounds_toArray, List.set_cons_zero, List.set_cons_succ, i64_w, i32_w]
                            rfl
                          refine pure_ (i := 9) (N := some 8) (v := ?_) (a' := ?_) #[true, true, true, true, true, true, true, true, true, true] rfl rfl (any_of HT_.out (by kernel_rfl)) (fun _ _ _ h => h) (Or.inl ⟨by rfl, ?_⟩) ?_ ?_
                          rotate_left
                          · intro w'
                            go_simp
                            with_reducible rfl
                          rotate_left
                          · simp only [Act.put, List.setIfInBounds_toArray, List.set_cons_zero, List.set_cons_succ, i64_w, i32_w]
                            rfl
                          refine done_ (done_of HT_.out (by kernel_rfl)) ?_
                          (try clear hHeld)
                          (try clear c17b0); (try clear c17b1); (try clear c17b2); (try clear c17b3); (try clear c17b4); (try clear c17b5); (try clear c17b6)
                          try go_wp2
                          go_meet
                          case rel => exact ⟨_, (x5_2), (t184), (by first | rfl | (simp; done) | (simp [*]; done)), (by first | rfl | (simp; done) | (simp [*]; done)), (by first | (with_reducible exact H') | exact H' | (subst_vars; exact H')), ⟨by have := HJ1.out; have := HK2.out; first | omega | exact Nat.le_refl _⟩, ⟨by (with_reducible repeat (first | refine blk_drewN ?_ _ | refine blk_drew ?_ | refine blk_alloc ?_ _)); exact BK180.out⟩, ⟨by repeat (first | (with_reducible first | exact HB.out | apply below_alloc | apply pw_below_drewN | apply below_drew1 | refine below_set ?_ GE180.out) | exact HB.out)⟩⟩
                        · rw [if_neg c21] at H
                          exact absurd H (by simp)
                      · rw [if_neg c20] at H
                        exact absurd H (by simp)
                  case rest =>
                    clear HC11
                    try clear c1
                    try clear p1
                    try clear q1
                    try clear hx1
                    try clear c2
                    try clear p2
                    try clear c3
                    try clear c3b0
                    try clear c3b1
                    try clear c4
                    try clear c4b0
                    try clear c4b1
                    try clear c6
                    try clear p6
                    try clear c7
                    try clear c7b0
                    try clear c8
                    try clear c8b0
                    try clear c10
                    try clear c13
                    try clear c15
                    try clear c15b0
                    try clear c15b1
                    try clear c17
                    try clear c17b0
                    try clear c17b1
                    try clear c17b2
                    try clear p17
                    try clear q17
                    try clear hx17
                    try clear p18
                    try clear q18
                    try clear hx18
                    try clear c20
                    try clear c20b0
                    try clear c21
                    try clear c21b0
                    try clear hcz13_0
                    try clear hcz13_1
                    try clear hcz13_2
                    try clear hcz13_3
                    try clear hfz13_0
                    try clear hfz13_1
                    try clear hfz13_2
                    try clear hfz13_3
                    try clear hx179_0
                    try clear hx179_1
                    try clear hx179_2
                    try clear hx179_3
                    try clear hx183_0
                    try clear hx183_1
                    try clear hx183_2
                    try clear hx183_3
                    try clear p179
                    try clear p183
                    try clear p2
                    try clear q179
                    try clear q183
                    obtain ⟨kq, x5_10, x8_10, rfl, rfl, HA, HJ10, BK180, HB⟩ := hcut
                    cases kq with
                    | zero => exact absurd HA.out (by simp [screeref09_Encode.j2])
                    | succ kj10 =>
                      have H := HA.out
                      clear HA
                      simp only [screeref09_Encode.j2] at H
                      have HC24 := Aside0.mk H
                      clear H
                      have hcz25_0 : wc.cell? ⟨gb180, 0, none⟩ = some (.string ((rd_T35 l0 x6_2).f0)) := (blk_cell BK180.out 0).trans rfl
                      have hcz25_1 : wc.cell? ⟨gb180, 1, none⟩ = some (.int .u64 ((rd_T35 l0 x6_2).f1)) := (blk_cell BK180.out 1).trans rfl
                      have hcz25_2 : wc.cell? ⟨gb180, 2, none⟩ = some (.bool ((rd_T35 l0 x6_2).f2)) := (blk_cell BK180.out 2).trans rfl
                      have hcz25_3 : wc.cell? ⟨gb180, 3, none⟩ = some (.string ((rd_T35 l0 x6_2).f3)) := (blk_cell BK180.out 3).trans rfl
                      have hfz25_0 := blk_frozen BK180.out 0
                      have hfz25_1 := blk_frozen BK180.out 1
                      have hfz25_2 := blk_frozen BK180.out 2
                      have hfz25_3 := blk_frozen BK180.out 3
                      go_upto_if 55 with (fail)
                      go_cut [9] (fun v9 wc => ∃ (kq : Nat) (x9_23 : ByteArray), v9 = .string x9_23 ∧ Aside0 (screeref09_Encode.j3 kq l0 x4_2 x5_10 x6_2 x8_10 x9_23 ((rd_T35 l0 x6_2).f0) ((rd_T35 l0 x6_2).f1) ((rd_T35 l0 x6_2).f2) ((rd_T35 l0 x6_2).f3) = some (r1, r2)) ∧ Aside0 (kq ≤ kj10) ∧ Aside0 (wc.heap[gb180]? = some (.cells #[.string ((rd_T35 l0 x6_2).f0), .int .u64 ((rd_T35 l0 x6_2).f1), .bool ((rd_T35 l0 x6_2).f2), .string ((rd_T35 l0 x6_2).f3)] 35 (0, 0))) ∧ Aside0 (Below w.heap.size w wc))
                      case first =>
                        have H := HC24.out
                        clear HC24
                        by_cases c26 : ((rd_T35 l0 x6_2).f2) = true
                        · rw [if_pos c26] at H
                          have c26b0 : ((rd_T35 l0 x6_2).f2) = true := c26
                          clear c26
                          (first | rw [c26b0] | (simp only [i64_w, i32_w]; rw [c26b0]) | skip)
                          have H' := Aside0.mk H
                          clear H
                          go_wp2
                          go_meet
                          case rel => exact ⟨_, ((⟨#[1]⟩ : ByteArray)), (by first | rfl | (simp; done) | (simp [*]; done)), (by first | (with_reducible exact H') | exact H' | (subst_vars; exact H')), ⟨by have := HJ1.out; have := HK2.out; have := HJ10.out; first | omega | exact Nat.le_refl _⟩, ⟨by (with_reducible repeat (first | refine blk_drewN ?_ _ | refine blk_drew ?_ | refine blk_alloc ?_ _)); exact BK180.out⟩, ⟨by repeat (first | (with_reducible first | exact HB.out | apply below_alloc | apply pw_below_drewN | apply below_drew1 | refine below_set ?_ GE180.out) | exact HB.out)⟩⟩
                        · rw [if_neg c26] at H
                          have c26b0 : ((rd_T35 l0 x6_2).f2) = false := by simpa using c26
                          clear c26
                          (first | rw [c26b0] | (simp only [i64_w, i32_w]; rw [c26b0]) | skip)
                          have H' := Aside0.mk H
                          clear H
                          go_wp2
                          go_meet
                          case rel => exact ⟨_, ((⟨#[0]⟩ : ByteArray)), (by first | rfl | (simp; done) | (simp [*]; done)), (by first | (with_reducible exact H') | exact H' | (subst_vars; exact H')), ⟨by have := HJ1.out; have := HK2.out; have := HJ10.out; first | omega | exact Nat.le_refl _⟩, ⟨by (with_reducible repeat (first | refine blk_drewN ?_ _ | refine blk_drew ?_ | refine blk_alloc ?_ _)); exact BK180.out⟩, ⟨by repeat (first | (with_reducible first | exact HB.out | apply below_alloc | apply pw_below_drewN | apply below_drew1 | refine below_set ?_ GE180.out) | exact HB.out)⟩⟩
                      case rest =>
                        clear HC24
                        try clear c1
                        try clear p1
                        try clear q1
                        try clear hx1
                        try clear c2
                        try clear p2
                        try clear c3
                        try clear c3b0
                        try clear c3b1
                        try clear c4
                        try clear c4b0
                        try clear c4b1
                        try clear c6
                        try clear p6
                        try clear c7
                        try clear c7b0
                        try clear c8
                        try clear c8b0
                        try clear c10
                        try clear c13
                        try clear c15
                        try clear c15b0
                        try clear c15b1
                        try clear c17
                        try clear c17b0
                        try clear c17b1
                        try clear c17b2
                        try clear p17
                        try clear q17
                        try clear hx17
                        try clear p18
                        try clear q18
                        try clear hx18
                        try clear c20
                        try clear c20b0
                        try clear c21
                        try clear c21b0
                        try clear c26
                        try clear c26b0
                        try clear hcz13_0
                        try clear hcz13_1
                        try clear hcz13_2
                        try clear hcz13_3
                        try clear hcz25_0
                        try clear hcz25_1
                        try clear hcz25_2
                        try clear hcz25_3
                        try clear hfz13_0
                        try clear hfz13_1
                        try clear hfz13_2
                        try clear hfz13_3
                        try clear hfz25_0
                        try clear hfz25_1
                        try clear hfz25_2
                        try clear hfz25_3
                        try clear hx179_0
                        try clear hx179_1
                        try clear hx179_2
                        try clear hx179_3
                        try clear hx183_0
                        try clear hx183_1
                        try clear hx183_2
                        try clear hx183_3
                        try clear p1
                        try clear p17
                        try clear p179
                        try clear p18
                        try clear p183
                        try clear p2
                        try clear p6
                        try clear q1
                        try clear q17
                        try clear q179
                        try clear q18
                        try clear q183
                        obtain ⟨kq, x9_23, rfl, HA, HJ23, BK180, HB⟩ := hcut
                        cases kq with
                        | zero => exact absurd HA.out (by simp [screeref09_Encode.j3])
                        | succ kj23 =>
                          have H := HA.out
                          clear HA
                          simp only [screeref09_Encode.j3] at H
                          replace H := Option.bind_eq_some_iff.mp H
                          obtain ⟨t185, A270, H⟩ := H
                          replace H : (if 0 ≤ x8_10 then (if x8_10 ≤ (((rd_T35 l0 x6_2).f0).size : Int) then ((screeref05_Text.f kj23 (((rd_T35 l0 x6_2).f0).extract (x8_10 : Int).toNat ((rd_T35 l0 x6_2).f0).size)).bind fun t186 => (if t185.size + t186.size ≤ 9223372036854775807 then ((screeref01_Short.f kj23 ((rd_T35 l0 x6_2).f1)).bind fun t187 => (if (t185 ++ t186).size + t187.size ≤ 9223372036854775807 then (if ((t185 ++ t186) ++ t187).size + x9_23.size ≤ 9223372036854775807 then ((screeref05_Text.f kj23 ((rd_T35 l0 x6_2).f3)).bind fun t188 => (if (((t185 ++ t186) ++ t187) ++ x9_23).size + t188.size ≤ 9223372036854775807 then (if x4_2.size + ((((t185 ++ t186) ++ t187) ++ x9_23) ++ t188).size ≤ 9223372036854775807 then (screeref09_Encode.l0 kj23 l0 (x4_2 ++ ((((t185 ++ t186) ++ t187) ++ x9_23) ++ t188)) x5_10 (wrap64 (x6_2 + 1))) else (none)) else (none))) else (none)) else (none))) else (none))) else (none)) else (none)) = some (r1, r2) := H
                          have A27 := Aside0.mk A270
                          clear A270
                          by_cases c28 : 0 ≤ x8_10
                          · rw [if_pos c28] at H
                            have c28b0 := eq_true c28
                            have c28b1 : decide (0 ≤ x8_10) = true := decide_eq_true c28
                            clear c28
                            by_cases c29 : x8_10 ≤ (((rd_T35 l0 x6_2).f0).size : Int)
                            · rw [if_pos c29] at H
                              have c29b0 := eq_true c29
                              have c29b1 : decide (x8_10 ≤ (((rd_T35 l0 x6_2).f0).size : Int)) = true := decide_eq_true c29
                              clear c29
                              replace H := Option.bind_eq_some_iff.mp H
                              obtain ⟨t186, A300, H⟩ := H
                              replace H : (if t185.size + t186.size ≤ 9223372036854775807 then ((screeref01_Short.f kj23 ((rd_T35 l0 x6_2).f1)).bind fun t187 => (if (t185 ++ t186).size + t187.size ≤ 9223372036854775807 then (if ((t185 ++ t186) ++ t187).size + x9_23.size ≤ 9223372036854775807 then ((screeref05_Text.f kj23 ((rd_T35 l0 x6_2).f3)).bind fun t188 => (if (((t185 ++ t186) ++ t187) ++ x9_23).size + t188.size ≤ 9223372036854775807 then (if x4_2.size + ((((t185 ++ t186) ++ t187) ++ x9_23) ++ t188).size ≤ 9223372036854775807 then (screeref09_Encode.l0 kj23 l0 (x4_2 ++ ((((t185 ++ t186) ++ t187) ++ x9_23) ++ t188)) x5_10 (wrap64 (x6_2 + 1))) else (none)) else (none))) else (none)) else (none))) else (none)) = some (r1, r2) := H
                              have A30 := Aside0.mk A300
                              clear A300
                              by_cases c31 : t185.size + t186.size ≤ 9223372036854775807
                              · rw [if_pos c31] at H
                                have c31b0 := eq_true c31
                                have c31b1 : decide (t185.size + t186.size ≤ 9223372036854775807) = true := decide_eq_true c31
                                try have c31b2 : (9223372036854775807 < t185.size + t186.size) = False := eq_false (Nat.not_lt.2 c31)
                                try (have c31b3 := c31b2; simp only [ByteArray.size_append] at c31b3)
                                try (have c31b4 := c31b2; simp only [ByteArray.size_extract, ByteArray.size_append, Nat.sub_zero] at c31b4)
                                replace H := Option.bind_eq_some_iff.mp H
                                obtain ⟨t187, A320, H⟩ := H
                                replace H : (if (t185 ++ t186).size + t187.size ≤ 9223372036854775807 then (if ((t185 ++ t186) ++ t187).size + x9_23.size ≤ 9223372036854775807 then ((screeref05_Text.f kj23 ((rd_T35 l0 x6_2).f3)).bind fun t188 => (if (((t185 ++ t186) ++ t187) ++ x9_23).size + t188.size ≤ 9223372036854775807 then (if x4_2.size + ((((t185 ++ t186) ++ t187) ++ x9_23) ++ t188).size ≤ 9223372036854775807 then (screeref09_Encode.l0 kj23 l0 (x4_2 ++ ((((t185 ++ t186) ++ t187) ++ x9_23) ++ t188)) x5_10 (wrap64 (x6_2 + 1))) else (none)) else (none))) else (none)) else (none)) = some (r1, r2) := H
                                have A32 := Aside0.mk A320
                                clear A320
                                by_cases c33 : (t185 ++ t186).size + t187.size ≤ 9223372036854775807
                                · rw [if_pos c33] at H
                                  have c33b0 := eq_true c33
                                  have c33b1 : decide ((t185 ++ t186).size + t187.size ≤ 9223372036854775807) = true := decide_eq_true c33
                                  try have c33b2 : (9223372036854775807 < (t185 ++ t186).size + t187.size) = False := eq_false (Nat.not_lt.2 c33)
                                  try (have c33b3 := c33b2; simp only [ByteArray.size_append] at c33b3)
                                  try (have c33b4 := c33b2; simp only [ByteArray.size_extract, ByteArray.size_append, Nat.sub_zero] at c33b4)
                                  by_cases c34 : ((t185 ++ t186) ++ t187).size + x9_23.size ≤ 9223372036854775807
                                  · rw [if_pos c34] at H
                                    have c34b0 := eq_true c34
                                    have c34b1 : decide (((t185 ++ t186) ++ t187).size + x9_23.size ≤ 9223372036854775807) = true := decide_eq_true c34
                                    try have c34b2 : (9223372036854775807 < ((t185 ++ t186) ++ t187).size + x9_23.size) = False := eq_false (Nat.not_lt.2 c34)
                                    try (have c34b3 := c34b2; simp only [ByteArray.size_append] at c34b3)
                                    try (have c34b4 := c34b2; simp only [ByteArray.size_extract, ByteArray.size_append, Nat.sub_zero] at c34b4)
                                    replace H := Option.bind_eq_some_iff.mp H
                                    obtain ⟨t188, A350, H⟩ := H
                                    replace H : (if (((t185 ++ t186) ++ t187) ++ x9_23).size + t188.size ≤ 9223372036854775807 then (if x4_2.size + ((((t185 ++ t186) ++ t187) ++ x9_23) ++ t188).size ≤ 9223372036854775807 then (screeref09_Encode.l0 kj23 l0 (x4_2 ++ ((((t185 ++ t186) ++ t187) ++ x9_23) ++ t188)) x5_10 (wrap64 (x6_2 + 1))) else (none)) else (none)) = some (r1, r2) := H
                                    have A35 := Aside0.mk A350
                                    clear A350
                                    by_cases c36 : (((t185 ++ t186) ++ t187) ++ x9_23).size + t188.size ≤ 9223372036854775807
                                    · rw [if_pos c36] at H
                                      have c36b0 := eq_true c36
                                      have c36b1 : decide ((((t185 ++ t186) ++ t187) ++ x9_23).size + t188.size ≤ 9223372036854775807) = true := decide_eq_true c36
                                      try have c36b2 : (9223372036854775807 < (((t185 ++ t186) ++ t187) ++ x9_23).size + t188.size) = False := eq_false (Nat.not_lt.2 c36)
                                      try (have c36b3 := c36b2; simp only [ByteArray.size_append] at c36b3)
                                      try (have c36b4 := c36b2; simp only [ByteArray.size_extract, ByteArray.size_append, Nat.sub_zero] at c36b4)
                                      by_cases c37 : x4_2.size + ((((t185 ++ t186) ++ t187) ++ x9_23) ++ t188).size ≤ 9223372036854775807
                                      · rw [if_pos c37] at H
                                        have c37b0 := eq_true c37
                                        have c37b1 : decide (x4_2.size + ((((t185 ++ t186) ++ t187) ++ x9_23) ++ t188).size ≤ 9223372036854775807) = true := decide_eq_true c37
                                        try have c37b2 : (9223372036854775807 < x4_2.size + ((((t185 ++ t186) ++ t187) ++ x9_23) ++ t188).size) = False := eq_false (Nat.not_lt.2 c37)
                                        try (have c37b3 := c37b2; simp only [ByteArray.size_append] at c37b3)
                                        try (have c37b4 := c37b2; simp only [ByteArray.size_extract, ByteArray.size_append, Nat.sub_zero] at c37b4)
                                        have H' := Aside0.mk H
                                        clear H
                                        try go_wp2
                                        have n0_ := Aside0.mk (blk_drew BK180.out)
                                        have n1_ := Aside0.mk (below_drew1 HB.out)
                                        clear BK180
                                        clear HB
                                        have BK180 := n0_
                                        have HB := n1_
                                        clear n0_ n1_
                                        refine start_ (n := 22) (S := fun w' => w'.cell? ⟨gb180, 0, none⟩ = some (.string ((rd_T35 l0 x6_2).f0)) ∧ w'.cell? ⟨gb180, 1, none⟩ = some (.int .u64 ((rd_T35 l0 x6_2).f1)) ∧ w'.cell? ⟨gb180, 2, none⟩ = some (.bool ((rd_T35 l0 x6_2).f2)) ∧ w'.cell? ⟨gb180, 3, none⟩ = some (.string ((rd_T35 l0 x6_2).f3))) (ds := []) #[false, false, false, false, false, false, false, false, false, false, false, false, false, false, false, false, false, false, false, false, false, false] (by kernel_rfl) rfl rfl ⟨(blk_cell BK180.out 0).trans rfl, (blk_cell BK180.out 1).trans rfl, (blk_cell BK180.out 2).trans rfl, (blk_cell BK180.out 3).trans rfl⟩ (fun hHeld => ?_); refine with_tabW screeref09_Encode.tab18 screeref09_Encode.bits18 (fun HT_ HW_ => ?_)
                                        generalize wc.drew = w38 at BK180 HB hHeld ⊢
                                        refine pure_ (i := 0) (N := some 56) (v := ?_) (a' := ?_) #[true, false, false, false, false, false, false, false, false, false, false, false, false, false, false, false, false, false, false, false, false, false] rfl rfl (any_of HT_.out (by kernel_rfl)) (fun _ _ _ h => h) (Or.inl ⟨by rfl, ?_⟩) ?_ ?_
                                        rotate_left
                                        · intro w'
                                          go_simp
                                          with_reducible rfl
                                        rotate_left
                                        · simp only [Act.put, List.setIfInBounds_toArray, List.set_cons_zero, List.set_cons_succ, i64_w, i32_w]
                                          rfl
                                        refine pure_ (i := 1) (N := some 57) (v := ?_) (a' := ?_) #[true, true, false, false, false, false, false, false, false, false, false, false, false, false, false, false, false, false, false, false, false, false] rfl rfl (any_of HT_.out (by kernel_rfl)) (fun _ _ _ h => h) (Or.inl ⟨by rfl, ?_⟩) ?_ ?_
                                        rotate_left
                                        · intro w'
                                          go_simp
                                          with_reducible rfl
                                        rotate_left
                                        · simp only [Act.put, List.setIfInBounds_toArray, List.set_cons_zero, List.set_cons_succ, i64_w, i32_w]
                                          rfl
                                        refine pure_ (i := 2) (N := some 58) (v := ?_) (a' := ?_) #[true, true, true, false, false, false, false, false, false, false, false, false, false, false, false, false, false, false, false, false, false, false] rfl rfl (any_of HT_.out (by kernel_rfl)) (fun _ _ _ h => h) (Or.inl ⟨by rfl, ?_⟩) ?_ ?_
                                        rotate_left
                                        · intro w'
                                          go_simp
                                          with_reducible rfl
                                        rotate_left
                                        · simp only [Act.put, List.setIfInBounds_toArray, List.set_cons_zero, List.set_cons_succ, i64_w, i32_w]
                                          rfl
                                        refine pure_ (i := 4) (N := some 60) (v := ?_) (a' := ?_) #[true, true, true, false, true, false, false, false, false, false, false, false, false, false, false, false, false, false, false, false, false, false] rfl rfl (any_of HT_.out (by kernel_rfl)) (fun _ _ _ h => h) (Or.inl ⟨by rfl, ?_⟩) ?_ ?_
                                        rotate_left
                                        · intro w'
                                          go_simp
                                          with_reducible rfl
                                        rotate_left
                                        · simp only [Act.put, List.setIfInBounds_toArray, List.set_cons_zero, List.set_cons_succ, i64_w, i32_w]
                                          rfl
                                        refine pure_ (i := 6) (N := some 62) (v := ?_) (a' := ?_) #[true, true, true, false, true, false, true, false, false, false, false, false, false, false, false, false, false, false, false, false, false, false] rfl rfl (any_of HT_.out (by kernel_rfl)) (fun _ _ _ h => h) (Or.inl ⟨by rfl, ?_⟩) ?_ ?_
                                        rotate_left
                                        · intro w'
                                          go_simp
                                          with_reducible rfl
                                        rotate_left
                                        · simp only [Act.put, List.setIfInBounds_toArray, List.set_cons_zero, List.set_cons_succ, i64_w, i32_w]
                                          rfl
                                        refine pure_ (i := 10) (N := some 66) (v := ?_) (a' := ?_) #[true, true, true, false, true, false, true, false, false, false, true, false, false, false, false, false, false, false, false, false, false, false] rfl rfl (any_of HT_.out (by kernel_rfl)) (fun _ _ _ h => h) (Or.inl ⟨by rfl, ?_⟩) ?_ ?_
                                        rotate_left
                                        · intro w'
                                          go_simp
                                          with_reducible rfl
                                        rotate_left
                                        · simp only [Act.put, List.setIfInBounds_toArray, List.set_cons_zero, List.set_cons_succ, i64_w, i32_w]
                                          rfl
                                        refine pure_ (i := 14) (N := some 70) (v := ?_) (a' := ?_) #[true, true, true, false, true, false, true, false, false, false, true, false, false, false, true, false, false, false, false, false, false, false] rfl rfl (any_of HT_.out (by kernel_rfl)) (fun _ _ _ h => h) (Or.inl ⟨by rfl, ?_⟩) ?_ ?_
                                        rotate_left
                                        · intro w'
                                          go_simp
                                          with_reducible rfl
                                        rotate_left
                                        · simp only [Act.put, List.setIfInBounds_toArray, List.set_cons_zero, List.set_cons_succ, i64_w, i32_w]
                                          rfl
                                        refine pure_ (i := 16) (N := some 72) (v := ?_) (a' := ?_) #[true, true, true, false, true, false, true, false, false, false, true, false, false, false, true, false, true, false, false, false, false, false] rfl rfl (any_of HT_.out (by kernel_rfl)) (fun _ _ _ h => h) (Or.inl ⟨by rfl, ?_⟩) ?_ ?_
                                        rotate_left
                                        · intro w'
                                          go_simp
                                          with_reducible rfl
                                        rotate_left
                                        · simp only [Act.put, List.setIfInBounds_toArray, List.set_cons_zero, List.set_cons_succ, i64_w, i32_w]
                                          rfl
                                        refine take_ (i := 5) (N := some 61) (v := ?_) (a' := ?_) #[true, true, true, false, true, true, true, false, false, false, true, false, false, false, true, false, true, false, false, false, false, false] rfl rfl (take_ofW HT_.out HW_.out (by kernel_rfl)) (fun _ _ _ h => h) (Or.inl ⟨by rfl, ?_⟩) hHeld ?_ ?_
                                        rotate_left
                                        · rintro w' ⟨s0, s1, s2, s3⟩
                                          go_simp
                                          with_reducible rfl
                                        rotate_left
                                        · simp only [Act.put, List.setIfInBounds_toArray, List.set_cons_zero, List.set_cons_succ, i64_w, i32_w]
                                          rfl
                                        refine pure_ (i := 7) (N := some 63) (v := ?_) (a' := ?_) #[true, true, true, false, true, true, true, true, false, false, true, false, false, false, true, false, true, false, false, false, false, false] rfl rfl (any_of HT_.out (by kernel_rfl)) (fun _ _ _ h => h) (Or.inl ⟨by rfl, ?_⟩) ?_ ?_
                                        rotate_left
                                        · intro w'
                                          go_simp
                                          with_reducible rfl
                                        rotate_left
                                        · simp only [Act.put, List.setIfInBounds_toArray, List.set_cons_zero, List.set_cons_succ, i64_w, i32_w]
                                          rfl
                                        refine take_ (i := 11) (N := some 67) (v := ?_) (a' := ?_) #[true, true, true, false, true, true, true, true, false, false, true, true, false, false, true, false, true, false, false, false, false, false] rfl rfl (take_ofW HT_.out HW_.out (by kernel_rfl)) (fun _ _ _ h => h) (Or.inl ⟨by rfl, ?_⟩) hHeld ?_ ?_
                                        rotate_left
                                        · rintro w' ⟨s0, s1, s2, s3⟩
                                          go_simp
                                          with_reducible rfl
                                        rotate_left
                                        · simp only [Act.put, List.setIfInBounds_toArray, List.set_cons_zero, List.set_cons_succ, i64_w, i32_w]
                                          rfl
                                        refine take_ (i := 17) (N := some 73) (v := ?_) (a' := ?_) #[true, true, true, false, true, true, true, true, false, false, true, true, false, false, true, false, true, true, false, false, false, false] rfl rfl (take_ofW HT_.out HW_.out (by kernel_rfl)) (fun _ _ _ h => h) (Or.inl ⟨by rfl, ?_⟩) hHeld ?_ ?_
                                        rotate_left
                                        · rintro w' ⟨s0, s1, s2, s3⟩
                                          go_simp
                                          with_reducible rfl
                                        rotate_left
                                        · simp only [Act.put, List.setIfInBounds_toArray, List.set_cons_zero, List.set_cons_succ, i64_w, i32_w]
                                          rfl
                                        refine one_ (i := 3) (N := some 59) #[true, true, true, true, true, true, true, true, false, false, true, true, false, false, true, false, true, true, false, false, false, false] rfl rfl (one_of HT_.out (by kernel_rfl)) (by decide) (fun K hK => ?_)
                                        refine goes_ Try.func34 (by kernel_rfl) rfl #[.int .u64 (IntKind.u64.wrap (x8_10))] (by rfl) rfl rfl (by (try simp only [List.map_toArray, List.map_cons, List.map_nil]); first | done | rfl | (simp only [List.length_drop, List.length_take]; rfl) | (simp (disch := omega) only [IntWalk.u64_in, IntWalk.i64_in, IntWalk.u8_in]; rfl)) ?_
                                        with_reducible refine (screeref01_Short.calls kj23 (IntKind.u64.wrap (x8_10)) t185 _ A27.out).mono ?_
                                        rintro e w39 ⟨rfl, hb⟩
                                        refine ⟨_, rfl, ?_⟩
                                        have n0_ := Aside0.mk (blk_below (g := gb180) (o := .cells #[.string ((rd_T35 l0 x6_2).f0), .int .u64 ((rd_T35 l0 x6_2).f1), .bool ((rd_T35 l0 x6_2).f2), .string ((rd_T35 l0 x6_2).f3)] 35 (0, 0)) (by (with_reducible repeat (first | refine blk_drewN ?_ _ | refine blk_drew ?_ | refine blk_alloc ?_ _)); exact BK180.out) hb)
                                        have n1_ := Aside0.mk (below_step (by repeat (first | (with_reducible first | exact HB.out | apply below_alloc | apply pw_below_drewN | apply below_drew1 | refine below_set ?_ GE180.out) | exact HB.out)) hb)
                                        clear BK180
                                        clear HB
                                        have BK180 := n0_
                                        have HB := n1_
                                        clear n0_ n1_
                                        (try clear hb)
                                        (try clear hb2)
                                        (try clear hk)
                                        (try clear hi)
                                        (try clear A27)
                                        refine hK.out _ _ ⟨(blk_cell BK180.out 0).trans rfl, (blk_cell BK180.out 1).trans rfl, (blk_cell BK180.out 2).trans rfl, (blk_cell BK180.out 3).trans rfl⟩ (fun hHeld => ?_)
                                        clear hK K
                                        refine norm_ (a' := ?_) ?_ ?_
                                        rotate_left
                                        · show Act.put _ (some 59) _ = _
                                          simp only [Act.put, List.setIfInBounds_toArray, List.set_cons_zero, List.set_cons_succ, i64_w, i32_w]
                                          rfl
                                        refine one_ (i := 8) (N := some 64) #[true, true, true, true, true, true, true, true, true, false, true, true, false, false, true, false, true, true, false, false, false, false] rfl rfl (one_of HT_.out (by kernel_rfl)) (by decide) (fun K hK => ?_)
                                        refine goes_ Try.func35 (by kernel_rfl) rfl #[.string (((rd_T35 l0 x6_2).f0).extract (x8_10 : Int).toNat ((rd_T35 l0 x6_2).f0).size)] (by rfl) rfl rfl (by (try simp only [List.map_toArray, List.map_cons, List.map_nil]); first | done | rfl | (simp only [List.length_drop, List.length_take]; rfl) | (simp (disch := omega) only [IntWalk.u64_in, IntWalk.i64_in, IntWalk.u8_in]; rfl)) ?_
                                        with_reducible refine (screeref05_Text.calls kj23 (((rd_T35 l0 x6_2).f0).extract (x8_10 : Int).toNat ((rd_T35 l0 x6_2).f0).size) t186 _ A30.out).mono ?_
                                        rintro e w40 ⟨rfl, hb⟩
                                        refine ⟨_, rfl, ?_⟩
                                        have n0_ := Aside0.mk (blk_below (g := gb180) (o := .cells #[.string ((rd_T35 l0 x6_2).f0), .int .u64 ((rd_T35 l0 x6_2).f1), .bool ((rd_T35 l0 x6_2).f2), .string ((rd_T35 l0 x6_2).f3)] 35 (0, 0)) (by (with_reducible repeat (first | refine blk_drewN ?_ _ | refine blk_drew ?_ | refine blk_alloc ?_ _)); exact BK180.out) hb)
                                        have n1_ := Aside0.mk (below_step (by repeat (first | (with_reducible first | exact HB.out | apply below_alloc | apply pw_below_drewN | apply below_drew1 | refine below_set ?_ GE180.out) | exact HB.out)) hb)
                                        clear BK180
                                        clear HB
                                        have BK180 := n0_
                                        have HB := n1_
                                        clear n0_ n1_
                                        (try clear hb)
                                        (try clear hb2)
                                        (try clear hk)
                                        (try clear hi)
                                        (try clear A30)
                                        refine hK.out _ _ ⟨(blk_cell BK180.out 0).trans rfl, (blk_cell BK180.out 1).trans rfl, (blk_cell BK180.out 2).trans rfl, (blk_cell BK180.out 3).trans rfl⟩ (fun hHeld => ?_)
                                        clear hK K
                                        refine norm_ (a' := ?_) ?_ ?_
                                        rotate_left
                                        · show Act.put _ (some 64) _ = _
                                          simp only [Act.put, List.setIfInBounds_toArray, List.set_cons_zero, List.set_cons_succ, i64_w, i32_w]
                                          rfl
                                        refine pure_ (i := 9) (N := some 65) (v := ?_) (a' := ?_) #[true, true, true, true, true, true, true, true, true, true, true, true, false, false, true, false, true, true, false, false, false, false] rfl rfl (any_of HT_.out (by kernel_rfl)) (fun _ _ _ h => h) (Or.inl ⟨by rfl, ?_⟩) ?_ ?_
                                        rotate_left
                                        · intro w'
                                          go_simp
                                          with_reducible rfl
                                        rotate_left
                                        · simp only [Act.put, List.setIfInBounds_toArray, List.set_cons_zero, List.set_cons_succ, i64_w, i32_w]
                                          rfl
                                        refine one_ (i := 12) (N := some 68) #[true, true, true, true, true, true, true, true, true, true, true, true, true, false, true, false, true, true, false, false, false, false] rfl rfl (one_of HT_.out (by kernel_rfl)) (by decide) (fun K hK => ?_)
                                        refine goes_ Try.func34 (by kernel_rfl) rfl #[.int .u64 ((rd_T35 l0 x6_2).f1)] (by rfl) rfl rfl (by (try simp only [List.map_toArray, List.map_cons, List.map_nil]); first | done | rfl | (simp only [List.length_drop, List.length_take]; rfl) | (simp (disch := omega) only [IntWalk.u64_in, IntWalk.i64_in, IntWalk.u8_in]; rfl)) ?_
                                        with_reducible refine (screeref01_Short.calls kj23 ((rd_T35 l0 x6_2).f1) t187 _ A32.out).mono ?_
                                        rintro e w41 ⟨rfl, hb⟩
                                        refine ⟨_, rfl, ?_⟩
                                        have n0_ := Aside0.mk (blk_below (g := gb180) (o := .cells #[.string ((rd_T35 l0 x6_2).f0), .int .u64 ((rd_T35 l0 x6_2).f1), .bool ((rd_T35 l0 x6_2).f2), .string ((rd_T35 l0 x6_2).f3)] 35 (0, 0)) (by (with_reducible repeat (first | refine blk_drewN ?_ _ | refine blk_drew ?_ | refine blk_alloc ?_ _)); exact BK180.out) hb)
                                        have n1_ := Aside0.mk (below_step (by repeat (first | (with_reducible first | exact HB.out | apply below_alloc | apply pw_below_drewN | apply below_drew1 | refine below_set ?_ GE180.out) | exact HB.out)) hb)
                                        clear BK180
                                        clear HB
                                        have BK180 := n0_
                                        have HB := n1_
                                        clear n0_ n1_
                                        (try clear hb)
                                        (try clear hb2)
                                        (try clear hk)
                                        (try clear hi)
                                        (try clear A32)
                                        refine hK.out _ _ ⟨(blk_cell BK180.out 0).trans rfl, (blk_cell BK180.out 1).trans rfl, (blk_cell BK180.out 2).trans rfl, (blk_cell BK180.out 3).trans rfl⟩ (fun hHeld => ?_)
                                        clear hK K
                                        refine norm_ (a' := ?_) ?_ ?_
                                        rotate_left
                                        · show Act.put _ (some 68) _ = _
                                          simp only [Act.put, List.setIfInBounds_toArray, List.set_cons_zero, List.set_cons_succ, i64_w, i32_w]
                                          rfl
                                        refine pure_ (i := 13) (N := some 69) (v := ?_) (a' := ?_) #[true, true, true, true, true, true, true, true, true, true, true, true, true, true, true, false, true, true, false, false, false, false] rfl rfl (any_of HT_.out (by kernel_rfl)) (fun _ _ _ h => h) (Or.inl ⟨by rfl, ?_⟩) ?_ ?_
                                        rotate_left
                                        · intro w'
                                          go_simp
                                          with_reducible rfl
                                        rotate_left
                                        · simp only [Act.put, List.setIfInBounds_toArray, List.set_cons_zero, List.set_cons_succ, i64_w, i32_w]
                                          rfl
                                        refine pure_ (i := 15) (N := some 71) (v := ?_) (a' := ?_) #[true, true, true, true, true, true, true, true, true, true, true, true, true, true, true, true, true, true, false, false, false, false] rfl rfl (any_of HT_.out (by kernel_rfl)) (fun _ _ _ h => h) (Or.inl ⟨by rfl, ?_⟩) ?_ ?_
                                        rotate_left
                                        · intro w'
                                          go_simp
                                          with_reducible rfl
                                        rotate_left
                                        · simp only [Act.put, List.setIfInBounds_toArray, List.set_cons_zero, List.set_cons_succ, i64_w, i32_w]
                                          rfl
                                        refine one_ (i := 18) (N := some 74) #[true, true, true, true, true, true, true, true, true, true, true, true, true, true, true, true, true, true, true, false, false, false] rfl rfl (one_of HT_.out (by kernel_rfl)) (by decide) (fun K hK => ?_)
                                        refine goes_ Try.func35 (by kernel_rfl) rfl #[.string ((rd_T35 l0 x6_2).f3)] (by rfl) rfl rfl (by (try simp only [List.map_toArray, List.map_cons, List.map_nil]); first | done | rfl | (simp only [List.length_drop, List.length_take]; rfl) | (simp (disch := omega) only [IntWalk.u64_in, IntWalk.i64_in, IntWalk.u8_in]; rfl)) ?_
                                        with_reducible refine (screeref05_Text.calls kj23 ((rd_T35 l0 x6_2).f3) t188 _ A35.out).mono ?_
                                        rintro e w42 ⟨rfl, hb⟩
                                        refine ⟨_, rfl, ?_⟩
                                        have n0_ := Aside0.mk (blk_below (g := gb180) (o := .cells #[.string ((rd_T35 l0 x6_2).f0), .int .u64 ((rd_T35 l0 x6_2).f1), .bool ((rd_T35 l0 x6_2).f2), .string ((rd_T35 l0 x6_2).f3)] 35 (0, 0)) (by (with_reducible repeat (first | refine blk_drewN ?_ _ | refine blk_drew ?_ | refine blk_alloc ?_ _)); exact BK180.out) hb)
                                        have n1_ := Aside0.mk (below_step (by repeat (first | (with_reducible first | exact HB.out | apply below_alloc | apply pw_below_drewN | apply below_drew1 | refine below_set ?_ GE180.out) | exact HB.out)) hb)
                                        clear BK180
                                        clear HB
                                        have BK180 := n0_
                                        have HB := n1_
                                        clear n0_ n1_
                                        (try clear hb)
                                        (try clear hb2)
                                        (try clear hk)
                                        (try clear hi)
                                        (try clear A35)
                                        refine hK.out _ _ ⟨(blk_cell BK180.out 0).trans rfl, (blk_cell BK180.out 1).trans rfl, (blk_cell BK180.out 2).trans rfl, (blk_cell BK180.out 3).trans rfl⟩ (fun hHeld => ?_)
                                        clear hK K
                                        refine norm_ (a' := ?_) ?_ ?_
                                        rotate_left
                                        · show Act.put _ (some 74) _ = _
                                          simp only [Act.put, List.setIfInBounds_toArray, List.set_cons_zero, List.set_cons_succ, i64_w, i32_w]
                                          rfl
                                        refine pure_ (i := 19) (N := some 75) (v := ?_) (a' := ?_) #[true, true, true, true, true, true, true, true, true, true, true, true, true, true, true, true, true, true, true, true, false, false] rfl rfl (any_of HT_.out (by kernel_rfl)) (fun _ _ _ h => h) (Or.inl ⟨by rfl, ?_⟩) ?_ ?_
                                        rotate_left
                                        · intro w'
                                          go_simp
                                          with_reducible rfl
                                        rotate_left
                                        · simp only [Act.put, List.setIfInBounds_toArray, List.set_cons_zero, List.set_cons_succ, i64_w, i32_w]
                                          rfl
                                        refine pure_ (i := 20) (N := some 76) (v := ?_) (a' := ?_) #[true, true, true, true, true, true, true, true, true, true, true, true, true, true, true, true, true, true, true, true, true, false] rfl rfl (any_of HT_.out (by kernel_rfl)) (fun _ _ _ h => h) (Or.inl ⟨by rfl, ?_⟩) ?_ ?_
                                        rotate_left
                                        · intro w'
                                          go_simp
                                          with_reducible rfl
                                        rotate_left
                                        · simp only [Act.put, List.setIfInBounds_toArray, List.set_cons_zero, List.set_cons_succ, i64_w, i32_w]
                                          rfl
                                        refine pure_ (i := 21) (N := some 4) (v := ?_) (a' := ?_) #[true, true, true, true, true, true, true, true, true, true, true, true, true, true, true, true, true, true, true, true, true, true] rfl rfl (any_of HT_.out (by kernel_rfl)) (fun _ _ _ h => h) (Or.inl ⟨by rfl, ?_⟩) ?_ ?_
                                        rotate_left
                                        · intro w'
                                          go_simp
                                          with_reducible rfl
                                        rotate_left
                                        · simp only [Act.put, List.setIfInBounds_toArray, List.set_cons_zero, List.set_cons_succ, i64_w, i32_w]
                                          rfl
                                        refine done_ (done_of HT_.out (by kernel_rfl)) ?_
                                        (try clear hHeld)
                                        (try clear c17b0); (try clear c17b1); (try clear c17b2); (try clear c17b3); (try clear c17b4); (try clear c17b5); (try clear c17b6); (try clear c28b0); (try clear c28b1); (try clear c28b2); (try clear c28b3); (try clear c28b4); (try clear c28b5); (try clear c28b6); (try clear c29b0); (try clear c29b1); (try clear c29b2); (try clear c29b3); (try clear c29b4); (try clear c29b5); (try clear c29b6); (try clear c31b0); (try clear c31b1); (try clear c31b2); (try clear c31b3); (try clear c31b4); (try clear c31b5); (try clear c31b6); (try clear c33b0); (try clear c33b1); (try clear c33b2); (try clear c33b3); (try clear c33b4); (try clear c33b5); (try clear c33b6); (try clear c34b0); (try clear c34b1); (try clear c34b2); (try clear c34b3); (try clear c34b4); (try clear c34b5); (try clear c34b6); (try clear c36b0); (try clear c36b1); (try clear c36b2); (try clear c36b3); (try clear c36b4); (try clear c36b5); (try clear c36b6); (try clear c37b0); (try clear c37b1); (try clear c37b2); (try clear c37b3); (try clear c37b4); (try clear c37b5); (try clear c37b6)
                                        try go_wp2
                                        go_roundg kj23
                                        case measure => have := HJ1.out; have := HK2.out; have := HJ10.out; have := HJ23.out; omega
                                        case rel => exact ⟨(x4_2 ++ ((((t185 ++ t186) ++ t187) ++ x9_23) ++ t188)), (x5_10), (wrap64 (x6_2 + 1)), (by first | rfl | (simp; done) | (simp [*]; done)), (by first | rfl | (simp; done) | (simp [*]; done)), (by first | rfl | (simp; done) | (simp [*]; done)), (by first | (with_reducible exact H') | exact H' | (subst_vars; exact H')), ⟨by have := HJ1.out; have := HK2.out; have := HJ10.out; have := HJ23.out; omega⟩, ⟨by repeat (first | (with_reducible first | exact HB.out | apply below_alloc | apply pw_below_drewN | apply below_drew1 | refine below_set ?_ GE180.out) | exact HB.out)⟩⟩
                                      · rw [if_neg c37] at H
                                        exact absurd H (by simp)
                                    · rw [if_neg c36] at H
                                      exact absurd H (by simp)
                                  · rw [if_neg c34] at H
                                    exact absurd H (by simp)
                                · rw [if_neg c33] at H
                                  exact absurd H (by simp)
                              · rw [if_neg c31] at H
                                exact absurd H (by simp)
                            · rw [if_neg c29] at H
                              exact absurd H (by simp)
                          · rw [if_neg c28] at H
                            exact absurd H (by simp)
                · replace c10 := Bool.eq_false_iff.mpr c10
                  subst c10
                  have H1 : (some ((⟨#[]⟩ : ByteArray), 2)) = some (r1, r2) := by rw [if_neg (show ¬ (false = true) by decide)] at H; exact H
                  clear H
                  have H := H1
                  clear H1
                  simp only [Option.some.injEq, Prod.mk.injEq] at H
                  obtain ⟨rfl, rfl⟩ := H
                  have p179 : 0 ≤ (x6_2 : Int) := of_decide_eq_true (by first | (with_reducible assumption) | assumption)
                  have q179 : x6_2 < (l0.length : Int) := of_decide_eq_true (by first | (with_reducible assumption) | assumption)
                  obtain ⟨ad179, e179, hx179_0, hx179_1, hx179_2, hx179_3⟩ := at_T35 HR0.out x6_2 p179 q179
                  cases e179
                  replace hx179_0 := (HB.out.cell (World.block_lt_of_cell? w _ hx179_0)).trans hx179_0
                  replace hx179_1 := (HB.out.cell (World.block_lt_of_cell? w _ hx179_1)).trans hx179_1
                  replace hx179_2 := (HB.out.cell (World.block_lt_of_cell? w _ hx179_2)).trans hx179_2
                  replace hx179_3 := (HB.out.cell (World.block_lt_of_cell? w _ hx179_3)).trans hx179_3
                  replace p179 := eq_true p179
                  replace q179 := eq_true q179
                  go_wp2_with (first | ((with_reducible refine gate_dst (N := 7) rfl ?_); (try (refine gate_guard (by rfl) ?_; dsimp only)); refine box_event ?hg (N := 7) ?hd (cs := #[.string (⟨#[]⟩ : ByteArray), .int .u64 0, .bool false, .string (⟨#[]⟩ : ByteArray)]) (t := 35) ?hr ?_; (case hd => rfl); (case hg => rfl); (case hr => first | (go_simp; done) | (go_simp; rfl)); intro gb180 hg w43 hbox hb; have n0_ := Aside0.mk (below_step (by repeat (first | (with_reducible first | exact HB.out | apply below_alloc | apply pw_below_drewN | apply below_drew1) | exact HB.out)) hb); have n1_ := Aside0.mk (hbox); have n2_ := Aside0.mk ((by rw [hg]; exact (below_size (by repeat (first | (with_reducible first | exact HB.out | apply below_alloc | apply pw_below_drewN | apply below_drew1) | exact HB.out))) : w.heap.size ≤ gb180)); have n3_ := Aside0.mk ((by rw [hg]; exact (below_size (by repeat (first | (with_reducible first | exact HB.out | apply below_alloc | apply pw_below_drewN | apply below_drew1) | exact HB.out))) : w.heap.size ≤ gb180)); clear HB; have HB := n0_; have BK180 := n1_; have GW180 := n2_; have GE180 := n3_; clear n0_ n1_ n2_ n3_; clear hb hbox hg; have hcz44_0 : w43.cell? ⟨gb180, 0, none⟩ = some (.string (⟨#[]⟩ : ByteArray)) := (blk_cell BK180.out 0).trans rfl; have hcz44_1 : w43.cell? ⟨gb180, 1, none⟩ = some (.int .u64 0) := (blk_cell BK180.out 1).trans rfl; have hcz44_2 : w43.cell? ⟨gb180, 2, none⟩ = some (.bool false) := (blk_cell BK180.out 2).trans rfl; have hcz44_3 : w43.cell? ⟨gb180, 3, none⟩ = some (.string (⟨#[]⟩ : ByteArray)) := (blk_cell BK180.out 3).trans rfl; have hfz44_0 := blk_frozen BK180.out 0; have hfz44_1 := blk_frozen BK180.out 1; have hfz44_2 := blk_frozen BK180.out 2; have hfz44_3 := blk_frozen BK180.out 3) | ((with_reducible refine gate_callee (f := 32) rfl ?_); refine goesL_ (some 34) rfl rfl Try.func32 (by kernel_rfl) rfl #[.agg #[.string ((rd_T35 l0 x6_2).f0), .int .u64 ((rd_T35 l0 x6_2).f1), .bool ((rd_T35 l0 x6_2).f2), .string ((rd_T35 l0 x6_2).f3)]] rfl (by (try simp only [List.map_toArray, List.map_cons, List.map_nil]); first | done | rfl | (simp only [List.length_drop, List.length_take]; rfl) | (simp (disch := omega) only [IntWalk.u64_in, IntWalk.i64_in, IntWalk.u8_in]; rfl)) ?_; (with_reducible refine (screeref07_May.calls ((rd_T35 l0 x6_2).f0) ((rd_T35 l0 x6_2).f1) ((rd_T35 l0 x6_2).f2) ((rd_T35 l0 x6_2).f3) false _ A9.out).mono ?_); rintro e w45 ⟨rfl, hb⟩; refine ⟨_, rfl, ?_⟩; have n0_ := Aside0.mk (blk_below (g := gb180) (o := .cells #[.string ((rd_T35 l0 x6_2).f0), .int .u64 ((rd_T35 l0 x6_2).f1), .bool ((rd_T35 l0 x6_2).f2), .string ((rd_T35 l0 x6_2).f3)] 35 (0, 0)) (by (with_reducible repeat (first | refine blk_drewN ?_ _ | refine blk_drew ?_ | refine blk_alloc ?_ _)); refine blk_put (cs := #[.string ((rd_T35 l0 x6_2).f0), .int .u64 ((rd_T35 l0 x6_2).f1), .bool ((rd_T35 l0 x6_2).f2), .string (⟨#[]⟩ : ByteArray)]) ?_ 3 _ rfl; (with_reducible repeat (first | refine blk_drewN ?_ _ | refine blk_drew ?_ | refine blk_alloc ?_ _)); refine blk_put (cs := #[.string ((rd_T35 l0 x6_2).f0), .int .u64 ((rd_T35 l0 x6_2).f1), .bool false, .string (⟨#[]⟩ : ByteArray)]) ?_ 2 _ rfl; (with_reducible repeat (first | refine blk_drewN ?_ _ | refine blk_drew ?_ | refine blk_alloc ?_ _)); refine blk_put (cs := #[.string ((rd_T35 l0 x6_2).f0), .int .u64 0, .bool false, .string (⟨#[]⟩ : ByteArray)]) ?_ 1 _ rfl; (with_reducible repeat (first | refine blk_drewN ?_ _ | refine blk_drew ?_ | refine blk_alloc ?_ _)); refine blk_put (cs := #[.string (⟨#[]⟩ : ByteArray), .int .u64 0, .bool false, .string (⟨#[]⟩ : ByteArray)]) ?_ 0 _ rfl; (with_reducible repeat (first | refine blk_drewN ?_ _ | refine blk_drew ?_ | refine blk_alloc ?_ _)); exact BK180.out) hb); have n1_ := Aside0.mk (below_step (by repeat (first | (with_reducible first | exact HB.out | apply below_alloc | apply pw_below_drewN | apply below_drew1 | refine below_set ?_ GE180.out) | exact HB.out)) hb); clear BK180; clear HB; have BK180 := n0_; have HB := n1_; clear n0_ n1_; (try clear hb); (try clear hb2); (try clear hk); (try clear hi); (try clear A9)))
                  go_ret2
                  exact ⟨by first | rfl | (simp [errW_none, errW_some] <;> rfl) | (simp (disch := omega) only [← i64_w, IntWalk.i64_in]; rfl) | (simp [*, errW_none, errW_some] <;> rfl), by repeat (first | (with_reducible first | exact HB.out | apply below_alloc | apply pw_below_drewN | apply below_drew1 | refine below_set ?_ GE180.out) | exact HB.out)⟩
              · rw [if_neg c8] at H
                exact absurd H (by simp)
            · rw [if_neg c7] at H
              have c7b0 : decide (x6_2 < (l0.length : Int)) = false := decide_eq_false c7
              clear c7
              by_cases c46 : x4_2.size + x5_2.size ≤ 9223372036854775807
              · rw [if_pos c46] at H
                have c46b0 := eq_true c46
                have c46b1 : decide (x4_2.size + x5_2.size ≤ 9223372036854775807) = true := decide_eq_true c46
                try have c46b2 : (9223372036854775807 < x4_2.size + x5_2.size) = False := eq_false (Nat.not_lt.2 c46)
                try (have c46b3 := c46b2; simp only [ByteArray.size_append] at c46b3)
                try (have c46b4 := c46b2; simp only [ByteArray.size_extract, ByteArray.size_append, Nat.sub_zero] at c46b4)
                replace H := Option.bind_eq_some_iff.mp H
                obtain ⟨t178, A470, H⟩ := H
                replace H : (if (x4_2 ++ x5_2).size + t178.size ≤ 9223372036854775807 then (some ((x4_2 ++ x5_2) ++ t178, 0)) else (none)) = some (r1, r2) := H
                have A47 := Aside0.mk A470
                clear A470
                by_cases c48 : (x4_2 ++ x5_2).size + t178.size ≤ 9223372036854775807
                · rw [if_pos c48] at H
                  have c48b0 := eq_true c48
                  have c48b1 : decide ((x4_2 ++ x5_2).size + t178.size ≤ 9223372036854775807) = true := decide_eq_true c48
                  try have c48b2 : (9223372036854775807 < (x4_2 ++ x5_2).size + t178.size) = False := eq_false (Nat.not_lt.2 c48)
                  try (have c48b3 := c48b2; simp only [ByteArray.size_append] at c48b3)
                  try (have c48b4 := c48b2; simp only [ByteArray.size_extract, ByteArray.size_append, Nat.sub_zero] at c48b4)
                  simp only [Option.some.injEq, Prod.mk.injEq] at H
                  obtain ⟨rfl, rfl⟩ := H
                  go_wp2_with (first | ((with_reducible refine gate_callee (f := 33) rfl ?_); refine goesL_ (some 83) rfl rfl Try.func33 (by kernel_rfl) rfl #[.int .u64 (IntKind.u64.wrap ((l0.length : Int)))] rfl (by (try simp only [List.map_toArray, List.map_cons, List.map_nil]); first | done | rfl | (simp only [List.length_drop, List.length_take]; rfl) | (simp (disch := omega) only [IntWalk.u64_in, IntWalk.i64_in, IntWalk.u8_in]; rfl)) ?_; (with_reducible refine (screeref01_Long.calls k2 (IntKind.u64.wrap ((l0.length : Int))) t178 _ A47.out).mono ?_); rintro e w49 ⟨rfl, hb⟩; refine ⟨_, rfl, ?_⟩; have n0_ := Aside0.mk (below_step (by repeat (first | (with_reducible first | exact HB.out | apply below_alloc | apply pw_below_drewN | apply below_drew1) | exact HB.out)) hb); clear HB; have HB := n0_; clear n0_; (try clear hb); (try clear hb2); (try clear hk); (try clear hi); (try clear A47)))
                  go_ret2
                  exact ⟨by first | rfl | (simp [errW_none, errW_some] <;> rfl) | (simp (disch := omega) only [← i64_w, IntWalk.i64_in]; rfl) | (simp [*, errW_none, errW_some] <;> rfl), by repeat (first | (with_reducible first | exact HB.out | apply below_alloc | apply pw_below_drewN | apply below_drew1) | exact HB.out)⟩
                · rw [if_neg c48] at H
                  exact absurd H (by simp)
              · rw [if_neg c46] at H
                exact absurd H (by simp)

end Go.Proofs.Ytcogolbgfkikfaa.P
