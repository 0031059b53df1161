-- Printed by a program of this session's own (wip/tools/pprint.sh, over the kit's print, with given contracts): not typed by hand.
import Derived.Test.YtcdadhgcjkgnoaaPx0
import Derived.Test.YtcdadhgcjkgnoaaPx2
import Derived.Test.YtcdadhgcjkgnoaaPx4
namespace Go.Proofs.Ytcdadhgcjkgnoaa.P
open Go.RowKit Go.Proofs.YtcdadhgcjkgnoaaW.PrintWords Go.Proofs.YtcdadhgcjkgnoaaW.PrintLast Go.Proofs.YtcdadhgcjkgnoaaW.PrintMore
set_option linter.unusedVariables false
set_option linter.unusedSimpArgs false
-- SQUEEZED3

/-! ### col_Lock: function 57 -/
def col_Lock.j0 : Nat → Bool → ByteArray → Int → Int → Int → Option (ByteArray × Int)
 | 0, _, _, _, _, _ => none
 | k + 1, x28, x139000, x139001, x139002, x139003 => if x28 = true then (some ((⟨#[]⟩ : ByteArray), 2)) else ((some (([(x139002) % 256] : List Int) : List Int)).bind fun y141 => ((num_Short.f k x139001).bind fun t144 => (if (strOfNums y141).size + t144.size ≤ 9223372036854775807 then ((num_Short.f k x139003).bind fun t145 => (if ((strOfNums y141) ++ t144).size + t145.size ≤ 9223372036854775807 then (if (((strOfNums y141) ++ t144) ++ t145).size + x139000.size ≤ 9223372036854775807 then (some ((((strOfNums y141) ++ t144) ++ t145) ++ x139000, 0)) else (none)) else (none))) else (none))))
def col_Lock.f (k : Nat) (a0_0 : ByteArray) (a0_1 : Int) (a0_2 : Int) (a0_3 : Int) : Option (ByteArray × Int) := (key_May.f a0_0).bind fun t139 => (if t139 = true then ((col_time.f a0_1).bind fun t140 => (if t140 = true then (if a0_2 = 1 then (col_Lock.j0 k (decide (a0_3 > 1099511627776)) a0_0 a0_1 a0_2 a0_3) else (if a0_2 = 2 then (col_Lock.j0 k (decide (a0_3 > 1099511627776)) a0_0 a0_1 a0_2 a0_3) else (col_Lock.j0 k true a0_0 a0_1 a0_2 a0_3))) else (col_Lock.j0 k true a0_0 a0_1 a0_2 a0_3))) else (col_Lock.j0 k true a0_0 a0_1 a0_2 a0_3))
theorem col_Lock.mono_l : ∀ k, (∀ y0 y1 y2 y3 y4, LeO (col_Lock.j0 k y0 y1 y2 y3 y4) (col_Lock.j0 (k + 1) y0 y1 y2 y3 y4))
 | 0 => fun _ _ _ _ _ r h => by simp [col_Lock.j0] at h
 | k + 1 => by
  have ih0 := col_Lock.mono_l k
  ·intro y0 y1 y2 y3 y4
   unfold col_Lock.j0
   repeat' first
   | (with_reducible exact ih0 _ _ _ _ _)
   | (with_reducible exact LeO.refl _)
   | (with_reducible exact LeO.none _)
   | (with_reducible refine LeO.ite ?_ ?_)
   | (with_reducible refine LeO.bind ?_ (fun _ => ?_))
   | exact ih0 _ _ _ _ _
   | exact num_Short.mono _ _
   | exact LeO.none _
   | refine LeO.ite ?_ ?_
   | refine LeO.bind ?_ (fun _ => ?_)
theorem col_Lock.mono : ∀ a0 a1 a2 a3 k, LeO (col_Lock.f k a0 a1 a2 a3) (col_Lock.f (k + 1) a0 a1 a2 a3) := by
 intro a0 a1 a2 a3 k
 have ih0 := col_Lock.mono_l k
 unfold col_Lock.f
 repeat' first
   | (with_reducible exact ih0 _ _ _ _ _)
   | (with_reducible exact LeO.refl _)
   | (with_reducible exact LeO.none _)
   | (with_reducible refine LeO.ite ?_ ?_)
   | (with_reducible refine LeO.bind ?_ (fun _ => ?_))
   | exact ih0 _ _ _ _ _
   | exact num_Short.mono _ _
   | exact LeO.none _
   | refine LeO.ite ?_ ?_
   | refine LeO.bind ?_ (fun _ => ?_)
def col_Lock.T3 : Bool × List (List Nat × List Nat) := (true, [([], []), ([0], [0]), ([1], [1]), ([2], [2]), ([3], [3]), ([], []), ([5], [5]), ([6], [6]), ([4, 7], [4, 7]), ([], []), ([9], [9]), ([10, 7], [10]), ([8, 11], [8, 11]), ([], []), ([13], [13]), ([12, 14], [12, 14]), ([15, 11, 0, 1, 2, 3, 4, 5, 6, 7, 8, 9, 10, 11, 12, 13, 14, 15], [15]), ([16, 0, 1, 2, 3, 4, 5, 6, 7, 8, 9, 10, 11, 12, 13, 14, 15, 16], [])])
def col_Lock.B3 : List Nat := [0, 1, 3, 7, 15, 0, 32, 96, 255, 0, 512, 1760, 4095, 0, 8192, 32767, 65535, 131071]
theorem col_Lock.tab3 : rtab .any (opsOf Try.f57 3) = col_Lock.T3 := by kernel_rfl
theorem col_Lock.bits3 : waitsOk col_Lock.T3.2 col_Lock.B3 = true := by kernel_rfl
set_option maxHeartbeats 8000000 in
set_option maxRecDepth 100000 in
theorem col_Lock.calls (k : Nat) (a0_0 : ByteArray) (a0_1 : Int) (a0_2 : Int) (a0_3 : Int) (r1 : ByteArray) (r2 : Int) (w : World) (h : col_Lock.f k a0_0 a0_1 a0_2 a0_3 = some (r1, r2)) :
  Calls Try.prog 57 #[.agg #[.string a0_0, .int .u64 a0_1, .int .i64 a0_2, .int .u64 a0_3]] w fun e w' => e = .returned (.tuple #[.string r1, .int .i64 r2]) ∧ Below w.heap.size w w' := by
 have hu40 := Try.underlying40
 have HB := Aside0.mk (Below.refl w.heap.size w)
 have H : ((key_May.f a0_0).bind fun t139 => (if t139 = true then ((col_time.f a0_1).bind fun t140 => (if t140 = true then (if a0_2 = 1 then (col_Lock.j0 k (decide (a0_3 > 1099511627776)) a0_0 a0_1 a0_2 a0_3) else (if a0_2 = 2 then (col_Lock.j0 k (decide (a0_3 > 1099511627776)) a0_0 a0_1 a0_2 a0_3) else (col_Lock.j0 k true a0_0 a0_1 a0_2 a0_3))) else (col_Lock.j0 k true a0_0 a0_1 a0_2 a0_3))) else (col_Lock.j0 k true a0_0 a0_1 a0_2 a0_3))) = some (r1, r2) := h
 clear h
 have HC2 := Aside0.mk H
 clear H
 go_enter Try.func57, Try.ntmps57
 go_upto_region 1 with (first | ((with_reducible refine gate_dst (N := 1) rfl ?_); refine box_event ?hg (N := 1) ?hd (cs := #[.string a0_0, .int .u64 a0_1, .int .i64 a0_2, .int .u64 a0_3]) (t := 40) ?hr ?_; (case hd => rfl); (case hg => rfl); (case hr => first | (go_simp; done) | (go_simp; rfl)); intro gb138 hg w3 hbox hb; have BK138 := Aside0.mk (hbox); have GW138 := Aside0.mk ((by rw [hg]; exact (below_size hB_) : w.heap.size ≤ gb138)); have GE138 := Aside0.mk ((by rw [hg]; exact (below_size hB_) : w.heap.size ≤ gb138)); replace HB := Aside0.mk (below_step hB_ hb); clear hb hbox hg))
 (try simp only [Act.put, sp_])
 go_cut [28] (fun v28 wc => ∃ (kq : Nat) (x28_1 : Bool), v28 = .bool x28_1 ∧ Aside0 (col_Lock.j0 kq x28_1 a0_0 a0_1 a0_2 a0_3 = some (r1, r2)) ∧ Aside0 (kq ≤ k) ∧ Aside0 (wc.heap[gb138]? = some (.cells #[.string a0_0, .int .u64 a0_1, .int .i64 a0_2, .int .u64 a0_3] 40 (0, 0))) ∧ Aside0 (Below w.heap.size w wc))
 case first =>
  have H := HC2.out
  clear HC2
  replace H := Option.bind_eq_some_iff.mp H
  obtain ⟨t139, A40, H⟩ := H
  try dsimp only at H
  have A4 := Aside0.mk A40
  clear A40
  by_cases c5 : t139 = true
  rotate_left
  ·replace c5 := Bool.eq_false_iff.mpr c5
   subst c5
   rw [if_neg ff_] at H
   have H' := Aside0.mk H
   clear H
   have hcz14_0 : w3.cell? ⟨gb138, 0, none⟩ = some (.string a0_0) := (blk_cell BK138.out 0).trans rfl
   have hcz14_1 : w3.cell? ⟨gb138, 1, none⟩ = some (.int .u64 a0_1) := (blk_cell BK138.out 1).trans rfl
   have hcz14_2 : w3.cell? ⟨gb138, 2, none⟩ = some (.int .i64 a0_2) := (blk_cell BK138.out 2).trans rfl
   have hcz14_3 : w3.cell? ⟨gb138, 3, none⟩ = some (.int .u64 a0_3) := (blk_cell BK138.out 3).trans rfl
   have hfz14_0 := blk_frozen BK138.out 0
   have hfz14_1 := blk_frozen BK138.out 1
   have hfz14_2 := blk_frozen BK138.out 2
   have hfz14_3 := blk_frozen BK138.out 3
   go_wp2_with (first | ((with_reducible refine gate_callee (f := 64) rfl ?_); refine goesL_ (some 6) rfl rfl Try.func64 r6_ rfl #[.string a0_0] rfl hA_ ?_; (with_reducible refine (key_May.calls a0_0 false _ A4.out).mono ?_); rintro e w' ⟨rfl, ⟨nd, rfl⟩⟩; refine ⟨_, rfl, ?_⟩))
   go_meet
   case rel => exact ⟨_, (true), rs_, hH_, ⟨by first | omega | exact Nat.le_refl _⟩, ⟨r11_⟩, ⟨r4_⟩⟩
  subst c5
  rw [if_pos rfl] at H
  replace H := Option.bind_eq_some_iff.mp H
  obtain ⟨t140, A60, H⟩ := H
  try dsimp only at H
  have A6 := Aside0.mk A60
  clear A60
  by_cases c7 : t140 = true
  rotate_left
  ·replace c7 := Bool.eq_false_iff.mpr c7
   subst c7
   rw [if_neg ff_] at H
   have H' := Aside0.mk H
   clear H
   have hcz13_0 : w3.cell? ⟨gb138, 0, none⟩ = some (.string a0_0) := (blk_cell BK138.out 0).trans rfl
   have hcz13_1 : w3.cell? ⟨gb138, 1, none⟩ = some (.int .u64 a0_1) := (blk_cell BK138.out 1).trans rfl
   have hcz13_2 : w3.cell? ⟨gb138, 2, none⟩ = some (.int .i64 a0_2) := (blk_cell BK138.out 2).trans rfl
   have hcz13_3 : w3.cell? ⟨gb138, 3, none⟩ = some (.int .u64 a0_3) := (blk_cell BK138.out 3).trans rfl
   have hfz13_0 := blk_frozen BK138.out 0
   have hfz13_1 := blk_frozen BK138.out 1
   have hfz13_2 := blk_frozen BK138.out 2
   have hfz13_3 := blk_frozen BK138.out 3
   go_wp2_with (first | ((with_reducible refine gate_callee (f := 64) rfl ?_); refine goesL_ (some 6) rfl rfl Try.func64 r6_ rfl #[.string a0_0] rfl hA_ ?_; (with_reducible refine (key_May.calls a0_0 true _ A4.out).mono ?_); rintro e w' ⟨rfl, ⟨nd, rfl⟩⟩; refine ⟨_, rfl, ?_⟩) | (go_at_call 70; (with_reducible refine (col_time.calls a0_1 false _ A6.out).mono ?_); rintro e w' ⟨rfl, ⟨nd, rfl⟩⟩))
   go_meet
   case rel => exact ⟨_, (true), rs_, hH_, ⟨by first | omega | exact Nat.le_refl _⟩, ⟨r11_⟩, ⟨r4_⟩⟩
  subst c7
  rw [if_pos rfl] at H
  by_cases c8 : a0_2 = 1
  ·rw [if_pos c8] at H
   have c8b0 := beq_iff_eq.mpr c8
   have c8b1 := bne_eq_false_iff_eq.mpr c8
   clear c8
   (first | rw [c8b0] | (simp only [i64_w, i32_w]; rw [c8b0]) | skip)
   have H' := Aside0.mk H
   clear H
   have hcz9_0 : w3.cell? ⟨gb138, 0, none⟩ = some (.string a0_0) := (blk_cell BK138.out 0).trans rfl
   have hcz9_1 : w3.cell? ⟨gb138, 1, none⟩ = some (.int .u64 a0_1) := (blk_cell BK138.out 1).trans rfl
   have hcz9_2 : w3.cell? ⟨gb138, 2, none⟩ = some (.int .i64 a0_2) := (blk_cell BK138.out 2).trans rfl
   have hcz9_3 : w3.cell? ⟨gb138, 3, none⟩ = some (.int .u64 a0_3) := (blk_cell BK138.out 3).trans rfl
   have hfz9_0 := blk_frozen BK138.out 0
   have hfz9_1 := blk_frozen BK138.out 1
   have hfz9_2 := blk_frozen BK138.out 2
   have hfz9_3 := blk_frozen BK138.out 3
   go_wp2_with (first | ((with_reducible refine gate_callee (f := 64) rfl ?_); refine goesL_ (some 6) rfl rfl Try.func64 r6_ rfl #[.string a0_0] rfl hA_ ?_; (with_reducible refine (key_May.calls a0_0 true _ A4.out).mono ?_); rintro e w' ⟨rfl, ⟨nd, rfl⟩⟩; refine ⟨_, rfl, ?_⟩) | (go_at_call 70; (with_reducible refine (col_time.calls a0_1 true _ A6.out).mono ?_); rintro e w' ⟨rfl, ⟨nd, rfl⟩⟩))
   go_meet
   case rel => exact ⟨_, (decide (a0_3 > 1099511627776)), rs_, hH_, ⟨by first | omega | exact Nat.le_refl _⟩, ⟨r11_⟩, ⟨r4_⟩⟩
  rw [if_neg c8] at H
  have c8b0 := beq_eq_false_iff_ne.mpr c8
  have c8b1 := bne_iff_ne.mpr c8
  (first | rw [c8b0] | (simp only [i64_w, i32_w]; rw [c8b0]) | skip)
  by_cases c10 : a0_2 = 2
  rotate_left
  ·rw [if_neg c10] at H
   have c10b0 := beq_eq_false_iff_ne.mpr c10
   have c10b1 := bne_iff_ne.mpr c10
   have H' := Aside0.mk H
   clear H
   have hcz12_0 : w3.cell? ⟨gb138, 0, none⟩ = some (.string a0_0) := (blk_cell BK138.out 0).trans rfl
   have hcz12_1 : w3.cell? ⟨gb138, 1, none⟩ = some (.int .u64 a0_1) := (blk_cell BK138.out 1).trans rfl
   have hcz12_2 : w3.cell? ⟨gb138, 2, none⟩ = some (.int .i64 a0_2) := (blk_cell BK138.out 2).trans rfl
   have hcz12_3 : w3.cell? ⟨gb138, 3, none⟩ = some (.int .u64 a0_3) := (blk_cell BK138.out 3).trans rfl
   have hfz12_0 := blk_frozen BK138.out 0
   have hfz12_1 := blk_frozen BK138.out 1
   have hfz12_2 := blk_frozen BK138.out 2
   have hfz12_3 := blk_frozen BK138.out 3
   go_wp2_with (first | ((with_reducible refine gate_callee (f := 64) rfl ?_); refine goesL_ (some 6) rfl rfl Try.func64 r6_ rfl #[.string a0_0] rfl hA_ ?_; (with_reducible refine (key_May.calls a0_0 true _ A4.out).mono ?_); rintro e w' ⟨rfl, ⟨nd, rfl⟩⟩; refine ⟨_, rfl, ?_⟩) | (go_at_call 70; (with_reducible refine (col_time.calls a0_1 true _ A6.out).mono ?_); rintro e w' ⟨rfl, ⟨nd, rfl⟩⟩))
   go_meet
   case rel => exact ⟨_, (true), rs_, hH_, ⟨by first | omega | exact Nat.le_refl _⟩, ⟨r11_⟩, ⟨r4_⟩⟩
  rw [if_pos c10] at H
  have c10b0 := beq_iff_eq.mpr c10
  have c10b1 := bne_eq_false_iff_eq.mpr c10
  clear c10
  have H' := Aside0.mk H
  clear H
  have hcz11_0 : w3.cell? ⟨gb138, 0, none⟩ = some (.string a0_0) := (blk_cell BK138.out 0).trans rfl
  have hcz11_1 : w3.cell? ⟨gb138, 1, none⟩ = some (.int .u64 a0_1) := (blk_cell BK138.out 1).trans rfl
  have hcz11_2 : w3.cell? ⟨gb138, 2, none⟩ = some (.int .i64 a0_2) := (blk_cell BK138.out 2).trans rfl
  have hcz11_3 : w3.cell? ⟨gb138, 3, none⟩ = some (.int .u64 a0_3) := (blk_cell BK138.out 3).trans rfl
  have hfz11_0 := blk_frozen BK138.out 0
  have hfz11_1 := blk_frozen BK138.out 1
  have hfz11_2 := blk_frozen BK138.out 2
  have hfz11_3 := blk_frozen BK138.out 3
  go_wp2_with (first | ((with_reducible refine gate_callee (f := 64) rfl ?_); refine goesL_ (some 6) rfl rfl Try.func64 r6_ rfl #[.string a0_0] rfl hA_ ?_; (with_reducible refine (key_May.calls a0_0 true _ A4.out).mono ?_); rintro e w' ⟨rfl, ⟨nd, rfl⟩⟩; refine ⟨_, rfl, ?_⟩) | (go_at_call 70; (with_reducible refine (col_time.calls a0_1 true _ A6.out).mono ?_); rintro e w' ⟨rfl, ⟨nd, rfl⟩⟩))
  go_meet
  case rel => exact ⟨_, (decide (a0_3 > 1099511627776)), rs_, hH_, ⟨by first | omega | exact Nat.le_refl _⟩, ⟨r11_⟩, ⟨r4_⟩⟩
 case rest =>
  clear HC2
  obtain ⟨kq, x28_1, rfl, HA, HJ1, BK138, HB⟩ := hcut
  cases kq with
  | zero => exact absurd HA.out (by simp [col_Lock.j0])
  | succ kj1 =>
   have H := HA.out
   clear HA
   simp only [col_Lock.j0] at H
   by_cases c15 : x28_1 = true
   ·subst c15
    rw [if_pos rfl] at H
    simp only [Option.some.injEq, Prod.mk.injEq] at H
    obtain ⟨rfl, rfl⟩ := H
    go_wp2
    go_ret2
    exact ⟨rf_, r4_⟩
   replace c15 := Bool.eq_false_iff.mpr c15
   subst c15
   rw [if_neg ff_] at H
   obtain ⟨y141, hy141⟩ : ∃ y_ : List Int, y_ = (([(a0_2) % 256] : List Int)) := ⟨_, rfl⟩
   replace H : ((num_Short.f kj1 a0_1).bind fun t144 => (if (strOfNums y141).size + t144.size ≤ 9223372036854775807 then ((num_Short.f kj1 a0_3).bind fun t145 => (if ((strOfNums y141) ++ t144).size + t145.size ≤ 9223372036854775807 then (if (((strOfNums y141) ++ t144) ++ t145).size + a0_0.size ≤ 9223372036854775807 then (some ((((strOfNums y141) ++ t144) ++ t145) ++ a0_0, 0)) else (none)) else (none))) else (none))) = some (r1, r2) := by first | (rw [hy141]; with_reducible exact H) | (have H2_ := (Option.bind_some _ _).symm.trans H; rw [hy141]; with_reducible exact H2_) | (have H2_ := (Option.bind_some _ _).symm.trans H; with_reducible exact H2_) | with_reducible exact H | (rw [hy141]; exact H) | exact H
   have Ny141 := Aside0.mk hy141
   clear hy141
   replace H := Option.bind_eq_some_iff.mp H
   obtain ⟨t144, A160, H⟩ := H
   try dsimp only at H
   have A16 := Aside0.mk A160
   clear A160
   by_cases c17 : (strOfNums y141).size + t144.size ≤ 9223372036854775807
   rotate_left
   ·rw [if_neg c17] at H
    exact absurd H r34_
   rw [if_pos c17] at H
   have c17b0 := eq_true c17
   have c17b1 : decide ((strOfNums y141).size + t144.size ≤ 9223372036854775807) = true := decide_eq_true c17
   try have c17b2 : (9223372036854775807 < (strOfNums y141).size + t144.size) = False := eq_false (Nat.not_lt.2 c17)
   try (have c17b3 := c17b2; simp only [ByteArray.size_append] at c17b3)
   try (have c17b4 := c17b2; simp only [ByteArray.size_extract, ByteArray.size_append, Nat.sub_zero] at c17b4)
   replace H := Option.bind_eq_some_iff.mp H
   obtain ⟨t145, A180, H⟩ := H
   try dsimp only at H
   have A18 := Aside0.mk A180
   clear A180
   by_cases c19 : ((strOfNums y141) ++ t144).size + t145.size ≤ 9223372036854775807
   rotate_left
   ·rw [if_neg c19] at H
    exact absurd H r34_
   rw [if_pos c19] at H
   have c19b0 := eq_true c19
   have c19b1 : decide (((strOfNums y141) ++ t144).size + t145.size ≤ 9223372036854775807) = true := decide_eq_true c19
   try have c19b2 : (9223372036854775807 < ((strOfNums y141) ++ t144).size + t145.size) = False := eq_false (Nat.not_lt.2 c19)
   try (have c19b3 := c19b2; simp only [ByteArray.size_append] at c19b3)
   try (have c19b4 := c19b2; simp only [ByteArray.size_extract, ByteArray.size_append, Nat.sub_zero] at c19b4)
   by_cases c20 : (((strOfNums y141) ++ t144) ++ t145).size + a0_0.size ≤ 9223372036854775807
   rotate_left
   ·rw [if_neg c20] at H
    exact absurd H r34_
   rw [if_pos c20] at H
   have c20b0 := eq_true c20
   have c20b1 : decide ((((strOfNums y141) ++ t144) ++ t145).size + a0_0.size ≤ 9223372036854775807) = true := decide_eq_true c20
   try have c20b2 : (9223372036854775807 < (((strOfNums y141) ++ t144) ++ t145).size + a0_0.size) = False := eq_false (Nat.not_lt.2 c20)
   try (have c20b3 := c20b2; simp only [ByteArray.size_append] at c20b3)
   try (have c20b4 := c20b2; simp only [ByteArray.size_extract, ByteArray.size_append, Nat.sub_zero] at c20b4)
   simp only [Option.some.injEq, Prod.mk.injEq] at H
   obtain ⟨rfl, rfl⟩ := H
   try go_wp2
   replace BK138 := Aside0.mk (blk_drew BK138.out)
   replace HB := Aside0.mk (below_drew1 HB.out)
   refine start_ (n := 18) (S := fun w' => w'.cell? ⟨gb138, 0, none⟩ = some (.string a0_0) ∧ w'.cell? ⟨gb138, 1, none⟩ = some (.int .u64 a0_1) ∧ w'.cell? ⟨gb138, 2, none⟩ = some (.int .i64 a0_2) ∧ w'.cell? ⟨gb138, 3, none⟩ = some (.int .u64 a0_3)) (ds := []) #[N,N,N,N,N,N,N,N,N,N,N,N,N,N,N,N,N,N] r6_ rfl rfl ⟨(blk_cell BK138.out 0).trans rfl, (blk_cell BK138.out 1).trans rfl, (blk_cell BK138.out 2).trans rfl, (blk_cell BK138.out 3).trans rfl⟩ (fun hHeld => ?_); refine with_tabW col_Lock.tab3 col_Lock.bits3 (fun HT_ HW_ => ?_)
   generalize wc.drew = w21 at BK138 HB hHeld ⊢
   refine pure_ (i := 0) (N := some 29) (v := ?_) (a' := ?_) #[Y,N,N,N,N,N,N,N,N,N,N,N,N,N,N,N,N,N] rfl rfl (any_of HT_.out r6_) (fun _ _ _ h => h) (Or.inl ⟨by rfl, ?_⟩) ?_ ?_
   rotate_left
   ·intro w'
    go_simp
    with_reducible rfl
   rotate_left
   ·simp only [Act.put, sp_, i64_w, i32_w]
    rfl
   refine pure_ (i := 5) (N := some 34) (v := ?_) (a' := ?_) #[Y,N,N,N,N,Y,N,N,N,N,N,N,N,N,N,N,N,N] rfl rfl (any_of HT_.out r6_) (fun _ _ _ h => h) (Or.inl ⟨by rfl, ?_⟩) ?_ ?_
   rotate_left
   ·intro w'
    go_simp
    with_reducible rfl
   rotate_left
   ·simp only [Act.put, sp_, i64_w, i32_w]
    rfl
   refine pure_ (i := 9) (N := some 38) (v := ?_) (a' := ?_) #[Y,N,N,N,N,Y,N,N,N,Y,N,N,N,N,N,N,N,N] rfl rfl (any_of HT_.out r6_) (fun _ _ _ h => h) (Or.inl ⟨by rfl, ?_⟩) ?_ ?_
   rotate_left
   ·intro w'
    go_simp
    with_reducible rfl
   rotate_left
   ·simp only [Act.put, sp_, i64_w, i32_w]
    rfl
   refine pure_ (i := 13) (N := some 42) (v := ?_) (a' := ?_) #[Y,N,N,N,N,Y,N,N,N,Y,N,N,N,Y,N,N,N,N] rfl rfl (any_of HT_.out r6_) (fun _ _ _ h => h) (Or.inl ⟨by rfl, ?_⟩) ?_ ?_
   rotate_left
   ·intro w'
    go_simp
    with_reducible rfl
   rotate_left
   ·simp only [Act.put, sp_, i64_w, i32_w]
    rfl
   refine take_ (i := 1) (N := some 30) (v := ?_) (a' := ?_) #[Y,Y,N,N,N,Y,N,N,N,Y,N,N,N,Y,N,N,N,N] rfl rfl (take_ofW HT_.out HW_.out r6_) (fun _ _ _ h => h) (Or.inl ⟨by rfl, ?_⟩) hHeld ?_ ?_
   rotate_left
   ·rintro w' ⟨s0, s1, s2, s3⟩
    go_simp
    with_reducible rfl
   rotate_left
   ·simp only [Act.put, sp_, i64_w, i32_w]
    rfl
   refine pure_ (i := 2) (N := some 31) (v := ?_) (a' := ?_) #[Y,Y,Y,N,N,Y,N,N,N,Y,N,N,N,Y,N,N,N,N] rfl rfl (any_of HT_.out r6_) (fun _ _ _ h => h) (Or.inl ⟨by rfl, ?_⟩) ?_ ?_
   rotate_left
   ·intro w'
    go_simp
    with_reducible rfl
   rotate_left
   ·simp only [Act.put, sp_, i64_w, i32_w]
    rfl
   refine take_ (i := 6) (N := some 35) (v := ?_) (a' := ?_) #[Y,Y,Y,N,N,Y,Y,N,N,Y,N,N,N,Y,N,N,N,N] rfl rfl (take_ofW HT_.out HW_.out r6_) (fun _ _ _ h => h) (Or.inl ⟨by rfl, ?_⟩) hHeld ?_ ?_
   rotate_left
   ·rintro w' ⟨s0, s1, s2, s3⟩
    go_simp
    with_reducible rfl
   rotate_left
   ·simp only [Act.put, sp_, i64_w, i32_w]
    rfl
   refine take_ (i := 10) (N := some 39) (v := ?_) (a' := ?_) #[Y,Y,Y,N,N,Y,Y,N,N,Y,Y,N,N,Y,N,N,N,N] rfl rfl (take_ofW HT_.out HW_.out r6_) (fun _ _ _ h => h) (Or.inl ⟨by rfl, ?_⟩) hHeld ?_ ?_
   rotate_left
   ·rintro w' ⟨s0, s1, s2, s3⟩
    go_simp
    with_reducible rfl
   rotate_left
   ·simp only [Act.put, sp_, i64_w, i32_w]
    rfl
   refine take_ (i := 14) (N := some 43) (v := ?_) (a' := ?_) #[Y,Y,Y,N,N,Y,Y,N,N,Y,Y,N,N,Y,Y,N,N,N] rfl rfl (take_ofW HT_.out HW_.out r6_) (fun _ _ _ h => h) (Or.inl ⟨by rfl, ?_⟩) hHeld ?_ ?_
   rotate_left
   ·rintro w' ⟨s0, s1, s2, s3⟩
    go_simp
    with_reducible rfl
   rotate_left
   ·simp only [Act.put, sp_, i64_w, i32_w]
    rfl
   refine join_ (σ := Value) 4 #[Y,Y,Y,Y,Y,Y,Y,Y,Y,Y,Y,Y,N,Y,Y,N,N,N] (fun s_ => [(32, s_), (33, .string (strOfNums y141)), (36, .string t144), (40, .string t145), (37, .string ((strOfNums y141) ++ t144))]) (fun s_ w' => (w'.cell? ⟨gb138, 0, none⟩ = some (.string a0_0) ∧ w'.cell? ⟨gb138, 1, none⟩ = some (.int .u64 a0_1) ∧ w'.cell? ⟨gb138, 2, none⟩ = some (.int .i64 a0_2) ∧ w'.cell? ⟨gb138, 3, none⟩ = some (.int .u64 a0_3)) ∧ (Kd.R (Kd.int .u8) 5 w' w.heap.size (fun _ => True) s_ y141) ∧ (w'.heap[gb138]? = some (.cells #[.string a0_0, .int .u64 a0_1, .int .i64 a0_2, .int .u64 a0_3] 40 (0, 0))) ∧ (Below w.heap.size w w')) ?_ ?_
   rotate_left
   ·intro hJ3_4_7_11
    refine join_ (σ := Value) 5 #[Y,Y,Y,Y,Y,Y,Y,Y,Y,Y,Y,N,N,Y,Y,N,N,N] (fun s_ => [(32, s_), (33, .string (strOfNums y141)), (36, .string t144), (37, .string ((strOfNums y141) ++ t144))]) (fun s_ w' => (w'.cell? ⟨gb138, 0, none⟩ = some (.string a0_0) ∧ w'.cell? ⟨gb138, 1, none⟩ = some (.int .u64 a0_1) ∧ w'.cell? ⟨gb138, 2, none⟩ = some (.int .i64 a0_2) ∧ w'.cell? ⟨gb138, 3, none⟩ = some (.int .u64 a0_3)) ∧ (Kd.R (Kd.int .u8) 5 w' w.heap.size (fun _ => True) s_ y141) ∧ (w'.heap[gb138]? = some (.cells #[.string a0_0, .int .u64 a0_1, .int .i64 a0_2, .int .u64 a0_3] 40 (0, 0))) ∧ (Below w.heap.size w w')) ?_ ?_
    rotate_left
    ·intro hJ3_4_7
     refine join_ (σ := Value) 6 #[Y,Y,Y,Y,N,Y,Y,Y,N,Y,Y,Y,N,Y,Y,N,N,N] (fun s_ => [(32, s_), (36, .string t144), (40, .string t145)]) (fun s_ w' => (w'.cell? ⟨gb138, 0, none⟩ = some (.string a0_0) ∧ w'.cell? ⟨gb138, 1, none⟩ = some (.int .u64 a0_1) ∧ w'.cell? ⟨gb138, 2, none⟩ = some (.int .i64 a0_2) ∧ w'.cell? ⟨gb138, 3, none⟩ = some (.int .u64 a0_3)) ∧ (Kd.R (Kd.int .u8) 5 w' w.heap.size (fun _ => True) s_ y141) ∧ (w'.heap[gb138]? = some (.cells #[.string a0_0, .int .u64 a0_1, .int .i64 a0_2, .int .u64 a0_3] 40 (0, 0))) ∧ (Below w.heap.size w w')) ?_ ?_
     rotate_left
     ·intro hJ3_7_11
      refine join_ (σ := Value) 7 #[Y,Y,Y,Y,Y,Y,Y,N,N,Y,Y,N,N,Y,Y,N,N,N] (fun s_ => [(32, s_), (33, .string (strOfNums y141))]) (fun s_ w' => (w'.cell? ⟨gb138, 0, none⟩ = some (.string a0_0) ∧ w'.cell? ⟨gb138, 1, none⟩ = some (.int .u64 a0_1) ∧ w'.cell? ⟨gb138, 2, none⟩ = some (.int .i64 a0_2) ∧ w'.cell? ⟨gb138, 3, none⟩ = some (.int .u64 a0_3)) ∧ (Kd.R (Kd.int .u8) 5 w' w.heap.size (fun _ => True) s_ y141) ∧ (w'.heap[gb138]? = some (.cells #[.string a0_0, .int .u64 a0_1, .int .i64 a0_2, .int .u64 a0_3] 40 (0, 0))) ∧ (Below w.heap.size w w')) ?_ ?_
      rotate_left
      ·intro hJ3_4
       refine join_ (σ := Value) 7 #[Y,Y,Y,Y,N,Y,Y,Y,N,Y,Y,N,N,Y,Y,N,N,N] (fun s_ => [(32, s_), (36, .string t144)]) (fun s_ w' => (w'.cell? ⟨gb138, 0, none⟩ = some (.string a0_0) ∧ w'.cell? ⟨gb138, 1, none⟩ = some (.int .u64 a0_1) ∧ w'.cell? ⟨gb138, 2, none⟩ = some (.int .i64 a0_2) ∧ w'.cell? ⟨gb138, 3, none⟩ = some (.int .u64 a0_3)) ∧ (Kd.R (Kd.int .u8) 5 w' w.heap.size (fun _ => True) s_ y141) ∧ (w'.heap[gb138]? = some (.cells #[.string a0_0, .int .u64 a0_1, .int .i64 a0_2, .int .u64 a0_3] 40 (0, 0))) ∧ (Below w.heap.size w w')) ?_ ?_
       rotate_left
       ·intro hJ3_7
        refine join_ (σ := Unit) 7 #[Y,Y,Y,N,N,Y,Y,Y,N,Y,Y,Y,N,Y,Y,N,N,N] (fun s_ => [(36, .string t144), (40, .string t145)]) (fun s_ w' => (w'.cell? ⟨gb138, 0, none⟩ = some (.string a0_0) ∧ w'.cell? ⟨gb138, 1, none⟩ = some (.int .u64 a0_1) ∧ w'.cell? ⟨gb138, 2, none⟩ = some (.int .i64 a0_2) ∧ w'.cell? ⟨gb138, 3, none⟩ = some (.int .u64 a0_3)) ∧ (w'.heap[gb138]? = some (.cells #[.string a0_0, .int .u64 a0_1, .int .i64 a0_2, .int .u64 a0_3] 40 (0, 0))) ∧ (Below w.heap.size w w')) ?_ ?_
        rotate_left
        ·intro hJ7_11
         refine join_ (σ := Value) 8 #[Y,Y,Y,Y,N,Y,Y,N,N,Y,Y,N,N,Y,Y,N,N,N] (fun s_ => [(32, s_)]) (fun s_ w' => (w'.cell? ⟨gb138, 0, none⟩ = some (.string a0_0) ∧ w'.cell? ⟨gb138, 1, none⟩ = some (.int .u64 a0_1) ∧ w'.cell? ⟨gb138, 2, none⟩ = some (.int .i64 a0_2) ∧ w'.cell? ⟨gb138, 3, none⟩ = some (.int .u64 a0_3)) ∧ (Kd.R (Kd.int .u8) 5 w' w.heap.size (fun _ => True) s_ y141) ∧ (w'.heap[gb138]? = some (.cells #[.string a0_0, .int .u64 a0_1, .int .i64 a0_2, .int .u64 a0_3] 40 (0, 0))) ∧ (Below w.heap.size w w')) ?_ ?_
         rotate_left
         ·intro hJ3
          refine join_ (σ := Unit) 8 #[Y,Y,Y,N,N,Y,Y,Y,N,Y,Y,N,N,Y,Y,N,N,N] (fun s_ => [(36, .string t144)]) (fun s_ w' => (w'.cell? ⟨gb138, 0, none⟩ = some (.string a0_0) ∧ w'.cell? ⟨gb138, 1, none⟩ = some (.int .u64 a0_1) ∧ w'.cell? ⟨gb138, 2, none⟩ = some (.int .i64 a0_2) ∧ w'.cell? ⟨gb138, 3, none⟩ = some (.int .u64 a0_3)) ∧ (w'.heap[gb138]? = some (.cells #[.string a0_0, .int .u64 a0_1, .int .i64 a0_2, .int .u64 a0_3] 40 (0, 0))) ∧ (Below w.heap.size w w')) ?_ ?_
          rotate_left
          ·intro hJ7
           refine two_ (i := 3) (j := 7) (Ni := some 32) (Nj := some 36) #[Y,Y,Y,Y,N,Y,Y,N,N,Y,Y,N,N,Y,Y,N,N,N] #[Y,Y,Y,N,N,Y,Y,Y,N,Y,Y,N,N,Y,Y,N,N,N] rfl rfl rfl rfl (two_of HT_.out r6_) r44_ r44_ (fun K hK => ?_) (fun K hK => ?_)
           ·skip
            refine Kd.R_lit_step (Kd.int .u8) _ 5 ?hg (N := 32) ?hd (xs := ([(a0_2) % 256] : List Int)) (inner := [.int .u8 ((a0_2) % 256)]) (ok := fun _ => True) (okp := fun _ => True) ?hr ?hp (fun _ hk => hk) trivial (Below.refl _ _) (Nat.le_refl _) r34_ ?_; (case hd => rfl); (case hg => rfl); (case hr => first | (go_simp; done) | (go_simp; rfl)); (case hp => exact (Reps.one (show Kd.M (Kd.int .u8) _ _ _ ((a0_2) % 256) [.int .u8 ((a0_2) % 256)] from rfl) (Reps.none _ _)))
            intro v142 w22 ho23 hb hg_ hnew_
            clear hg_ hnew_
            (first | rw [← Ny141.out] at ho23 | (simp only [Int.reduceToNat] at ho23; rw [← Ny141.out] at ho23))
            have HO143 := Aside0.mk (Kd.R_lower ho23 (below_size r4_))
            replace BK138 := Aside0.mk (blk_below (g := gb138) (o := .cells #[.string a0_0, .int .u64 a0_1, .int .i64 a0_2, .int .u64 a0_3] 40 (0, 0)) r11_ hb)
            replace HB := Aside0.mk (below_step r4_ hb)
            clear hb ho23
            refine hK.out _ _ ⟨(blk_cell BK138.out 0).trans rfl, (blk_cell BK138.out 1).trans rfl, (blk_cell BK138.out 2).trans rfl, (blk_cell BK138.out 3).trans rfl⟩ (fun hHeld => ?_)
            clear hK K
            refine norm_ (a' := ?_) ?_ ?_
            rotate_left
            ·show Act.put _ (some 32) _ = _
             simp only [Act.put, sp_, i64_w, i32_w]
             rfl
            exact norm_ pA_ (hJ3 (v142) _ ⟨hHeld, r26_, r11_, r4_⟩)
           ·skip
            refine goes_ Try.func71 r6_ rfl #[.int .u64 a0_1] (by rfl) rfl rfl hA_ ?_
            with_reducible refine (num_Short.calls kj1 a0_1 t144 _ A16.out).mono ?_
            rintro e w22 ⟨rfl, hb⟩
            refine ⟨_, rfl, ?_⟩
            replace BK138 := Aside0.mk (blk_below (g := gb138) (o := .cells #[.string a0_0, .int .u64 a0_1, .int .i64 a0_2, .int .u64 a0_3] 40 (0, 0)) r11_ hb)
            replace HB := Aside0.mk (below_step r4_ hb)
            (try clear hb)
            (try clear hb2)
            (try clear hk)
            (try clear hi)
            (try clear A16)
            refine hK.out _ _ ⟨(blk_cell BK138.out 0).trans rfl, (blk_cell BK138.out 1).trans rfl, (blk_cell BK138.out 2).trans rfl, (blk_cell BK138.out 3).trans rfl⟩ (fun hHeld => ?_)
            clear hK K
            refine norm_ (a' := ?_) ?_ ?_
            rotate_left
            ·show Act.put _ (some 36) _ = _
             simp only [Act.put, sp_, i64_w, i32_w]
             rfl
            exact norm_ pA_ (hJ7 () _ ⟨hHeld, r11_, r4_⟩)
          ·skip
           rintro _ w23 ⟨hS_, h0_, h1_⟩
           have n0_ : Aside0 (w23.heap[gb138]? = some (.cells #[.string a0_0, .int .u64 a0_1, .int .i64 a0_2, .int .u64 a0_3] 40 (0, 0))) := ⟨h0_⟩
           have n1_ : Aside0 (Below w.heap.size w w23) := ⟨h1_⟩
           clear BK138
           clear HB
           clear h0_ h1_
           have BK138 := n0_
           have HB := n1_
           clear n0_ n1_
           have hHeld : w23.cell? ⟨gb138, 0, none⟩ = some (.string a0_0) ∧ w23.cell? ⟨gb138, 1, none⟩ = some (.int .u64 a0_1) ∧ w23.cell? ⟨gb138, 2, none⟩ = some (.int .i64 a0_2) ∧ w23.cell? ⟨gb138, 3, none⟩ = some (.int .u64 a0_3) := hS_
           refine norm_ (a' := ?_) ?_ ?_
           rotate_left
           ·simp only [putAll, Act.put, sp_]
            rfl
           refine two_ (i := 3) (j := 11) (Ni := some 32) (Nj := some 40) #[Y,Y,Y,Y,N,Y,Y,Y,N,Y,Y,N,N,Y,Y,N,N,N] #[Y,Y,Y,N,N,Y,Y,Y,N,Y,Y,Y,N,Y,Y,N,N,N] rfl rfl rfl rfl (two_of HT_.out r6_) r44_ r44_ (fun K hK => ?_) (fun K hK => ?_)
           ·skip
            refine Kd.R_lit_step (Kd.int .u8) _ 5 ?hg (N := 32) ?hd (xs := ([(a0_2) % 256] : List Int)) (inner := [.int .u8 ((a0_2) % 256)]) (ok := fun _ => True) (okp := fun _ => True) ?hr ?hp (fun _ hk => hk) trivial (Below.refl _ _) (Nat.le_refl _) r34_ ?_; (case hd => rfl); (case hg => rfl); (case hr => first | (go_simp; done) | (go_simp; rfl)); (case hp => exact (Reps.one (show Kd.M (Kd.int .u8) _ _ _ ((a0_2) % 256) [.int .u8 ((a0_2) % 256)] from rfl) (Reps.none _ _)))
            intro v142 w24 ho25 hb hg_ hnew_
            clear hg_ hnew_
            (first | rw [← Ny141.out] at ho25 | (simp only [Int.reduceToNat] at ho25; rw [← Ny141.out] at ho25))
            have HO143 := Aside0.mk (Kd.R_lower ho25 (below_size r4_))
            replace BK138 := Aside0.mk (blk_below (g := gb138) (o := .cells #[.string a0_0, .int .u64 a0_1, .int .i64 a0_2, .int .u64 a0_3] 40 (0, 0)) r11_ hb)
            replace HB := Aside0.mk (below_step r4_ hb)
            clear hb ho25
            refine hK.out _ _ ⟨(blk_cell BK138.out 0).trans rfl, (blk_cell BK138.out 1).trans rfl, (blk_cell BK138.out 2).trans rfl, (blk_cell BK138.out 3).trans rfl⟩ (fun hHeld => ?_)
            clear hK K
            refine norm_ (a' := ?_) ?_ ?_
            rotate_left
            ·show Act.put _ (some 32) _ = _
             simp only [Act.put, sp_, i64_w, i32_w]
             rfl
            exact norm_ pA_ (hJ3_7 (v142) _ ⟨hHeld, r26_, r11_, r4_⟩)
           ·skip
            refine goes_ Try.func71 r6_ rfl #[.int .u64 a0_3] (by rfl) rfl rfl hA_ ?_
            with_reducible refine (num_Short.calls kj1 a0_3 t145 _ A18.out).mono ?_
            rintro e w24 ⟨rfl, hb⟩
            refine ⟨_, rfl, ?_⟩
            replace BK138 := Aside0.mk (blk_below (g := gb138) (o := .cells #[.string a0_0, .int .u64 a0_1, .int .i64 a0_2, .int .u64 a0_3] 40 (0, 0)) r11_ hb)
            replace HB := Aside0.mk (below_step r4_ hb)
            (try clear hb)
            (try clear hb2)
            (try clear hk)
            (try clear hi)
            (try clear A18)
            refine hK.out _ _ ⟨(blk_cell BK138.out 0).trans rfl, (blk_cell BK138.out 1).trans rfl, (blk_cell BK138.out 2).trans rfl, (blk_cell BK138.out 3).trans rfl⟩ (fun hHeld => ?_)
            clear hK K
            refine norm_ (a' := ?_) ?_ ?_
            rotate_left
            ·show Act.put _ (some 40) _ = _
             simp only [Act.put, sp_, i64_w, i32_w]
             rfl
            exact norm_ pA_ (hJ7_11 () _ ⟨hHeld, r11_, r4_⟩)
         ·skip
          rintro v142 w24 ⟨hS_, h0_, h1_, h2_⟩
          have n0_ : Aside0 (Kd.R (Kd.int .u8) 5 w24 w.heap.size (fun _ => True) v142 y141) := ⟨h0_⟩
          have n1_ : Aside0 (w24.heap[gb138]? = some (.cells #[.string a0_0, .int .u64 a0_1, .int .i64 a0_2, .int .u64 a0_3] 40 (0, 0))) := ⟨h1_⟩
          have n2_ : Aside0 (Below w.heap.size w w24) := ⟨h2_⟩
          clear BK138
          clear HB
          clear h0_ h1_ h2_
          have HO143 := n0_
          have BK138 := n1_
          have HB := n2_
          clear n0_ n1_ n2_
          have hHeld : w24.cell? ⟨gb138, 0, none⟩ = some (.string a0_0) ∧ w24.cell? ⟨gb138, 1, none⟩ = some (.int .u64 a0_1) ∧ w24.cell? ⟨gb138, 2, none⟩ = some (.int .i64 a0_2) ∧ w24.cell? ⟨gb138, 3, none⟩ = some (.int .u64 a0_3) := hS_
          refine norm_ (a' := ?_) ?_ ?_
          rotate_left
          ·simp only [putAll, Act.put, sp_]
           rfl
          refine two_ (i := 4) (j := 7) (Ni := some 33) (Nj := some 36) #[Y,Y,Y,Y,Y,Y,Y,N,N,Y,Y,N,N,Y,Y,N,N,N] #[Y,Y,Y,Y,N,Y,Y,Y,N,Y,Y,N,N,Y,Y,N,N,N] rfl rfl rfl rfl (two_of HT_.out r6_) r44_ r44_ (fun K hK => ?_) (fun K hK => ?_)
          ·skip
           have hcv25 := own_string (P := Try.prog) Try.underlying96 Try.underlying5 Try.underlying9 (Kd.own_of_R HO143.out)
           refine value_ (w1 := ?_) (v := ?_) (by rfl) rfl ?_ ?_
           rotate_left 2
           ·go_simp
            constructor
            ·rfl
            ·rfl
           clear hcv25
           refine hK.out _ _ ⟨(blk_cell BK138.out 0).trans rfl, (blk_cell BK138.out 1).trans rfl, (blk_cell BK138.out 2).trans rfl, (blk_cell BK138.out 3).trans rfl⟩ (fun hHeld => ?_)
           clear hK K
           refine norm_ (a' := ?_) ?_ ?_
           rotate_left
           ·show Act.put _ (some 33) _ = _
            simp only [Act.put, sp_, i64_w, i32_w]
            rfl
           exact norm_ pA_ (hJ3_4 (v142) _ ⟨hHeld, r26_, r11_, r4_⟩)
          ·skip
           refine goes_ Try.func71 r6_ rfl #[.int .u64 a0_1] (by rfl) rfl rfl hA_ ?_
           with_reducible refine (num_Short.calls kj1 a0_1 t144 _ A16.out).mono ?_
           rintro e w25 ⟨rfl, hb⟩
           refine ⟨_, rfl, ?_⟩
           replace HO143 := Aside0.mk (Kd.R_below r26_ hb)
           replace BK138 := Aside0.mk (blk_below (g := gb138) (o := .cells #[.string a0_0, .int .u64 a0_1, .int .i64 a0_2, .int .u64 a0_3] 40 (0, 0)) r11_ hb)
           replace HB := Aside0.mk (below_step r4_ hb)
           (try clear hb)
           (try clear hb2)
           (try clear hk)
           (try clear hi)
           (try clear A16)
           refine hK.out _ _ ⟨(blk_cell BK138.out 0).trans rfl, (blk_cell BK138.out 1).trans rfl, (blk_cell BK138.out 2).trans rfl, (blk_cell BK138.out 3).trans rfl⟩ (fun hHeld => ?_)
           clear hK K
           refine norm_ (a' := ?_) ?_ ?_
           rotate_left
           ·show Act.put _ (some 36) _ = _
            simp only [Act.put, sp_, i64_w, i32_w]
            rfl
           exact norm_ pA_ (hJ3_7 (v142) _ ⟨hHeld, r26_, r11_, r4_⟩)
        ·skip
         rintro _ w24 ⟨hS_, h0_, h1_⟩
         have n0_ : Aside0 (w24.heap[gb138]? = some (.cells #[.string a0_0, .int .u64 a0_1, .int .i64 a0_2, .int .u64 a0_3] 40 (0, 0))) := ⟨h0_⟩
         have n1_ : Aside0 (Below w.heap.size w w24) := ⟨h1_⟩
         clear BK138
         clear HB
         clear h0_ h1_
         have BK138 := n0_
         have HB := n1_
         clear n0_ n1_
         have hHeld : w24.cell? ⟨gb138, 0, none⟩ = some (.string a0_0) ∧ w24.cell? ⟨gb138, 1, none⟩ = some (.int .u64 a0_1) ∧ w24.cell? ⟨gb138, 2, none⟩ = some (.int .i64 a0_2) ∧ w24.cell? ⟨gb138, 3, none⟩ = some (.int .u64 a0_3) := hS_
         refine norm_ (a' := ?_) ?_ ?_
         rotate_left
         ·simp only [putAll, Act.put, sp_]
          rfl
         refine one_ (i := 3) (N := some 32) #[Y,Y,Y,Y,N,Y,Y,Y,N,Y,Y,Y,N,Y,Y,N,N,N] rfl rfl (one_of HT_.out r6_) r44_ (fun K hK => ?_)
         refine Kd.R_lit_step (Kd.int .u8) _ 5 ?hg (N := 32) ?hd (xs := ([(a0_2) % 256] : List Int)) (inner := [.int .u8 ((a0_2) % 256)]) (ok := fun _ => True) (okp := fun _ => True) ?hr ?hp (fun _ hk => hk) trivial (Below.refl _ _) (Nat.le_refl _) r34_ ?_; (case hd => rfl); (case hg => rfl); (case hr => first | (go_simp; done) | (go_simp; rfl)); (case hp => exact (Reps.one (show Kd.M (Kd.int .u8) _ _ _ ((a0_2) % 256) [.int .u8 ((a0_2) % 256)] from rfl) (Reps.none _ _)))
         intro v142 w25 ho26 hb hg_ hnew_
         clear hg_ hnew_
         (first | rw [← Ny141.out] at ho26 | (simp only [Int.reduceToNat] at ho26; rw [← Ny141.out] at ho26))
         have HO143 := Aside0.mk (Kd.R_lower ho26 (below_size r4_))
         replace BK138 := Aside0.mk (blk_below (g := gb138) (o := .cells #[.string a0_0, .int .u64 a0_1, .int .i64 a0_2, .int .u64 a0_3] 40 (0, 0)) r11_ hb)
         replace HB := Aside0.mk (below_step r4_ hb)
         clear hb ho26
         refine hK.out _ _ ⟨(blk_cell BK138.out 0).trans rfl, (blk_cell BK138.out 1).trans rfl, (blk_cell BK138.out 2).trans rfl, (blk_cell BK138.out 3).trans rfl⟩ (fun hHeld => ?_)
         clear hK K
         refine norm_ (a' := ?_) ?_ ?_
         rotate_left
         ·show Act.put _ (some 32) _ = _
          simp only [Act.put, sp_, i64_w, i32_w]
          rfl
         exact norm_ pA_ (hJ3_7_11 (v142) _ ⟨hHeld, r26_, r11_, r4_⟩)
       ·skip
        rintro v142 w25 ⟨hS_, h0_, h1_, h2_⟩
        have n0_ : Aside0 (Kd.R (Kd.int .u8) 5 w25 w.heap.size (fun _ => True) v142 y141) := ⟨h0_⟩
        have n1_ : Aside0 (w25.heap[gb138]? = some (.cells #[.string a0_0, .int .u64 a0_1, .int .i64 a0_2, .int .u64 a0_3] 40 (0, 0))) := ⟨h1_⟩
        have n2_ : Aside0 (Below w.heap.size w w25) := ⟨h2_⟩
        clear BK138
        clear HB
        clear h0_ h1_ h2_
        have HO143 := n0_
        have BK138 := n1_
        have HB := n2_
        clear n0_ n1_ n2_
        have hHeld : w25.cell? ⟨gb138, 0, none⟩ = some (.string a0_0) ∧ w25.cell? ⟨gb138, 1, none⟩ = some (.int .u64 a0_1) ∧ w25.cell? ⟨gb138, 2, none⟩ = some (.int .i64 a0_2) ∧ w25.cell? ⟨gb138, 3, none⟩ = some (.int .u64 a0_3) := hS_
        refine norm_ (a' := ?_) ?_ ?_
        rotate_left
        ·simp only [putAll, Act.put, sp_]
         rfl
        refine two_ (i := 4) (j := 11) (Ni := some 33) (Nj := some 40) #[Y,Y,Y,Y,Y,Y,Y,Y,N,Y,Y,N,N,Y,Y,N,N,N] #[Y,Y,Y,Y,N,Y,Y,Y,N,Y,Y,Y,N,Y,Y,N,N,N] rfl rfl rfl rfl (two_of HT_.out r6_) r44_ r44_ (fun K hK => ?_) (fun K hK => ?_)
        ·skip
         have hcv26 := own_string (P := Try.prog) Try.underlying96 Try.underlying5 Try.underlying9 (Kd.own_of_R HO143.out)
         refine value_ (w1 := ?_) (v := ?_) (by rfl) rfl ?_ ?_
         rotate_left 2
         ·go_simp
          constructor
          ·rfl
          ·rfl
         clear hcv26
         refine hK.out _ _ ⟨(blk_cell BK138.out 0).trans rfl, (blk_cell BK138.out 1).trans rfl, (blk_cell BK138.out 2).trans rfl, (blk_cell BK138.out 3).trans rfl⟩ (fun hHeld => ?_)
         clear hK K
         refine norm_ (a' := ?_) ?_ ?_
         rotate_left
         ·show Act.put _ (some 33) _ = _
          simp only [Act.put, sp_, i64_w, i32_w]
          rfl
         refine pure_ (i := 8) (N := some 37) (v := ?_) (a' := ?_) #[Y,Y,Y,Y,Y,Y,Y,Y,Y,Y,Y,N,N,Y,Y,N,N,N] rfl rfl (any_of HT_.out r6_) (fun _ _ _ h => h) (Or.inl ⟨by rfl, ?_⟩) ?_ ?_
         rotate_left
         ·intro w'
          go_simp
          with_reducible rfl
         rotate_left
         ·simp only [Act.put, sp_, i64_w, i32_w]
          rfl
         exact norm_ pA_ (hJ3_4_7 (v142) _ ⟨hHeld, r26_, r11_, r4_⟩)
        ·skip
         refine goes_ Try.func71 r6_ rfl #[.int .u64 a0_3] (by rfl) rfl rfl hA_ ?_
         with_reducible refine (num_Short.calls kj1 a0_3 t145 _ A18.out).mono ?_
         rintro e w26 ⟨rfl, hb⟩
         refine ⟨_, rfl, ?_⟩
         replace HO143 := Aside0.mk (Kd.R_below r26_ hb)
         replace BK138 := Aside0.mk (blk_below (g := gb138) (o := .cells #[.string a0_0, .int .u64 a0_1, .int .i64 a0_2, .int .u64 a0_3] 40 (0, 0)) r11_ hb)
         replace HB := Aside0.mk (below_step r4_ hb)
         (try clear hb)
         (try clear hb2)
         (try clear hk)
         (try clear hi)
         (try clear A18)
         refine hK.out _ _ ⟨(blk_cell BK138.out 0).trans rfl, (blk_cell BK138.out 1).trans rfl, (blk_cell BK138.out 2).trans rfl, (blk_cell BK138.out 3).trans rfl⟩ (fun hHeld => ?_)
         clear hK K
         refine norm_ (a' := ?_) ?_ ?_
         rotate_left
         ·show Act.put _ (some 40) _ = _
          simp only [Act.put, sp_, i64_w, i32_w]
          rfl
         exact norm_ pA_ (hJ3_7_11 (v142) _ ⟨hHeld, r26_, r11_, r4_⟩)
      ·skip
       rintro v142 w25 ⟨hS_, h0_, h1_, h2_⟩
       have n0_ : Aside0 (Kd.R (Kd.int .u8) 5 w25 w.heap.size (fun _ => True) v142 y141) := ⟨h0_⟩
       have n1_ : Aside0 (w25.heap[gb138]? = some (.cells #[.string a0_0, .int .u64 a0_1, .int .i64 a0_2, .int .u64 a0_3] 40 (0, 0))) := ⟨h1_⟩
       have n2_ : Aside0 (Below w.heap.size w w25) := ⟨h2_⟩
       clear BK138
       clear HB
       clear h0_ h1_ h2_
       have HO143 := n0_
       have BK138 := n1_
       have HB := n2_
       clear n0_ n1_ n2_
       have hHeld : w25.cell? ⟨gb138, 0, none⟩ = some (.string a0_0) ∧ w25.cell? ⟨gb138, 1, none⟩ = some (.int .u64 a0_1) ∧ w25.cell? ⟨gb138, 2, none⟩ = some (.int .i64 a0_2) ∧ w25.cell? ⟨gb138, 3, none⟩ = some (.int .u64 a0_3) := hS_
       refine norm_ (a' := ?_) ?_ ?_
       rotate_left
       ·simp only [putAll, Act.put, sp_]
        rfl
       refine one_ (i := 7) (N := some 36) #[Y,Y,Y,Y,Y,Y,Y,Y,N,Y,Y,N,N,Y,Y,N,N,N] rfl rfl (one_of HT_.out r6_) r44_ (fun K hK => ?_)
       refine goes_ Try.func71 r6_ rfl #[.int .u64 a0_1] (by rfl) rfl rfl hA_ ?_
       with_reducible refine (num_Short.calls kj1 a0_1 t144 _ A16.out).mono ?_
       rintro e w26 ⟨rfl, hb⟩
       refine ⟨_, rfl, ?_⟩
       replace HO143 := Aside0.mk (Kd.R_below r26_ hb)
       replace BK138 := Aside0.mk (blk_below (g := gb138) (o := .cells #[.string a0_0, .int .u64 a0_1, .int .i64 a0_2, .int .u64 a0_3] 40 (0, 0)) r11_ hb)
       replace HB := Aside0.mk (below_step r4_ hb)
       (try clear hb)
       (try clear hb2)
       (try clear hk)
       (try clear hi)
       (try clear A16)
       refine hK.out _ _ ⟨(blk_cell BK138.out 0).trans rfl, (blk_cell BK138.out 1).trans rfl, (blk_cell BK138.out 2).trans rfl, (blk_cell BK138.out 3).trans rfl⟩ (fun hHeld => ?_)
       clear hK K
       refine norm_ (a' := ?_) ?_ ?_
       rotate_left
       ·show Act.put _ (some 36) _ = _
        simp only [Act.put, sp_, i64_w, i32_w]
        rfl
       refine pure_ (i := 8) (N := some 37) (v := ?_) (a' := ?_) #[Y,Y,Y,Y,Y,Y,Y,Y,Y,Y,Y,N,N,Y,Y,N,N,N] rfl rfl (any_of HT_.out r6_) (fun _ _ _ h => h) (Or.inl ⟨by rfl, ?_⟩) ?_ ?_
       rotate_left
       ·intro w'
        go_simp
        with_reducible rfl
       rotate_left
       ·simp only [Act.put, sp_, i64_w, i32_w]
        rfl
       exact norm_ pA_ (hJ3_4_7 (v142) _ ⟨hHeld, r26_, r11_, r4_⟩)
     ·skip
      rintro v142 w26 ⟨hS_, h0_, h1_, h2_⟩
      have n0_ : Aside0 (Kd.R (Kd.int .u8) 5 w26 w.heap.size (fun _ => True) v142 y141) := ⟨h0_⟩
      have n1_ : Aside0 (w26.heap[gb138]? = some (.cells #[.string a0_0, .int .u64 a0_1, .int .i64 a0_2, .int .u64 a0_3] 40 (0, 0))) := ⟨h1_⟩
      have n2_ : Aside0 (Below w.heap.size w w26) := ⟨h2_⟩
      clear BK138
      clear HB
      clear h0_ h1_ h2_
      have HO143 := n0_
      have BK138 := n1_
      have HB := n2_
      clear n0_ n1_ n2_
      have hHeld : w26.cell? ⟨gb138, 0, none⟩ = some (.string a0_0) ∧ w26.cell? ⟨gb138, 1, none⟩ = some (.int .u64 a0_1) ∧ w26.cell? ⟨gb138, 2, none⟩ = some (.int .i64 a0_2) ∧ w26.cell? ⟨gb138, 3, none⟩ = some (.int .u64 a0_3) := hS_
      refine norm_ (a' := ?_) ?_ ?_
      rotate_left
      ·simp only [putAll, Act.put, sp_]
       rfl
      refine one_ (i := 4) (N := some 33) #[Y,Y,Y,Y,Y,Y,Y,Y,N,Y,Y,Y,N,Y,Y,N,N,N] rfl rfl (one_of HT_.out r6_) r44_ (fun K hK => ?_)
      have hcv27 := own_string (P := Try.prog) Try.underlying96 Try.underlying5 Try.underlying9 (Kd.own_of_R HO143.out)
      refine value_ (w1 := ?_) (v := ?_) (by rfl) rfl ?_ ?_
      rotate_left 2
      ·go_simp
       constructor
       ·rfl
       ·rfl
      clear hcv27
      refine hK.out _ _ ⟨(blk_cell BK138.out 0).trans rfl, (blk_cell BK138.out 1).trans rfl, (blk_cell BK138.out 2).trans rfl, (blk_cell BK138.out 3).trans rfl⟩ (fun hHeld => ?_)
      clear hK K
      refine norm_ (a' := ?_) ?_ ?_
      rotate_left
      ·show Act.put _ (some 33) _ = _
       simp only [Act.put, sp_, i64_w, i32_w]
       rfl
      refine pure_ (i := 8) (N := some 37) (v := ?_) (a' := ?_) #[Y,Y,Y,Y,Y,Y,Y,Y,Y,Y,Y,Y,N,Y,Y,N,N,N] rfl rfl (any_of HT_.out r6_) (fun _ _ _ h => h) (Or.inl ⟨by rfl, ?_⟩) ?_ ?_
      rotate_left
      ·intro w'
       go_simp
       with_reducible rfl
      rotate_left
      ·simp only [Act.put, sp_, i64_w, i32_w]
       rfl
      exact norm_ pA_ (hJ3_4_7_11 (v142) _ ⟨hHeld, r26_, r11_, r4_⟩)
    ·skip
     rintro v142 w26 ⟨hS_, h0_, h1_, h2_⟩
     have n0_ : Aside0 (Kd.R (Kd.int .u8) 5 w26 w.heap.size (fun _ => True) v142 y141) := ⟨h0_⟩
     have n1_ : Aside0 (w26.heap[gb138]? = some (.cells #[.string a0_0, .int .u64 a0_1, .int .i64 a0_2, .int .u64 a0_3] 40 (0, 0))) := ⟨h1_⟩
     have n2_ : Aside0 (Below w.heap.size w w26) := ⟨h2_⟩
     clear BK138
     clear HB
     clear h0_ h1_ h2_
     have HO143 := n0_
     have BK138 := n1_
     have HB := n2_
     clear n0_ n1_ n2_
     have hHeld : w26.cell? ⟨gb138, 0, none⟩ = some (.string a0_0) ∧ w26.cell? ⟨gb138, 1, none⟩ = some (.int .u64 a0_1) ∧ w26.cell? ⟨gb138, 2, none⟩ = some (.int .i64 a0_2) ∧ w26.cell? ⟨gb138, 3, none⟩ = some (.int .u64 a0_3) := hS_
     refine norm_ (a' := ?_) ?_ ?_
     rotate_left
     ·simp only [putAll, Act.put, sp_]
      rfl
     refine one_ (i := 11) (N := some 40) #[Y,Y,Y,Y,Y,Y,Y,Y,Y,Y,Y,Y,N,Y,Y,N,N,N] rfl rfl (one_of HT_.out r6_) r44_ (fun K hK => ?_)
     refine goes_ Try.func71 r6_ rfl #[.int .u64 a0_3] (by rfl) rfl rfl hA_ ?_
     with_reducible refine (num_Short.calls kj1 a0_3 t145 _ A18.out).mono ?_
     rintro e w27 ⟨rfl, hb⟩
     refine ⟨_, rfl, ?_⟩
     replace HO143 := Aside0.mk (Kd.R_below r26_ hb)
     replace BK138 := Aside0.mk (blk_below (g := gb138) (o := .cells #[.string a0_0, .int .u64 a0_1, .int .i64 a0_2, .int .u64 a0_3] 40 (0, 0)) r11_ hb)
     replace HB := Aside0.mk (below_step r4_ hb)
     (try clear hb)
     (try clear hb2)
     (try clear hk)
     (try clear hi)
     (try clear A18)
     refine hK.out _ _ ⟨(blk_cell BK138.out 0).trans rfl, (blk_cell BK138.out 1).trans rfl, (blk_cell BK138.out 2).trans rfl, (blk_cell BK138.out 3).trans rfl⟩ (fun hHeld => ?_)
     clear hK K
     refine norm_ (a' := ?_) ?_ ?_
     rotate_left
     ·show Act.put _ (some 40) _ = _
      simp only [Act.put, sp_, i64_w, i32_w]
      rfl
     exact norm_ pA_ (hJ3_4_7_11 (v142) _ ⟨hHeld, r26_, r11_, r4_⟩)
   rintro v142 w27 ⟨hS_, h0_, h1_, h2_⟩
   have n0_ : Aside0 (Kd.R (Kd.int .u8) 5 w27 w.heap.size (fun _ => True) v142 y141) := ⟨h0_⟩
   have n1_ : Aside0 (w27.heap[gb138]? = some (.cells #[.string a0_0, .int .u64 a0_1, .int .i64 a0_2, .int .u64 a0_3] 40 (0, 0))) := ⟨h1_⟩
   have n2_ : Aside0 (Below w.heap.size w w27) := ⟨h2_⟩
   clear BK138
   clear HB
   clear h0_ h1_ h2_
   have HO143 := n0_
   have BK138 := n1_
   have HB := n2_
   clear n0_ n1_ n2_
   have hHeld : w27.cell? ⟨gb138, 0, none⟩ = some (.string a0_0) ∧ w27.cell? ⟨gb138, 1, none⟩ = some (.int .u64 a0_1) ∧ w27.cell? ⟨gb138, 2, none⟩ = some (.int .i64 a0_2) ∧ w27.cell? ⟨gb138, 3, none⟩ = some (.int .u64 a0_3) := hS_
   refine norm_ (a' := ?_) ?_ ?_
   rotate_left
   ·simp only [putAll, Act.put, sp_]
    rfl
   refine pure_ (i := 12) (N := some 41) (v := ?_) (a' := ?_) #[Y,Y,Y,Y,Y,Y,Y,Y,Y,Y,Y,Y,Y,Y,Y,N,N,N] rfl rfl (any_of HT_.out r6_) (fun _ _ _ h => h) (Or.inl ⟨by rfl, ?_⟩) ?_ ?_
   rotate_left
   ·intro w'
    go_simp
    with_reducible rfl
   rotate_left
   ·simp only [Act.put, sp_, i64_w, i32_w]
    rfl
   refine pure_ (i := 15) (N := some 44) (v := ?_) (a' := ?_) #[Y,Y,Y,Y,Y,Y,Y,Y,Y,Y,Y,Y,Y,Y,Y,Y,N,N] rfl rfl (any_of HT_.out r6_) (fun _ _ _ h => h) (Or.inl ⟨by rfl, ?_⟩) ?_ ?_
   rotate_left
   ·intro w'
    go_simp
    with_reducible rfl
   rotate_left
   ·simp only [Act.put, sp_, i64_w, i32_w]
    rfl
   refine pure_ (i := 16) (N := some 2) (v := ?_) (a' := ?_) #[Y,Y,Y,Y,Y,Y,Y,Y,Y,Y,Y,Y,Y,Y,Y,Y,Y,N] rfl rfl (any_of HT_.out r6_) (fun _ _ _ h => h) (Or.inl ⟨by rfl, ?_⟩) ?_ ?_
   rotate_left
   ·intro w'
    go_simp
    with_reducible rfl
   rotate_left
   ·simp only [Act.put, sp_, i64_w, i32_w]
    rfl
   refine pure_ (i := 17) (N := some 3) (v := ?_) (a' := ?_) #[Y,Y,Y,Y,Y,Y,Y,Y,Y,Y,Y,Y,Y,Y,Y,Y,Y,Y] rfl rfl (any_of HT_.out r6_) (fun _ _ _ h => h) (Or.inl ⟨by rfl, ?_⟩) ?_ ?_
   rotate_left
   ·intro w'
    go_simp
    with_reducible rfl
   rotate_left
   ·simp only [Act.put, sp_, i64_w, i32_w]
    rfl
   refine done_ (done_of HT_.out r6_) ?_
   (try clear hHeld)
   (try clear c17b0); (try clear c17b1); (try clear c17b2); (try clear c17b3); (try clear c17b4); (try clear c17b5); (try clear c17b6); (try clear c19b0); (try clear c19b1); (try clear c19b2); (try clear c19b3); (try clear c19b4); (try clear c19b5); (try clear c19b6); (try clear c20b0); (try clear c20b1); (try clear c20b2); (try clear c20b3); (try clear c20b4); (try clear c20b5); (try clear c20b6)
   try go_wp2
   go_ret2
   exact ⟨rf_, r4_⟩

end Go.Proofs.Ytcdadhgcjkgnoaa.P
