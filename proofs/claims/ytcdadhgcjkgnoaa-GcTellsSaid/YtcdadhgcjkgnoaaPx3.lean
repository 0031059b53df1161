-- Printed by a program of this session's own (wip/tools/pprint.sh, over the kit's print, with given contracts): not typed by hand.
import Derived.Test.YtcdadhgcjkgnoaaPx0
import Derived.Test.YtcdadhgcjkgnoaaPx2
namespace Go.Proofs.Ytcdadhgcjkgnoaa.P
open Go.RowKit Go.Proofs.YtcdadhgcjkgnoaaW.PrintWords Go.Proofs.YtcdadhgcjkgnoaaW.PrintLast Go.Proofs.YtcdadhgcjkgnoaaW.PrintMore
set_option linter.unusedVariables false
set_option linter.unusedSimpArgs false
-- SQUEEZED3

/-! ### key_Make: function 54 -/
def key_Make.j0 : Nat → ByteArray → Bool → Int → ByteArray → Int → Option (ByteArray × Int)
 | 0, _, _, _, _, _ => none
 | k + 1, x4, x18, x113000, x113001, x113002 => if x18 = true then (some ((⟨#[]⟩ : ByteArray), 3)) else (if x113000 = 1 then (some (x4, 0)) else ((num_Fall.f x113002).bind fun t115 => (if x4.size + t115.size ≤ 9223372036854775807 then (some (x4 ++ t115, 0)) else (none))))
def key_Make.f (k : Nat) (a0_0 : Int) (a0_1 : ByteArray) (a0_2 : Int) : Option (ByteArray × Int) := (key_First.f a0_0 a0_1).bind fun bt113 => (if bt113.2 = 0 then (if a0_2 > 1099511627776 then (key_Make.j0 k bt113.1 true a0_0 a0_1 a0_2) else (if a0_0 = 1 then (key_Make.j0 k bt113.1 (a0_2 != 0) a0_0 a0_1 a0_2) else (key_Make.j0 k bt113.1 false a0_0 a0_1 a0_2))) else (some ((⟨#[]⟩ : ByteArray), bt113.2)))
theorem key_Make.mono_l : ∀ k, (∀ y0 y1 y2 y3 y4, LeO (key_Make.j0 k y0 y1 y2 y3 y4) (key_Make.j0 (k + 1) y0 y1 y2 y3 y4))
 | 0 => fun _ _ _ _ _ r h => by simp [key_Make.j0] at h
 | k + 1 => by
  have ih0 := key_Make.mono_l k
  ·intro y0 y1 y2 y3 y4
   unfold key_Make.j0
   repeat' first
   | (with_reducible exact ih0 _ _ _ _ _)
   | (with_reducible exact LeO.refl _)
   | (with_reducible exact LeO.none _)
   | (with_reducible refine LeO.ite ?_ ?_)
   | (with_reducible refine LeO.bind ?_ (fun _ => ?_))
   | exact ih0 _ _ _ _ _
   | exact LeO.none _
   | refine LeO.ite ?_ ?_
   | refine LeO.bind ?_ (fun _ => ?_)
theorem key_Make.mono : ∀ a0 a1 a2 k, LeO (key_Make.f k a0 a1 a2) (key_Make.f (k + 1) a0 a1 a2) := by
 intro a0 a1 a2 k
 have ih0 := key_Make.mono_l k
 unfold key_Make.f
 repeat' first
   | (with_reducible exact ih0 _ _ _ _ _)
   | (with_reducible exact LeO.refl _)
   | (with_reducible exact LeO.none _)
   | (with_reducible refine LeO.ite ?_ ?_)
   | (with_reducible refine LeO.bind ?_ (fun _ => ?_))
   | exact ih0 _ _ _ _ _
   | exact LeO.none _
   | refine LeO.ite ?_ ?_
   | refine LeO.bind ?_ (fun _ => ?_)
set_option maxHeartbeats 8000000 in
set_option maxRecDepth 100000 in
theorem key_Make.calls (k : Nat) (a0_0 : Int) (a0_1 : ByteArray) (a0_2 : Int) (r1 : ByteArray) (r2 : Int) (w : World) (h : key_Make.f k a0_0 a0_1 a0_2 = some (r1, r2)) :
  Calls Try.prog 54 #[.agg #[.int .i64 a0_0, .string a0_1, .int .u64 a0_2]] w fun e w' => e = .returned (.tuple #[.string r1, .int .i64 r2]) ∧ Below w.heap.size w w' := by
 have hu61 := Try.underlying61
 have HB := Aside0.mk (Below.refl w.heap.size w)
 have H : ((key_First.f a0_0 a0_1).bind fun bt113 => (if bt113.2 = 0 then (if a0_2 > 1099511627776 then (key_Make.j0 k bt113.1 true a0_0 a0_1 a0_2) else (if a0_0 = 1 then (key_Make.j0 k bt113.1 (a0_2 != 0) a0_0 a0_1 a0_2) else (key_Make.j0 k bt113.1 false a0_0 a0_1 a0_2))) else (some ((⟨#[]⟩ : ByteArray), bt113.2)))) = some (r1, r2) := h
 clear h
 replace H := Option.bind_eq_some_iff.mp H
 obtain ⟨⟨t113, t114⟩, A20, H⟩ := H
 try dsimp only at H
 have A2 := Aside0.mk A20
 clear A20
 by_cases c3 : t114 = 0
 rotate_left
 ·rw [if_neg c3] at H
  have c3b0 := beq_eq_false_iff_ne.mpr c3
  have c3b1 := bne_iff_ne.mpr c3
  simp only [Option.some.injEq, Prod.mk.injEq] at H
  obtain ⟨rfl, rfl⟩ := H
  go_enter Try.func54, Try.ntmps54
  go_wp2_with (first | ((with_reducible refine gate_dst (N := 1) rfl ?_); refine box_event ?hg (N := 1) ?hd (cs := #[.int .i64 a0_0, .string a0_1, .int .u64 a0_2]) (t := 61) ?hr ?_; (case hd => rfl); (case hg => rfl); (case hr => first | (go_simp; done) | (go_simp; rfl)); intro gb112 hg w20 hbox hb; have BK112 := Aside0.mk (hbox); have GW112 := Aside0.mk ((by rw [hg]; exact (below_size hB_) : w.heap.size ≤ gb112)); have GE112 := Aside0.mk ((by rw [hg]; exact (below_size hB_) : w.heap.size ≤ gb112)); replace HB := Aside0.mk (below_step hB_ hb); clear hb hbox hg; have hcz21_0 : w20.cell? ⟨gb112, 0, none⟩ = some (.int .i64 a0_0) := (blk_cell BK112.out 0).trans rfl; have hcz21_1 : w20.cell? ⟨gb112, 1, none⟩ = some (.string a0_1) := (blk_cell BK112.out 1).trans rfl; have hcz21_2 : w20.cell? ⟨gb112, 2, none⟩ = some (.int .u64 a0_2) := (blk_cell BK112.out 2).trans rfl; have hfz21_0 := blk_frozen BK112.out 0; have hfz21_1 := blk_frozen BK112.out 1; have hfz21_2 := blk_frozen BK112.out 2) | ((with_reducible refine gate_callee (f := 67) rfl ?_); refine goesL_ (some 11) rfl rfl Try.func67 r6_ rfl #[.int .i64 a0_0, .string a0_1] rfl hA_ ?_; (with_reducible refine (key_First.calls a0_0 a0_1 t113 t114 _ A2.out).mono ?_); rintro e w22 ⟨rfl, hb⟩; refine ⟨_, rfl, ?_⟩; replace BK112 := Aside0.mk (blk_below (g := gb112) (o := .cells #[.int .i64 a0_0, .string a0_1, .int .u64 a0_2] 61 (0, 0)) r47_ hb); replace HB := Aside0.mk (below_step r22_ hb); clear hb A2))
  go_ret2
  exact ⟨rf_, r22_⟩
 rw [if_pos c3] at H
 have c3b0 := beq_iff_eq.mpr c3
 have c3b1 := bne_eq_false_iff_eq.mpr c3
 clear c3
 have HC4 := Aside0.mk H
 clear H
 go_enter Try.func54, Try.ntmps54
 go_upto_region 4 with (first | ((with_reducible refine gate_dst (N := 1) rfl ?_); refine box_event ?hg (N := 1) ?hd (cs := #[.int .i64 a0_0, .string a0_1, .int .u64 a0_2]) (t := 61) ?hr ?_; (case hd => rfl); (case hg => rfl); (case hr => first | (go_simp; done) | (go_simp; rfl)); intro gb112 hg w5 hbox hb; have BK112 := Aside0.mk (hbox); have GW112 := Aside0.mk ((by rw [hg]; exact (below_size hB_) : w.heap.size ≤ gb112)); have GE112 := Aside0.mk ((by rw [hg]; exact (below_size hB_) : w.heap.size ≤ gb112)); replace HB := Aside0.mk (below_step hB_ hb); clear hb hbox hg; have hcz6_0 : w5.cell? ⟨gb112, 0, none⟩ = some (.int .i64 a0_0) := (blk_cell BK112.out 0).trans rfl; have hcz6_1 : w5.cell? ⟨gb112, 1, none⟩ = some (.string a0_1) := (blk_cell BK112.out 1).trans rfl; have hcz6_2 : w5.cell? ⟨gb112, 2, none⟩ = some (.int .u64 a0_2) := (blk_cell BK112.out 2).trans rfl; have hfz6_0 := blk_frozen BK112.out 0; have hfz6_1 := blk_frozen BK112.out 1; have hfz6_2 := blk_frozen BK112.out 2) | ((with_reducible refine gate_callee (f := 67) rfl ?_); refine goesL_ (some 11) rfl rfl Try.func67 r6_ rfl #[.int .i64 a0_0, .string a0_1] rfl hA_ ?_; (with_reducible refine (key_First.calls a0_0 a0_1 t113 t114 _ A2.out).mono ?_); rintro e w7 ⟨rfl, hb⟩; refine ⟨_, rfl, ?_⟩; replace BK112 := Aside0.mk (blk_below (g := gb112) (o := .cells #[.int .i64 a0_0, .string a0_1, .int .u64 a0_2] 61 (0, 0)) r47_ hb); replace HB := Aside0.mk (below_step r22_ hb); clear hb A2))
 (try simp only [Act.put, sp_])
 go_cut [18] (fun v18 wc => ∃ (kq : Nat) (x18_3 : Bool), v18 = .bool x18_3 ∧ Aside0 (key_Make.j0 kq t113 x18_3 a0_0 a0_1 a0_2 = some (r1, r2)) ∧ Aside0 (kq ≤ k) ∧ Aside0 (wc.heap[gb112]? = some (.cells #[.int .i64 a0_0, .string a0_1, .int .u64 a0_2] 61 (0, 0))) ∧ Aside0 (Below w.heap.size w wc))
 case first =>
  have H := HC4.out
  clear HC4
  by_cases c8 : a0_2 > 1099511627776
  ·rw [if_pos c8] at H
   have c8b0 : decide (1099511627776 < a0_2) = true := decide_eq_true c8
   clear c8
   (first | rw [c8b0] | (simp only [i64_w, i32_w]; rw [c8b0]) | skip)
   have H' := Aside0.mk H
   clear H
   have hcz9_0 : w7.cell? ⟨gb112, 0, none⟩ = some (.int .i64 a0_0) := (blk_cell BK112.out 0).trans rfl
   have hcz9_1 : w7.cell? ⟨gb112, 1, none⟩ = some (.string a0_1) := (blk_cell BK112.out 1).trans rfl
   have hcz9_2 : w7.cell? ⟨gb112, 2, none⟩ = some (.int .u64 a0_2) := (blk_cell BK112.out 2).trans rfl
   have hfz9_0 := blk_frozen BK112.out 0
   have hfz9_1 := blk_frozen BK112.out 1
   have hfz9_2 := blk_frozen BK112.out 2
   go_wp2
   go_meet
   case rel => exact ⟨_, (true), rs_, hH_, ⟨by first | omega | exact Nat.le_refl _⟩, ⟨r47_⟩, ⟨r22_⟩⟩
  rw [if_neg c8] at H
  have c8b0 : decide (1099511627776 < a0_2) = false := decide_eq_false c8
  clear c8
  (first | rw [c8b0] | (simp only [i64_w, i32_w]; rw [c8b0]) | skip)
  by_cases c10 : a0_0 = 1
  rotate_left
  ·rw [if_neg c10] at H
   have c10b0 := beq_eq_false_iff_ne.mpr c10
   have c10b1 := bne_iff_ne.mpr c10
   have H' := Aside0.mk H
   clear H
   have hcz12_0 : w7.cell? ⟨gb112, 0, none⟩ = some (.int .i64 a0_0) := (blk_cell BK112.out 0).trans rfl
   have hcz12_1 : w7.cell? ⟨gb112, 1, none⟩ = some (.string a0_1) := (blk_cell BK112.out 1).trans rfl
   have hcz12_2 : w7.cell? ⟨gb112, 2, none⟩ = some (.int .u64 a0_2) := (blk_cell BK112.out 2).trans rfl
   have hfz12_0 := blk_frozen BK112.out 0
   have hfz12_1 := blk_frozen BK112.out 1
   have hfz12_2 := blk_frozen BK112.out 2
   go_wp2
   go_meet
   case rel => exact ⟨_, (false), rs_, hH_, ⟨by first | omega | exact Nat.le_refl _⟩, ⟨r47_⟩, ⟨r22_⟩⟩
  rw [if_pos c10] at H
  have c10b0 := beq_iff_eq.mpr c10
  have c10b1 := bne_eq_false_iff_eq.mpr c10
  clear c10
  have H' := Aside0.mk H
  clear H
  have hcz11_0 : w7.cell? ⟨gb112, 0, none⟩ = some (.int .i64 a0_0) := (blk_cell BK112.out 0).trans rfl
  have hcz11_1 : w7.cell? ⟨gb112, 1, none⟩ = some (.string a0_1) := (blk_cell BK112.out 1).trans rfl
  have hcz11_2 : w7.cell? ⟨gb112, 2, none⟩ = some (.int .u64 a0_2) := (blk_cell BK112.out 2).trans rfl
  have hfz11_0 := blk_frozen BK112.out 0
  have hfz11_1 := blk_frozen BK112.out 1
  have hfz11_2 := blk_frozen BK112.out 2
  go_wp2
  go_meet
  case rel => exact ⟨_, ((a0_2 != 0)), rs_, hH_, ⟨by first | omega | exact Nat.le_refl _⟩, ⟨r47_⟩, ⟨r22_⟩⟩
 case rest =>
  clear HC4
  try clear c3
  try clear c3b0
  try clear c3b1
  try clear hcz6_0
  try clear hcz6_1
  try clear hcz6_2
  try clear hfz6_0
  try clear hfz6_1
  try clear hfz6_2
  obtain ⟨kq, x18_3, rfl, HA, HJ3, BK112, HB⟩ := hcut
  cases kq with
  | zero => exact absurd HA.out (by simp [key_Make.j0])
  | succ kj3 =>
   have H := HA.out
   clear HA
   simp only [key_Make.j0] at H
   by_cases c13 : x18_3 = true
   ·subst c13
    rw [if_pos rfl] at H
    simp only [Option.some.injEq, Prod.mk.injEq] at H
    obtain ⟨rfl, rfl⟩ := H
    go_wp2
    go_ret2
    exact ⟨rf_, r22_⟩
   replace c13 := Bool.eq_false_iff.mpr c13
   subst c13
   rw [if_neg ff_] at H
   by_cases c14 : a0_0 = 1
   ·rw [if_pos c14] at H
    have c14b0 := beq_iff_eq.mpr c14
    have c14b1 := bne_eq_false_iff_eq.mpr c14
    clear c14
    simp only [Option.some.injEq, Prod.mk.injEq] at H
    obtain ⟨rfl, rfl⟩ := H
    have hcz15_0 : wc.cell? ⟨gb112, 0, none⟩ = some (.int .i64 a0_0) := (blk_cell BK112.out 0).trans rfl
    have hcz15_1 : wc.cell? ⟨gb112, 1, none⟩ = some (.string a0_1) := (blk_cell BK112.out 1).trans rfl
    have hcz15_2 : wc.cell? ⟨gb112, 2, none⟩ = some (.int .u64 a0_2) := (blk_cell BK112.out 2).trans rfl
    have hfz15_0 := blk_frozen BK112.out 0
    have hfz15_1 := blk_frozen BK112.out 1
    have hfz15_2 := blk_frozen BK112.out 2
    go_wp2
    go_ret2
    exact ⟨rf_, r22_⟩
   rw [if_neg c14] at H
   have c14b0 := beq_eq_false_iff_ne.mpr c14
   have c14b1 := bne_iff_ne.mpr c14
   replace H := Option.bind_eq_some_iff.mp H
   obtain ⟨t115, A160, H⟩ := H
   try dsimp only at H
   have A16 := Aside0.mk A160
   clear A160
   by_cases c17 : t113.size + t115.size ≤ 9223372036854775807
   rotate_left
   ·rw [if_neg c17] at H
    exact absurd H r34_
   rw [if_pos c17] at H
   have c17b0 := eq_true c17
   have c17b1 : decide (t113.size + t115.size ≤ 9223372036854775807) = true := decide_eq_true c17
   try have c17b2 : (9223372036854775807 < t113.size + t115.size) = False := eq_false (Nat.not_lt.2 c17)
   try (have c17b3 := c17b2; simp only [ByteArray.size_append] at c17b3)
   try (have c17b4 := c17b2; simp only [ByteArray.size_extract, ByteArray.size_append, Nat.sub_zero] at c17b4)
   simp only [Option.some.injEq, Prod.mk.injEq] at H
   obtain ⟨rfl, rfl⟩ := H
   have hcz18_0 : wc.cell? ⟨gb112, 0, none⟩ = some (.int .i64 a0_0) := (blk_cell BK112.out 0).trans rfl
   have hcz18_1 : wc.cell? ⟨gb112, 1, none⟩ = some (.string a0_1) := (blk_cell BK112.out 1).trans rfl
   have hcz18_2 : wc.cell? ⟨gb112, 2, none⟩ = some (.int .u64 a0_2) := (blk_cell BK112.out 2).trans rfl
   have hfz18_0 := blk_frozen BK112.out 0
   have hfz18_1 := blk_frozen BK112.out 1
   have hfz18_2 := blk_frozen BK112.out 2
   go_wp2_with (first | ((with_reducible refine gate_callee (f := 68) rfl ?_); refine goesL_ (some 40) rfl rfl Try.func68 r6_ rfl #[.int .u64 a0_2] rfl hA_ ?_; (with_reducible refine (num_Fall.calls a0_2 t115 _ A16.out).mono ?_); rintro e w19 ⟨rfl, hb⟩; refine ⟨_, rfl, ?_⟩; replace BK112 := Aside0.mk (blk_below (g := gb112) (o := .cells #[.int .i64 a0_0, .string a0_1, .int .u64 a0_2] 61 (0, 0)) r47_ hb); replace HB := Aside0.mk (below_step r22_ hb); clear hb A16))
   go_ret2
   exact ⟨rf_, r22_⟩

/-! ### key_Read: function 38 -/
def key_Read.j0 : Nat → ByteArray → Bool → Option (Int × ByteArray × Int × Int)
 | 0, _, _ => none
 | k + 1, x0, x20 => if x20 = true then (some (0, (⟨#[]⟩ : ByteArray), 0, 2)) else (if 0 < (x0.size : Int) then (if 1 ≤ (x0.size : Int) then ((key_Unescape.f (x0.extract 1 x0.size)).bind fun bt119 => (if bt119.2.2 = 0 then (if (wrap64 (bt x0 0)) = 1 then (if bt119.2.1.toList = ([] : List UInt8) then (some (wrap64 (bt x0 0), bt119.1, 0, 0)) else (some (0, (⟨#[]⟩ : ByteArray), 0, 2))) else ((num_Unfall.f k bt119.2.1).bind fun bt122 => ((key_Make.f k (wrap64 (bt x0 0)) bt119.1 bt122.1).bind fun bt124 => (if bt122.2 = true then (if bt124.2 = 0 then (if bt124.1.toList = x0.toList then (some (wrap64 (bt x0 0), bt119.1, bt122.1, 0)) else (some (0, (⟨#[]⟩ : ByteArray), 0, 2))) else (some (0, (⟨#[]⟩ : ByteArray), 0, 2))) else (some (0, (⟨#[]⟩ : ByteArray), 0, 2)))))) else (some (0, (⟨#[]⟩ : ByteArray), 0, bt119.2.2)))) else (none)) else (none))
def key_Read.f (k : Nat) (a0 : ByteArray) : Option (Int × ByteArray × Int × Int) := if a0.toList = ([] : List UInt8) then (key_Read.j0 k a0 true) else (if 0 < (a0.size : Int) then ((key_family.f (wrap64 (bt a0 0))).bind fun t117 => (key_Read.j0 k a0 (!t117))) else (none))
theorem key_Read.mono_l : ∀ k, (∀ y0 y1, LeO (key_Read.j0 k y0 y1) (key_Read.j0 (k + 1) y0 y1))
 | 0 => fun _ _ r h => by simp [key_Read.j0] at h
 | k + 1 => by
  have ih0 := key_Read.mono_l k
  ·intro y0 y1
   unfold key_Read.j0
   repeat' first
   | (with_reducible exact ih0 _ _)
   | (with_reducible exact LeO.refl _)
   | (with_reducible exact LeO.none _)
   | (with_reducible refine LeO.ite ?_ ?_)
   | (with_reducible refine LeO.bind ?_ (fun _ => ?_))
   | exact ih0 _ _
   | exact key_Make.mono _ _ _ _
   | exact num_Unfall.mono _ _
   | exact LeO.none _
   | refine LeO.ite ?_ ?_
   | refine LeO.bind ?_ (fun _ => ?_)
theorem key_Read.mono : ∀ a0 k, LeO (key_Read.f k a0) (key_Read.f (k + 1) a0) := by
 intro a0 k
 have ih0 := key_Read.mono_l k
 unfold key_Read.f
 repeat' first
   | (with_reducible exact ih0 _ _)
   | (with_reducible exact LeO.refl _)
   | (with_reducible exact LeO.none _)
   | (with_reducible refine LeO.ite ?_ ?_)
   | (with_reducible refine LeO.bind ?_ (fun _ => ?_))
   | exact ih0 _ _
   | exact key_Make.mono _ _ _ _
   | exact num_Unfall.mono _ _
   | exact LeO.none _
   | refine LeO.ite ?_ ?_
   | refine LeO.bind ?_ (fun _ => ?_)
set_option maxHeartbeats 8000000 in
set_option maxRecDepth 100000 in
theorem key_Read.calls (k : Nat) (a0 : ByteArray) (r1 : Int) (r2 : ByteArray) (r3 : Int) (r4 : Int) (w : World) (h : key_Read.f k a0 = some (r1, r2, r3, r4)) :
  Calls Try.prog 38 #[.string a0] w fun e w' => e = .returned (.tuple #[.agg #[.int .i64 r1, .string r2, .int .u64 r3], .int .i64 r4]) ∧ Below w.heap.size w w' := by
 have hu61 := Try.underlying61
 have HB := Aside0.mk (Below.refl w.heap.size w)
 have H : (if a0.toList = ([] : List UInt8) then (key_Read.j0 k a0 true) else (if 0 < (a0.size : Int) then ((key_family.f (wrap64 (bt a0 0))).bind fun t117 => (key_Read.j0 k a0 (!t117))) else (none))) = some (r1, r2, r3, r4) := h
 clear h
 have HC2 := Aside0.mk H
 clear H
 go_enter Try.func38, Try.ntmps38
 go_upto_region 1 with (first | ((with_reducible refine gate_dst (N := 2) rfl ?_); refine box_event ?hg (N := 2) ?hd (cs := #[.int .i64 0, .string (⟨#[]⟩ : ByteArray), .int .u64 0]) (t := 61) ?hr ?_; (case hd => rfl); (case hg => rfl); (case hr => first | (go_simp; done) | (go_simp; rfl)); intro gb116 hg w3 hbox hb; have BK116 := Aside0.mk (hbox); have GW116 := Aside0.mk ((by rw [hg]; exact (below_size hB_) : w.heap.size ≤ gb116)); have GE116 := Aside0.mk ((by rw [hg]; exact (below_size hB_) : w.heap.size ≤ gb116)); replace HB := Aside0.mk (below_step hB_ hb); clear hb hbox hg))
 (try simp only [Act.put, sp_])
 go_cut [20] (fun v20 wc => ∃ (kq : Nat) (x20_1 : Bool), v20 = .bool x20_1 ∧ Aside0 (key_Read.j0 kq a0 x20_1 = some (r1, r2, r3, r4)) ∧ Aside0 (kq ≤ k) ∧ Aside0 (wc.heap[gb116]? = some (.cells #[.int .i64 0, .string (⟨#[]⟩ : ByteArray), .int .u64 0] 61 (0, 0))) ∧ Aside0 (Below w.heap.size w wc))
 case first =>
  have H := HC2.out
  clear HC2
  by_cases c4 : a0.toList = ([] : List UInt8)
  ·rw [if_pos c4] at H
   have c4b0 := beq_iff_eq.mpr c4
   have c4b1 := bne_eq_false_iff_eq.mpr c4
   clear c4
   (first | rw [c4b0] | (simp only [i64_w, i32_w]; rw [c4b0]) | skip)
   have H' := Aside0.mk H
   clear H
   go_wp2
   go_meet
   case rel => exact ⟨_, (true), rs_, hH_, ⟨by first | omega | exact Nat.le_refl _⟩, ⟨r14_⟩, ⟨r7_⟩⟩
  rw [if_neg c4] at H
  have c4b0 := beq_eq_false_iff_ne.mpr c4
  have c4b1 := bne_iff_ne.mpr c4
  (first | rw [c4b0] | (simp only [i64_w, i32_w]; rw [c4b0]) | skip)
  by_cases c5 : 0 < (a0.size : Int)
  rotate_left
  ·rw [if_neg c5] at H
   exact absurd H r34_
  rw [if_pos c5] at H
  have c5b0 := decide_eq_true c5
  have c5b1 : decide (0 < a0.size) = true := decide_eq_true r37_
  clear c5
  replace H := Option.bind_eq_some_iff.mp H
  obtain ⟨t117, A70, H⟩ := H
  try dsimp only at H
  have A7 := Aside0.mk A70
  clear A70
  have H' := Aside0.mk H
  clear H
  have p6 : 0 ≤ (0 : Int) := r37_
  have q6 : 0 < a0.size := (by have : (0 : Int) < (a0.size : Int) := of_decide_eq_true as_; omega)
  have hx6 : ∀ h : 0 < a0.size, ((a0[0]'h).toNat : Int) = bt a0 0 := bt_at a0 0
  clear p6
  have qi6 : (0 < (a0.size : Int)) = True := eq_true (of_decide_eq_true as_)
  replace q6 := eq_true q6
  go_wp2_with (first | (go_at_call 51; (with_reducible refine (key_family.calls (wrap64 (bt a0 0)) t117 _ A7.out).mono ?_); rintro e w' ⟨rfl, ⟨nd, rfl⟩⟩))
  go_meet
  case rel => exact ⟨_, (!t117), rs_, hH_, ⟨by first | omega | exact Nat.le_refl _⟩, ⟨r14_⟩, ⟨r7_⟩⟩
 case rest =>
  clear HC2
  obtain ⟨kq, x20_1, rfl, HA, HJ1, BK116, HB⟩ := hcut
  cases kq with
  | zero => exact absurd HA.out (by simp [key_Read.j0])
  | succ kj1 =>
   have H := HA.out
   clear HA
   simp only [key_Read.j0] at H
   by_cases c8 : x20_1 = true
   ·subst c8
    rw [if_pos rfl] at H
    simp only [Option.some.injEq, Prod.mk.injEq] at H
    obtain ⟨rfl, rfl, rfl, rfl⟩ := H
    have hcz9_0 : wc.cell? ⟨gb116, 0, none⟩ = some (.int .i64 0) := (blk_cell BK116.out 0).trans rfl
    have hcz9_1 : wc.cell? ⟨gb116, 1, none⟩ = some (.string (⟨#[]⟩ : ByteArray)) := (blk_cell BK116.out 1).trans rfl
    have hcz9_2 : wc.cell? ⟨gb116, 2, none⟩ = some (.int .u64 0) := (blk_cell BK116.out 2).trans rfl
    have hfz9_0 := blk_frozen BK116.out 0
    have hfz9_1 := blk_frozen BK116.out 1
    have hfz9_2 := blk_frozen BK116.out 2
    go_wp2
    refine bodyPost_ret (results_ct rfl _ _ gb116 61 #[.int .i64 0, .string (⟨#[]⟩ : ByteArray), .int .u64 0] (0, 0) _ rfl r12_ Try.underlying61 rfl r6_) rfl ?_
    exact ⟨rf_, r7_⟩
   replace c8 := Bool.eq_false_iff.mpr c8
   subst c8
   rw [if_neg ff_] at H
   by_cases c10 : 0 < (a0.size : Int)
   rotate_left
   ·rw [if_neg c10] at H
    exact absurd H r34_
   rw [if_pos c10] at H
   have c10b0 := decide_eq_true c10
   have c10b1 : decide (0 < a0.size) = true := decide_eq_true r37_
   clear c10
   by_cases c12 : 1 ≤ (a0.size : Int)
   rotate_left
   ·rw [if_neg c12] at H
    exact absurd H r34_
   rw [if_pos c12] at H
   have c12b0 := eq_true c12
   have c12b1 : decide (1 ≤ (a0.size : Int)) = true := decide_eq_true c12
   clear c12
   replace H := Option.bind_eq_some_iff.mp H
   obtain ⟨⟨t119, t120, t121⟩, A130, H⟩ := H
   try dsimp only at H
   have A13 := Aside0.mk A130
   clear A130
   by_cases c14 : t121 = 0
   rotate_left
   ·rw [if_neg c14] at H
    have c14b0 := beq_eq_false_iff_ne.mpr c14
    have c14b1 := bne_iff_ne.mpr c14
    simp only [Option.some.injEq, Prod.mk.injEq] at H
    obtain ⟨rfl, rfl, rfl, rfl⟩ := H
    have p11 : 0 ≤ (0 : Int) := r37_
    have q11 : 0 < a0.size := (by have : (0 : Int) < (a0.size : Int) := of_decide_eq_true as_; omega)
    have hx11 : ∀ h : 0 < a0.size, ((a0[0]'h).toNat : Int) = bt a0 0 := bt_at a0 0
    clear p11
    have qi11 : (0 < (a0.size : Int)) = True := eq_true (of_decide_eq_true as_)
    replace q11 := eq_true q11
    go_wp2_with (first | ((with_reducible refine gate_dst (N := 4) rfl ?_); refine box_event ?hg (N := 4) ?hd (cs := #[.int .i64 0, .string (⟨#[]⟩ : ByteArray), .int .u64 0]) (t := 61) ?hr ?_; (case hd => rfl); (case hg => rfl); (case hr => first | (go_simp; done) | (go_simp; rfl)); intro gb118 hg w63 hbox hb; have BK118 := Aside0.mk (hbox); have GW118 := Aside0.mk ((by rw [hg]; exact (below_size r7_) : w.heap.size ≤ gb118)); have GE118 := Aside0.mk ((by rw [hg]; exact (below_size r7_) : w.heap.size ≤ gb118)); replace HB := Aside0.mk (below_step r7_ hb); have NB116_118 := Aside0.mk ((by rw [hg]; exact Nat.ne_of_lt (blk_lt (g := gb116) (o := .cells #[.int .i64 0, .string (⟨#[]⟩ : ByteArray), .int .u64 0] 61 (0, 0)) r14_) : gb116 ≠ gb118)); have NB118_116 := Aside0.mk ((by rw [hg]; exact Nat.ne_of_gt (blk_lt (g := gb116) (o := .cells #[.int .i64 0, .string (⟨#[]⟩ : ByteArray), .int .u64 0] 61 (0, 0)) r14_) : gb118 ≠ gb116)); replace BK116 := Aside0.mk (blk_below (g := gb116) (o := .cells #[.int .i64 0, .string (⟨#[]⟩ : ByteArray), .int .u64 0] 61 (0, 0)) r14_ hb); clear hb hbox hg; have hnb64 := NB118_116.out; have hnc64 := NB116_118.out; have hcz65_0 : w63.cell? ⟨gb118, 0, none⟩ = some (.int .i64 0) := (blk_cell BK118.out 0).trans rfl; have hcz65_1 : w63.cell? ⟨gb118, 1, none⟩ = some (.string (⟨#[]⟩ : ByteArray)) := (blk_cell BK118.out 1).trans rfl; have hcz65_2 : w63.cell? ⟨gb118, 2, none⟩ = some (.int .u64 0) := (blk_cell BK118.out 2).trans rfl; have hfz65_0 := blk_frozen BK118.out 0; have hfz65_1 := blk_frozen BK118.out 1; have hfz65_2 := blk_frozen BK118.out 2) | ((with_reducible refine gate_callee (f := 52) rfl ?_); refine goesL_ (some 29) rfl rfl Try.func52 r6_ rfl #[.string (a0.extract 1 a0.size)] rfl hA_ ?_; (with_reducible refine (key_Unescape.calls (a0.extract 1 a0.size) t119 t120 t121 _ A13.out).mono ?_); rintro e w66 ⟨rfl, hb⟩; refine ⟨_, rfl, ?_⟩; replace BK116 := Aside0.mk (blk_below (g := gb116) (o := .cells #[.int .i64 0, .string (⟨#[]⟩ : ByteArray), .int .u64 0] 61 (0, 0)) r9_ hb); replace BK118 := Aside0.mk (blk_below (g := gb118) (o := .cells #[.int .i64 (wrap64 (bt a0 0)), .string (⟨#[]⟩ : ByteArray), .int .u64 0] 61 (0, 0)) r5_ hb); replace HB := Aside0.mk (below_step r8_ hb); clear hb A13; have hcz67_0 : w66.cell? ⟨gb116, 0, none⟩ = some (.int .i64 0) := (blk_cell BK116.out 0).trans rfl; have hcz67_1 : w66.cell? ⟨gb116, 1, none⟩ = some (.string (⟨#[]⟩ : ByteArray)) := (blk_cell BK116.out 1).trans rfl; have hcz67_2 : w66.cell? ⟨gb116, 2, none⟩ = some (.int .u64 0) := (blk_cell BK116.out 2).trans rfl; have hfz67_0 := blk_frozen BK116.out 0; have hfz67_1 := blk_frozen BK116.out 1; have hfz67_2 := blk_frozen BK116.out 2))
    refine bodyPost_ret (results_ct rfl _ _ gb116 61 #[.int .i64 0, .string (⟨#[]⟩ : ByteArray), .int .u64 0] (0, 0) _ rfl r12_ Try.underlying61 rfl r6_) rfl ?_
    exact ⟨rf_, r8_⟩
   rw [if_pos c14] at H
   have c14b0 := beq_iff_eq.mpr c14
   have c14b1 := bne_eq_false_iff_eq.mpr c14
   clear c14
   by_cases c15 : (wrap64 (bt a0 0)) = 1
   ·rw [if_pos c15] at H
    have c15b0 := beq_iff_eq.mpr c15
    have c15b1 := bne_eq_false_iff_eq.mpr c15
    clear c15
    by_cases c16 : t120.toList = ([] : List UInt8)
    rotate_left
    ·rw [if_neg c16] at H
     have c16b0 := beq_eq_false_iff_ne.mpr c16
     have c16b1 := bne_iff_ne.mpr c16
     simp only [Option.some.injEq, Prod.mk.injEq] at H
     obtain ⟨rfl, rfl, rfl, rfl⟩ := H
     have p11 : 0 ≤ (0 : Int) := r37_
     have q11 : 0 < a0.size := (by have : (0 : Int) < (a0.size : Int) := of_decide_eq_true as_; omega)
     have hx11 : ∀ h : 0 < a0.size, ((a0[0]'h).toNat : Int) = bt a0 0 := bt_at a0 0
     clear p11
     have qi11 : (0 < (a0.size : Int)) = True := eq_true (of_decide_eq_true as_)
     replace q11 := eq_true q11
     go_wp2_with (first | ((with_reducible refine gate_dst (N := 4) rfl ?_); refine box_event ?hg (N := 4) ?hd (cs := #[.int .i64 0, .string (⟨#[]⟩ : ByteArray), .int .u64 0]) (t := 61) ?hr ?_; (case hd => rfl); (case hg => rfl); (case hr => first | (go_simp; done) | (go_simp; rfl)); intro gb118 hg w23 hbox hb; have BK118 := Aside0.mk (hbox); have GW118 := Aside0.mk ((by rw [hg]; exact (below_size r7_) : w.heap.size ≤ gb118)); have GE118 := Aside0.mk ((by rw [hg]; exact (below_size r7_) : w.heap.size ≤ gb118)); replace HB := Aside0.mk (below_step r7_ hb); have NB116_118 := Aside0.mk ((by rw [hg]; exact Nat.ne_of_lt (blk_lt (g := gb116) (o := .cells #[.int .i64 0, .string (⟨#[]⟩ : ByteArray), .int .u64 0] 61 (0, 0)) r14_) : gb116 ≠ gb118)); have NB118_116 := Aside0.mk ((by rw [hg]; exact Nat.ne_of_gt (blk_lt (g := gb116) (o := .cells #[.int .i64 0, .string (⟨#[]⟩ : ByteArray), .int .u64 0] 61 (0, 0)) r14_) : gb118 ≠ gb116)); replace BK116 := Aside0.mk (blk_below (g := gb116) (o := .cells #[.int .i64 0, .string (⟨#[]⟩ : ByteArray), .int .u64 0] 61 (0, 0)) r14_ hb); clear hb hbox hg; have hnb24 := NB118_116.out; have hnc24 := NB116_118.out; have hcz25_0 : w23.cell? ⟨gb118, 0, none⟩ = some (.int .i64 0) := (blk_cell BK118.out 0).trans rfl; have hcz25_1 : w23.cell? ⟨gb118, 1, none⟩ = some (.string (⟨#[]⟩ : ByteArray)) := (blk_cell BK118.out 1).trans rfl; have hcz25_2 : w23.cell? ⟨gb118, 2, none⟩ = some (.int .u64 0) := (blk_cell BK118.out 2).trans rfl; have hfz25_0 := blk_frozen BK118.out 0; have hfz25_1 := blk_frozen BK118.out 1; have hfz25_2 := blk_frozen BK118.out 2) | ((with_reducible refine gate_callee (f := 52) rfl ?_); refine goesL_ (some 29) rfl rfl Try.func52 r6_ rfl #[.string (a0.extract 1 a0.size)] rfl hA_ ?_; (with_reducible refine (key_Unescape.calls (a0.extract 1 a0.size) t119 t120 t121 _ A13.out).mono ?_); rintro e w26 ⟨rfl, hb⟩; refine ⟨_, rfl, ?_⟩; replace BK116 := Aside0.mk (blk_below (g := gb116) (o := .cells #[.int .i64 0, .string (⟨#[]⟩ : ByteArray), .int .u64 0] 61 (0, 0)) r9_ hb); replace BK118 := Aside0.mk (blk_below (g := gb118) (o := .cells #[.int .i64 (wrap64 (bt a0 0)), .string (⟨#[]⟩ : ByteArray), .int .u64 0] 61 (0, 0)) r5_ hb); replace HB := Aside0.mk (below_step r8_ hb); clear hb A13; have hcz27_0 : w26.cell? ⟨gb118, 0, none⟩ = some (.int .i64 (wrap64 (bt a0 0))) := (blk_cell BK118.out 0).trans rfl; have hcz27_1 : w26.cell? ⟨gb118, 1, none⟩ = some (.string (⟨#[]⟩ : ByteArray)) := (blk_cell BK118.out 1).trans rfl; have hcz27_2 : w26.cell? ⟨gb118, 2, none⟩ = some (.int .u64 0) := (blk_cell BK118.out 2).trans rfl; have hfz27_0 := blk_frozen BK118.out 0; have hfz27_1 := blk_frozen BK118.out 1; have hfz27_2 := blk_frozen BK118.out 2; have hcz28_0 : w26.cell? ⟨gb116, 0, none⟩ = some (.int .i64 0) := (blk_cell BK116.out 0).trans rfl; have hcz28_1 : w26.cell? ⟨gb116, 1, none⟩ = some (.string (⟨#[]⟩ : ByteArray)) := (blk_cell BK116.out 1).trans rfl; have hcz28_2 : w26.cell? ⟨gb116, 2, none⟩ = some (.int .u64 0) := (blk_cell BK116.out 2).trans rfl; have hfz28_0 := blk_frozen BK116.out 0; have hfz28_1 := blk_frozen BK116.out 1; have hfz28_2 := blk_frozen BK116.out 2))
     refine bodyPost_ret (results_ct rfl _ _ gb116 61 #[.int .i64 0, .string (⟨#[]⟩ : ByteArray), .int .u64 0] (0, 0) _ rfl (by (with_reducible repeat (first | refine blk_drewN ?_ _ | refine blk_drew ?_ | refine blk_alloc ?_ _)); refine blk_put (cs := #[.int .i64 0, .string (⟨#[]⟩ : ByteArray), .int .u64 0]) ?_ 2 _ rfl; (with_reducible repeat (first | refine blk_drewN ?_ _ | refine blk_drew ?_ | refine blk_alloc ?_ _)); refine blk_put (cs := #[.int .i64 0, .string (⟨#[]⟩ : ByteArray), .int .u64 0]) ?_ 1 _ rfl; (with_reducible repeat (first | refine blk_drewN ?_ _ | refine blk_drew ?_ | refine blk_alloc ?_ _)); refine blk_put (cs := #[.int .i64 0, .string (⟨#[]⟩ : ByteArray), .int .u64 0]) ?_ 0 _ rfl; (with_reducible repeat (first | refine blk_drewN ?_ _ | refine blk_drew ?_ | refine blk_alloc ?_ _)); refine blk_far ?_ NB116_118.out _; (with_reducible repeat (first | refine blk_drewN ?_ _ | refine blk_drew ?_ | refine blk_alloc ?_ _)); exact BK116.out) Try.underlying61 rfl r6_) rfl ?_
     exact ⟨rf_, r8_⟩
    rw [if_pos c16] at H
    have c16b0 := beq_iff_eq.mpr c16
    have c16b1 := bne_eq_false_iff_eq.mpr c16
    clear c16
    simp only [Option.some.injEq, Prod.mk.injEq] at H
    obtain ⟨rfl, rfl, rfl, rfl⟩ := H
    have p11 : 0 ≤ (0 : Int) := r37_
    have q11 : 0 < a0.size := (by have : (0 : Int) < (a0.size : Int) := of_decide_eq_true as_; omega)
    have hx11 : ∀ h : 0 < a0.size, ((a0[0]'h).toNat : Int) = bt a0 0 := bt_at a0 0
    clear p11
    have qi11 : (0 < (a0.size : Int)) = True := eq_true (of_decide_eq_true as_)
    replace q11 := eq_true q11
    go_wp2_with (first | ((with_reducible refine gate_dst (N := 4) rfl ?_); refine box_event ?hg (N := 4) ?hd (cs := #[.int .i64 0, .string (⟨#[]⟩ : ByteArray), .int .u64 0]) (t := 61) ?hr ?_; (case hd => rfl); (case hg => rfl); (case hr => first | (go_simp; done) | (go_simp; rfl)); intro gb118 hg w17 hbox hb; have BK118 := Aside0.mk (hbox); have GW118 := Aside0.mk ((by rw [hg]; exact (below_size r7_) : w.heap.size ≤ gb118)); have GE118 := Aside0.mk ((by rw [hg]; exact (below_size r7_) : w.heap.size ≤ gb118)); replace HB := Aside0.mk (below_step r7_ hb); have NB116_118 := Aside0.mk ((by rw [hg]; exact Nat.ne_of_lt (blk_lt (g := gb116) (o := .cells #[.int .i64 0, .string (⟨#[]⟩ : ByteArray), .int .u64 0] 61 (0, 0)) r14_) : gb116 ≠ gb118)); have NB118_116 := Aside0.mk ((by rw [hg]; exact Nat.ne_of_gt (blk_lt (g := gb116) (o := .cells #[.int .i64 0, .string (⟨#[]⟩ : ByteArray), .int .u64 0] 61 (0, 0)) r14_) : gb118 ≠ gb116)); replace BK116 := Aside0.mk (blk_below (g := gb116) (o := .cells #[.int .i64 0, .string (⟨#[]⟩ : ByteArray), .int .u64 0] 61 (0, 0)) r14_ hb); clear hb hbox hg; have hnb18 := NB118_116.out; have hnc18 := NB116_118.out; have hcz19_0 : w17.cell? ⟨gb118, 0, none⟩ = some (.int .i64 0) := (blk_cell BK118.out 0).trans rfl; have hcz19_1 : w17.cell? ⟨gb118, 1, none⟩ = some (.string (⟨#[]⟩ : ByteArray)) := (blk_cell BK118.out 1).trans rfl; have hcz19_2 : w17.cell? ⟨gb118, 2, none⟩ = some (.int .u64 0) := (blk_cell BK118.out 2).trans rfl; have hfz19_0 := blk_frozen BK118.out 0; have hfz19_1 := blk_frozen BK118.out 1; have hfz19_2 := blk_frozen BK118.out 2) | ((with_reducible refine gate_callee (f := 52) rfl ?_); refine goesL_ (some 29) rfl rfl Try.func52 r6_ rfl #[.string (a0.extract 1 a0.size)] rfl hA_ ?_; (with_reducible refine (key_Unescape.calls (a0.extract 1 a0.size) t119 t120 t121 _ A13.out).mono ?_); rintro e w20 ⟨rfl, hb⟩; refine ⟨_, rfl, ?_⟩; replace BK116 := Aside0.mk (blk_below (g := gb116) (o := .cells #[.int .i64 0, .string (⟨#[]⟩ : ByteArray), .int .u64 0] 61 (0, 0)) r9_ hb); replace BK118 := Aside0.mk (blk_below (g := gb118) (o := .cells #[.int .i64 (wrap64 (bt a0 0)), .string (⟨#[]⟩ : ByteArray), .int .u64 0] 61 (0, 0)) r5_ hb); replace HB := Aside0.mk (below_step r8_ hb); clear hb A13; have hcz21_0 : w20.cell? ⟨gb118, 0, none⟩ = some (.int .i64 (wrap64 (bt a0 0))) := (blk_cell BK118.out 0).trans rfl; have hcz21_1 : w20.cell? ⟨gb118, 1, none⟩ = some (.string (⟨#[]⟩ : ByteArray)) := (blk_cell BK118.out 1).trans rfl; have hcz21_2 : w20.cell? ⟨gb118, 2, none⟩ = some (.int .u64 0) := (blk_cell BK118.out 2).trans rfl; have hfz21_0 := blk_frozen BK118.out 0; have hfz21_1 := blk_frozen BK118.out 1; have hfz21_2 := blk_frozen BK118.out 2; have hcz22_0 : w20.cell? ⟨gb116, 0, none⟩ = some (.int .i64 0) := (blk_cell BK116.out 0).trans rfl; have hcz22_1 : w20.cell? ⟨gb116, 1, none⟩ = some (.string (⟨#[]⟩ : ByteArray)) := (blk_cell BK116.out 1).trans rfl; have hcz22_2 : w20.cell? ⟨gb116, 2, none⟩ = some (.int .u64 0) := (blk_cell BK116.out 2).trans rfl; have hfz22_0 := blk_frozen BK116.out 0; have hfz22_1 := blk_frozen BK116.out 1; have hfz22_2 := blk_frozen BK116.out 2))
    refine bodyPost_ret (results_ct rfl _ _ gb116 61 #[.int .i64 (wrap64 (bt a0 0)), .string t119, .int .u64 0] (0, 0) _ rfl (by (with_reducible repeat (first | refine blk_drewN ?_ _ | refine blk_drew ?_ | refine blk_alloc ?_ _)); refine blk_put (cs := #[.int .i64 (wrap64 (bt a0 0)), .string t119, .int .u64 0]) ?_ 2 _ rfl; (with_reducible repeat (first | refine blk_drewN ?_ _ | refine blk_drew ?_ | refine blk_alloc ?_ _)); refine blk_put (cs := #[.int .i64 (wrap64 (bt a0 0)), .string (⟨#[]⟩ : ByteArray), .int .u64 0]) ?_ 1 _ rfl; (with_reducible repeat (first | refine blk_drewN ?_ _ | refine blk_drew ?_ | refine blk_alloc ?_ _)); refine blk_put (cs := #[.int .i64 0, .string (⟨#[]⟩ : ByteArray), .int .u64 0]) ?_ 0 _ rfl; (with_reducible repeat (first | refine blk_drewN ?_ _ | refine blk_drew ?_ | refine blk_alloc ?_ _)); refine blk_far ?_ NB116_118.out _; (with_reducible repeat (first | refine blk_drewN ?_ _ | refine blk_drew ?_ | refine blk_alloc ?_ _)); exact BK116.out) Try.underlying61 rfl r6_) rfl ?_
    exact ⟨rf_, r8_⟩
   rw [if_neg c15] at H
   have c15b0 := beq_eq_false_iff_ne.mpr c15
   have c15b1 := bne_iff_ne.mpr c15
   replace H := Option.bind_eq_some_iff.mp H
   obtain ⟨⟨t122, t123⟩, A290, H⟩ := H
   try dsimp only at H
   have A29 := Aside0.mk A290
   clear A290
   replace H := Option.bind_eq_some_iff.mp H
   obtain ⟨⟨t124, t125⟩, A300, H⟩ := H
   try dsimp only at H
   have A30 := Aside0.mk A300
   clear A300
   by_cases c31 : t123 = true
   rotate_left
   ·replace c31 := Bool.eq_false_iff.mpr c31
    subst c31
    rw [if_neg ff_] at H
    simp only [Option.some.injEq, Prod.mk.injEq] at H
    obtain ⟨rfl, rfl, rfl, rfl⟩ := H
    have p11 : 0 ≤ (0 : Int) := r37_
    have q11 : 0 < a0.size := (by have : (0 : Int) < (a0.size : Int) := of_decide_eq_true as_; omega)
    have hx11 : ∀ h : 0 < a0.size, ((a0[0]'h).toNat : Int) = bt a0 0 := bt_at a0 0
    clear p11
    have qi11 : (0 < (a0.size : Int)) = True := eq_true (of_decide_eq_true as_)
    replace q11 := eq_true q11
    go_wp2_with (first | ((with_reducible refine gate_dst (N := 4) rfl ?_); refine box_event ?hg (N := 4) ?hd (cs := #[.int .i64 0, .string (⟨#[]⟩ : ByteArray), .int .u64 0]) (t := 61) ?hr ?_; (case hd => rfl); (case hg => rfl); (case hr => first | (go_simp; done) | (go_simp; rfl)); intro gb118 hg w56 hbox hb; have BK118 := Aside0.mk (hbox); have GW118 := Aside0.mk ((by rw [hg]; exact (below_size r7_) : w.heap.size ≤ gb118)); have GE118 := Aside0.mk ((by rw [hg]; exact (below_size r7_) : w.heap.size ≤ gb118)); replace HB := Aside0.mk (below_step r7_ hb); have NB116_118 := Aside0.mk ((by rw [hg]; exact Nat.ne_of_lt (blk_lt (g := gb116) (o := .cells #[.int .i64 0, .string (⟨#[]⟩ : ByteArray), .int .u64 0] 61 (0, 0)) r14_) : gb116 ≠ gb118)); have NB118_116 := Aside0.mk ((by rw [hg]; exact Nat.ne_of_gt (blk_lt (g := gb116) (o := .cells #[.int .i64 0, .string (⟨#[]⟩ : ByteArray), .int .u64 0] 61 (0, 0)) r14_) : gb118 ≠ gb116)); replace BK116 := Aside0.mk (blk_below (g := gb116) (o := .cells #[.int .i64 0, .string (⟨#[]⟩ : ByteArray), .int .u64 0] 61 (0, 0)) r14_ hb); clear hb hbox hg; have hnb57 := NB118_116.out; have hnc57 := NB116_118.out; have hcz58_0 : w56.cell? ⟨gb118, 0, none⟩ = some (.int .i64 0) := (blk_cell BK118.out 0).trans rfl; have hcz58_1 : w56.cell? ⟨gb118, 1, none⟩ = some (.string (⟨#[]⟩ : ByteArray)) := (blk_cell BK118.out 1).trans rfl; have hcz58_2 : w56.cell? ⟨gb118, 2, none⟩ = some (.int .u64 0) := (blk_cell BK118.out 2).trans rfl; have hfz58_0 := blk_frozen BK118.out 0; have hfz58_1 := blk_frozen BK118.out 1; have hfz58_2 := blk_frozen BK118.out 2) | ((with_reducible refine gate_callee (f := 52) rfl ?_); refine goesL_ (some 29) rfl rfl Try.func52 r6_ rfl #[.string (a0.extract 1 a0.size)] rfl hA_ ?_; (with_reducible refine (key_Unescape.calls (a0.extract 1 a0.size) t119 t120 t121 _ A13.out).mono ?_); rintro e w59 ⟨rfl, hb⟩; refine ⟨_, rfl, ?_⟩; replace BK116 := Aside0.mk (blk_below (g := gb116) (o := .cells #[.int .i64 0, .string (⟨#[]⟩ : ByteArray), .int .u64 0] 61 (0, 0)) r9_ hb); replace BK118 := Aside0.mk (blk_below (g := gb118) (o := .cells #[.int .i64 (wrap64 (bt a0 0)), .string (⟨#[]⟩ : ByteArray), .int .u64 0] 61 (0, 0)) r5_ hb); replace HB := Aside0.mk (below_step r8_ hb); clear hb A13; have hcz60_0 : w59.cell? ⟨gb118, 0, none⟩ = some (.int .i64 (wrap64 (bt a0 0))) := (blk_cell BK118.out 0).trans rfl; have hcz60_1 : w59.cell? ⟨gb118, 1, none⟩ = some (.string (⟨#[]⟩ : ByteArray)) := (blk_cell BK118.out 1).trans rfl; have hcz60_2 : w59.cell? ⟨gb118, 2, none⟩ = some (.int .u64 0) := (blk_cell BK118.out 2).trans rfl; have hfz60_0 := blk_frozen BK118.out 0; have hfz60_1 := blk_frozen BK118.out 1; have hfz60_2 := blk_frozen BK118.out 2) | ((with_reducible refine gate_callee (f := 53) rfl ?_); refine goesL_ (some 48) rfl rfl Try.func53 r6_ rfl #[.string t120] rfl hA_ ?_; (with_reducible refine (num_Unfall.calls kj1 t120 t122 false _ A29.out).mono ?_); rintro e w' ⟨rfl, ⟨nd, rfl⟩⟩; refine ⟨_, rfl, ?_⟩) | ((with_reducible refine gate_callee (f := 54) rfl ?_); refine goesL_ (some 55) rfl rfl Try.func54 r6_ rfl #[.agg #[.int .i64 (wrap64 (bt a0 0)), .string t119, .int .u64 t122]] rfl hA_ ?_; (with_reducible refine (key_Make.calls kj1 (wrap64 (bt a0 0)) t119 t122 t124 t125 _ A30.out).mono ?_); rintro e w61 ⟨rfl, hb⟩; refine ⟨_, rfl, ?_⟩; replace BK116 := Aside0.mk (blk_below (g := gb116) (o := .cells #[.int .i64 0, .string (⟨#[]⟩ : ByteArray), .int .u64 0] 61 (0, 0)) r28_ hb); replace BK118 := Aside0.mk (blk_below (g := gb118) (o := .cells #[.int .i64 (wrap64 (bt a0 0)), .string t119, .int .u64 t122] 61 (0, 0)) r20_ hb); replace HB := Aside0.mk (below_step r8_ hb); clear hb A30; have hcz62_0 : w61.cell? ⟨gb116, 0, none⟩ = some (.int .i64 0) := (blk_cell BK116.out 0).trans rfl; have hcz62_1 : w61.cell? ⟨gb116, 1, none⟩ = some (.string (⟨#[]⟩ : ByteArray)) := (blk_cell BK116.out 1).trans rfl; have hcz62_2 : w61.cell? ⟨gb116, 2, none⟩ = some (.int .u64 0) := (blk_cell BK116.out 2).trans rfl; have hfz62_0 := blk_frozen BK116.out 0; have hfz62_1 := blk_frozen BK116.out 1; have hfz62_2 := blk_frozen BK116.out 2))
    refine bodyPost_ret (results_ct rfl _ _ gb116 61 #[.int .i64 0, .string (⟨#[]⟩ : ByteArray), .int .u64 0] (0, 0) _ rfl r12_ Try.underlying61 rfl r6_) rfl ?_
    exact ⟨rf_, r8_⟩
   subst c31
   rw [if_pos rfl] at H
   by_cases c32 : t125 = 0
   rotate_left
   ·rw [if_neg c32] at H
    have c32b0 := beq_eq_false_iff_ne.mpr c32
    have c32b1 := bne_iff_ne.mpr c32
    simp only [Option.some.injEq, Prod.mk.injEq] at H
    obtain ⟨rfl, rfl, rfl, rfl⟩ := H
    have p11 : 0 ≤ (0 : Int) := r37_
    have q11 : 0 < a0.size := (by have : (0 : Int) < (a0.size : Int) := of_decide_eq_true as_; omega)
    have hx11 : ∀ h : 0 < a0.size, ((a0[0]'h).toNat : Int) = bt a0 0 := bt_at a0 0
    clear p11
    have qi11 : (0 < (a0.size : Int)) = True := eq_true (of_decide_eq_true as_)
    replace q11 := eq_true q11
    go_wp2_with (first | ((with_reducible refine gate_dst (N := 4) rfl ?_); refine box_event ?hg (N := 4) ?hd (cs := #[.int .i64 0, .string (⟨#[]⟩ : ByteArray), .int .u64 0]) (t := 61) ?hr ?_; (case hd => rfl); (case hg => rfl); (case hr => first | (go_simp; done) | (go_simp; rfl)); intro gb118 hg w49 hbox hb; have BK118 := Aside0.mk (hbox); have GW118 := Aside0.mk ((by rw [hg]; exact (below_size r7_) : w.heap.size ≤ gb118)); have GE118 := Aside0.mk ((by rw [hg]; exact (below_size r7_) : w.heap.size ≤ gb118)); replace HB := Aside0.mk (below_step r7_ hb); have NB116_118 := Aside0.mk ((by rw [hg]; exact Nat.ne_of_lt (blk_lt (g := gb116) (o := .cells #[.int .i64 0, .string (⟨#[]⟩ : ByteArray), .int .u64 0] 61 (0, 0)) r14_) : gb116 ≠ gb118)); have NB118_116 := Aside0.mk ((by rw [hg]; exact Nat.ne_of_gt (blk_lt (g := gb116) (o := .cells #[.int .i64 0, .string (⟨#[]⟩ : ByteArray), .int .u64 0] 61 (0, 0)) r14_) : gb118 ≠ gb116)); replace BK116 := Aside0.mk (blk_below (g := gb116) (o := .cells #[.int .i64 0, .string (⟨#[]⟩ : ByteArray), .int .u64 0] 61 (0, 0)) r14_ hb); clear hb hbox hg; have hnb50 := NB118_116.out; have hnc50 := NB116_118.out; have hcz51_0 : w49.cell? ⟨gb118, 0, none⟩ = some (.int .i64 0) := (blk_cell BK118.out 0).trans rfl; have hcz51_1 : w49.cell? ⟨gb118, 1, none⟩ = some (.string (⟨#[]⟩ : ByteArray)) := (blk_cell BK118.out 1).trans rfl; have hcz51_2 : w49.cell? ⟨gb118, 2, none⟩ = some (.int .u64 0) := (blk_cell BK118.out 2).trans rfl; have hfz51_0 := blk_frozen BK118.out 0; have hfz51_1 := blk_frozen BK118.out 1; have hfz51_2 := blk_frozen BK118.out 2) | ((with_reducible refine gate_callee (f := 52) rfl ?_); refine goesL_ (some 29) rfl rfl Try.func52 r6_ rfl #[.string (a0.extract 1 a0.size)] rfl hA_ ?_; (with_reducible refine (key_Unescape.calls (a0.extract 1 a0.size) t119 t120 t121 _ A13.out).mono ?_); rintro e w52 ⟨rfl, hb⟩; refine ⟨_, rfl, ?_⟩; replace BK116 := Aside0.mk (blk_below (g := gb116) (o := .cells #[.int .i64 0, .string (⟨#[]⟩ : ByteArray), .int .u64 0] 61 (0, 0)) r9_ hb); replace BK118 := Aside0.mk (blk_below (g := gb118) (o := .cells #[.int .i64 (wrap64 (bt a0 0)), .string (⟨#[]⟩ : ByteArray), .int .u64 0] 61 (0, 0)) r5_ hb); replace HB := Aside0.mk (below_step r8_ hb); clear hb A13; have hcz53_0 : w52.cell? ⟨gb118, 0, none⟩ = some (.int .i64 (wrap64 (bt a0 0))) := (blk_cell BK118.out 0).trans rfl; have hcz53_1 : w52.cell? ⟨gb118, 1, none⟩ = some (.string (⟨#[]⟩ : ByteArray)) := (blk_cell BK118.out 1).trans rfl; have hcz53_2 : w52.cell? ⟨gb118, 2, none⟩ = some (.int .u64 0) := (blk_cell BK118.out 2).trans rfl; have hfz53_0 := blk_frozen BK118.out 0; have hfz53_1 := blk_frozen BK118.out 1; have hfz53_2 := blk_frozen BK118.out 2) | ((with_reducible refine gate_callee (f := 53) rfl ?_); refine goesL_ (some 48) rfl rfl Try.func53 r6_ rfl #[.string t120] rfl hA_ ?_; (with_reducible refine (num_Unfall.calls kj1 t120 t122 true _ A29.out).mono ?_); rintro e w' ⟨rfl, ⟨nd, rfl⟩⟩; refine ⟨_, rfl, ?_⟩) | ((with_reducible refine gate_callee (f := 54) rfl ?_); refine goesL_ (some 55) rfl rfl Try.func54 r6_ rfl #[.agg #[.int .i64 (wrap64 (bt a0 0)), .string t119, .int .u64 t122]] rfl hA_ ?_; (with_reducible refine (key_Make.calls kj1 (wrap64 (bt a0 0)) t119 t122 t124 t125 _ A30.out).mono ?_); rintro e w54 ⟨rfl, hb⟩; refine ⟨_, rfl, ?_⟩; replace BK116 := Aside0.mk (blk_below (g := gb116) (o := .cells #[.int .i64 0, .string (⟨#[]⟩ : ByteArray), .int .u64 0] 61 (0, 0)) r28_ hb); replace BK118 := Aside0.mk (blk_below (g := gb118) (o := .cells #[.int .i64 (wrap64 (bt a0 0)), .string t119, .int .u64 t122] 61 (0, 0)) r20_ hb); replace HB := Aside0.mk (below_step r8_ hb); clear hb A30; have hcz55_0 : w54.cell? ⟨gb116, 0, none⟩ = some (.int .i64 0) := (blk_cell BK116.out 0).trans rfl; have hcz55_1 : w54.cell? ⟨gb116, 1, none⟩ = some (.string (⟨#[]⟩ : ByteArray)) := (blk_cell BK116.out 1).trans rfl; have hcz55_2 : w54.cell? ⟨gb116, 2, none⟩ = some (.int .u64 0) := (blk_cell BK116.out 2).trans rfl; have hfz55_0 := blk_frozen BK116.out 0; have hfz55_1 := blk_frozen BK116.out 1; have hfz55_2 := blk_frozen BK116.out 2))
    refine bodyPost_ret (results_ct rfl _ _ gb116 61 #[.int .i64 0, .string (⟨#[]⟩ : ByteArray), .int .u64 0] (0, 0) _ rfl r12_ Try.underlying61 rfl r6_) rfl ?_
    exact ⟨rf_, r8_⟩
   rw [if_pos c32] at H
   have c32b0 := beq_iff_eq.mpr c32
   have c32b1 := bne_eq_false_iff_eq.mpr c32
   clear c32
   by_cases c33 : t124.toList = a0.toList
   rotate_left
   ·rw [if_neg c33] at H
    have c33b0 := beq_eq_false_iff_ne.mpr c33
    have c33b1 := bne_iff_ne.mpr c33
    simp only [Option.some.injEq, Prod.mk.injEq] at H
    obtain ⟨rfl, rfl, rfl, rfl⟩ := H
    have p11 : 0 ≤ (0 : Int) := r37_
    have q11 : 0 < a0.size := (by have : (0 : Int) < (a0.size : Int) := of_decide_eq_true as_; omega)
    have hx11 : ∀ h : 0 < a0.size, ((a0[0]'h).toNat : Int) = bt a0 0 := bt_at a0 0
    clear p11
    have qi11 : (0 < (a0.size : Int)) = True := eq_true (of_decide_eq_true as_)
    replace q11 := eq_true q11
    go_wp2_with (first | ((with_reducible refine gate_dst (N := 4) rfl ?_); refine box_event ?hg (N := 4) ?hd (cs := #[.int .i64 0, .string (⟨#[]⟩ : ByteArray), .int .u64 0]) (t := 61) ?hr ?_; (case hd => rfl); (case hg => rfl); (case hr => first | (go_simp; done) | (go_simp; rfl)); intro gb118 hg w42 hbox hb; have BK118 := Aside0.mk (hbox); have GW118 := Aside0.mk ((by rw [hg]; exact (below_size r7_) : w.heap.size ≤ gb118)); have GE118 := Aside0.mk ((by rw [hg]; exact (below_size r7_) : w.heap.size ≤ gb118)); replace HB := Aside0.mk (below_step r7_ hb); have NB116_118 := Aside0.mk ((by rw [hg]; exact Nat.ne_of_lt (blk_lt (g := gb116) (o := .cells #[.int .i64 0, .string (⟨#[]⟩ : ByteArray), .int .u64 0] 61 (0, 0)) r14_) : gb116 ≠ gb118)); have NB118_116 := Aside0.mk ((by rw [hg]; exact Nat.ne_of_gt (blk_lt (g := gb116) (o := .cells #[.int .i64 0, .string (⟨#[]⟩ : ByteArray), .int .u64 0] 61 (0, 0)) r14_) : gb118 ≠ gb116)); replace BK116 := Aside0.mk (blk_below (g := gb116) (o := .cells #[.int .i64 0, .string (⟨#[]⟩ : ByteArray), .int .u64 0] 61 (0, 0)) r14_ hb); clear hb hbox hg; have hnb43 := NB118_116.out; have hnc43 := NB116_118.out; have hcz44_0 : w42.cell? ⟨gb118, 0, none⟩ = some (.int .i64 0) := (blk_cell BK118.out 0).trans rfl; have hcz44_1 : w42.cell? ⟨gb118, 1, none⟩ = some (.string (⟨#[]⟩ : ByteArray)) := (blk_cell BK118.out 1).trans rfl; have hcz44_2 : w42.cell? ⟨gb118, 2, none⟩ = some (.int .u64 0) := (blk_cell BK118.out 2).trans rfl; have hfz44_0 := blk_frozen BK118.out 0; have hfz44_1 := blk_frozen BK118.out 1; have hfz44_2 := blk_frozen BK118.out 2) | ((with_reducible refine gate_callee (f := 52) rfl ?_); refine goesL_ (some 29) rfl rfl Try.func52 r6_ rfl #[.string (a0.extract 1 a0.size)] rfl hA_ ?_; (with_reducible refine (key_Unescape.calls (a0.extract 1 a0.size) t119 t120 t121 _ A13.out).mono ?_); rintro e w45 ⟨rfl, hb⟩; refine ⟨_, rfl, ?_⟩; replace BK116 := Aside0.mk (blk_below (g := gb116) (o := .cells #[.int .i64 0, .string (⟨#[]⟩ : ByteArray), .int .u64 0] 61 (0, 0)) r9_ hb); replace BK118 := Aside0.mk (blk_below (g := gb118) (o := .cells #[.int .i64 (wrap64 (bt a0 0)), .string (⟨#[]⟩ : ByteArray), .int .u64 0] 61 (0, 0)) r5_ hb); replace HB := Aside0.mk (below_step r8_ hb); clear hb A13; have hcz46_0 : w45.cell? ⟨gb118, 0, none⟩ = some (.int .i64 (wrap64 (bt a0 0))) := (blk_cell BK118.out 0).trans rfl; have hcz46_1 : w45.cell? ⟨gb118, 1, none⟩ = some (.string (⟨#[]⟩ : ByteArray)) := (blk_cell BK118.out 1).trans rfl; have hcz46_2 : w45.cell? ⟨gb118, 2, none⟩ = some (.int .u64 0) := (blk_cell BK118.out 2).trans rfl; have hfz46_0 := blk_frozen BK118.out 0; have hfz46_1 := blk_frozen BK118.out 1; have hfz46_2 := blk_frozen BK118.out 2) | ((with_reducible refine gate_callee (f := 53) rfl ?_); refine goesL_ (some 48) rfl rfl Try.func53 r6_ rfl #[.string t120] rfl hA_ ?_; (with_reducible refine (num_Unfall.calls kj1 t120 t122 true _ A29.out).mono ?_); rintro e w' ⟨rfl, ⟨nd, rfl⟩⟩; refine ⟨_, rfl, ?_⟩) | ((with_reducible refine gate_callee (f := 54) rfl ?_); refine goesL_ (some 55) rfl rfl Try.func54 r6_ rfl #[.agg #[.int .i64 (wrap64 (bt a0 0)), .string t119, .int .u64 t122]] rfl hA_ ?_; (with_reducible refine (key_Make.calls kj1 (wrap64 (bt a0 0)) t119 t122 t124 t125 _ A30.out).mono ?_); rintro e w47 ⟨rfl, hb⟩; refine ⟨_, rfl, ?_⟩; replace BK116 := Aside0.mk (blk_below (g := gb116) (o := .cells #[.int .i64 0, .string (⟨#[]⟩ : ByteArray), .int .u64 0] 61 (0, 0)) r28_ hb); replace BK118 := Aside0.mk (blk_below (g := gb118) (o := .cells #[.int .i64 (wrap64 (bt a0 0)), .string t119, .int .u64 t122] 61 (0, 0)) r20_ hb); replace HB := Aside0.mk (below_step r8_ hb); clear hb A30; have hcz48_0 : w47.cell? ⟨gb116, 0, none⟩ = some (.int .i64 0) := (blk_cell BK116.out 0).trans rfl; have hcz48_1 : w47.cell? ⟨gb116, 1, none⟩ = some (.string (⟨#[]⟩ : ByteArray)) := (blk_cell BK116.out 1).trans rfl; have hcz48_2 : w47.cell? ⟨gb116, 2, none⟩ = some (.int .u64 0) := (blk_cell BK116.out 2).trans rfl; have hfz48_0 := blk_frozen BK116.out 0; have hfz48_1 := blk_frozen BK116.out 1; have hfz48_2 := blk_frozen BK116.out 2))
    refine bodyPost_ret (results_ct rfl _ _ gb116 61 #[.int .i64 0, .string (⟨#[]⟩ : ByteArray), .int .u64 0] (0, 0) _ rfl r12_ Try.underlying61 rfl r6_) rfl ?_
    exact ⟨rf_, r8_⟩
   rw [if_pos c33] at H
   have c33b0 := beq_iff_eq.mpr c33
   have c33b1 := bne_eq_false_iff_eq.mpr c33
   clear c33
   simp only [Option.some.injEq, Prod.mk.injEq] at H
   obtain ⟨rfl, rfl, rfl, rfl⟩ := H
   have p11 : 0 ≤ (0 : Int) := r37_
   have q11 : 0 < a0.size := (by have : (0 : Int) < (a0.size : Int) := of_decide_eq_true as_; omega)
   have hx11 : ∀ h : 0 < a0.size, ((a0[0]'h).toNat : Int) = bt a0 0 := bt_at a0 0
   clear p11
   have qi11 : (0 < (a0.size : Int)) = True := eq_true (of_decide_eq_true as_)
   replace q11 := eq_true q11
   go_wp2_with (first | ((with_reducible refine gate_dst (N := 4) rfl ?_); refine box_event ?hg (N := 4) ?hd (cs := #[.int .i64 0, .string (⟨#[]⟩ : ByteArray), .int .u64 0]) (t := 61) ?hr ?_; (case hd => rfl); (case hg => rfl); (case hr => first | (go_simp; done) | (go_simp; rfl)); intro gb118 hg w34 hbox hb; have BK118 := Aside0.mk (hbox); have GW118 := Aside0.mk ((by rw [hg]; exact (below_size r7_) : w.heap.size ≤ gb118)); have GE118 := Aside0.mk ((by rw [hg]; exact (below_size r7_) : w.heap.size ≤ gb118)); replace HB := Aside0.mk (below_step r7_ hb); have NB116_118 := Aside0.mk ((by rw [hg]; exact Nat.ne_of_lt (blk_lt (g := gb116) (o := .cells #[.int .i64 0, .string (⟨#[]⟩ : ByteArray), .int .u64 0] 61 (0, 0)) r14_) : gb116 ≠ gb118)); have NB118_116 := Aside0.mk ((by rw [hg]; exact Nat.ne_of_gt (blk_lt (g := gb116) (o := .cells #[.int .i64 0, .string (⟨#[]⟩ : ByteArray), .int .u64 0] 61 (0, 0)) r14_) : gb118 ≠ gb116)); replace BK116 := Aside0.mk (blk_below (g := gb116) (o := .cells #[.int .i64 0, .string (⟨#[]⟩ : ByteArray), .int .u64 0] 61 (0, 0)) r14_ hb); clear hb hbox hg; have hnb35 := NB118_116.out; have hnc35 := NB116_118.out; have hcz36_0 : w34.cell? ⟨gb118, 0, none⟩ = some (.int .i64 0) := (blk_cell BK118.out 0).trans rfl; have hcz36_1 : w34.cell? ⟨gb118, 1, none⟩ = some (.string (⟨#[]⟩ : ByteArray)) := (blk_cell BK118.out 1).trans rfl; have hcz36_2 : w34.cell? ⟨gb118, 2, none⟩ = some (.int .u64 0) := (blk_cell BK118.out 2).trans rfl; have hfz36_0 := blk_frozen BK118.out 0; have hfz36_1 := blk_frozen BK118.out 1; have hfz36_2 := blk_frozen BK118.out 2) | ((with_reducible refine gate_callee (f := 52) rfl ?_); refine goesL_ (some 29) rfl rfl Try.func52 r6_ rfl #[.string (a0.extract 1 a0.size)] rfl hA_ ?_; (with_reducible refine (key_Unescape.calls (a0.extract 1 a0.size) t119 t120 t121 _ A13.out).mono ?_); rintro e w37 ⟨rfl, hb⟩; refine ⟨_, rfl, ?_⟩; replace BK116 := Aside0.mk (blk_below (g := gb116) (o := .cells #[.int .i64 0, .string (⟨#[]⟩ : ByteArray), .int .u64 0] 61 (0, 0)) r9_ hb); replace BK118 := Aside0.mk (blk_below (g := gb118) (o := .cells #[.int .i64 (wrap64 (bt a0 0)), .string (⟨#[]⟩ : ByteArray), .int .u64 0] 61 (0, 0)) r5_ hb); replace HB := Aside0.mk (below_step r8_ hb); clear hb A13; have hcz38_0 : w37.cell? ⟨gb118, 0, none⟩ = some (.int .i64 (wrap64 (bt a0 0))) := (blk_cell BK118.out 0).trans rfl; have hcz38_1 : w37.cell? ⟨gb118, 1, none⟩ = some (.string (⟨#[]⟩ : ByteArray)) := (blk_cell BK118.out 1).trans rfl; have hcz38_2 : w37.cell? ⟨gb118, 2, none⟩ = some (.int .u64 0) := (blk_cell BK118.out 2).trans rfl; have hfz38_0 := blk_frozen BK118.out 0; have hfz38_1 := blk_frozen BK118.out 1; have hfz38_2 := blk_frozen BK118.out 2) | ((with_reducible refine gate_callee (f := 53) rfl ?_); refine goesL_ (some 48) rfl rfl Try.func53 r6_ rfl #[.string t120] rfl hA_ ?_; (with_reducible refine (num_Unfall.calls kj1 t120 t122 true _ A29.out).mono ?_); rintro e w' ⟨rfl, ⟨nd, rfl⟩⟩; refine ⟨_, rfl, ?_⟩) | ((with_reducible refine gate_callee (f := 54) rfl ?_); refine goesL_ (some 55) rfl rfl Try.func54 r6_ rfl #[.agg #[.int .i64 (wrap64 (bt a0 0)), .string t119, .int .u64 t122]] rfl hA_ ?_; (with_reducible refine (key_Make.calls kj1 (wrap64 (bt a0 0)) t119 t122 t124 t125 _ A30.out).mono ?_); rintro e w39 ⟨rfl, hb⟩; refine ⟨_, rfl, ?_⟩; replace BK116 := Aside0.mk (blk_below (g := gb116) (o := .cells #[.int .i64 0, .string (⟨#[]⟩ : ByteArray), .int .u64 0] 61 (0, 0)) r28_ hb); replace BK118 := Aside0.mk (blk_below (g := gb118) (o := .cells #[.int .i64 (wrap64 (bt a0 0)), .string t119, .int .u64 t122] 61 (0, 0)) r20_ hb); replace HB := Aside0.mk (below_step r8_ hb); clear hb A30; have hcz40_0 : w39.cell? ⟨gb118, 0, none⟩ = some (.int .i64 (wrap64 (bt a0 0))) := (blk_cell BK118.out 0).trans rfl; have hcz40_1 : w39.cell? ⟨gb118, 1, none⟩ = some (.string t119) := (blk_cell BK118.out 1).trans rfl; have hcz40_2 : w39.cell? ⟨gb118, 2, none⟩ = some (.int .u64 t122) := (blk_cell BK118.out 2).trans rfl; have hfz40_0 := blk_frozen BK118.out 0; have hfz40_1 := blk_frozen BK118.out 1; have hfz40_2 := blk_frozen BK118.out 2; have hcz41_0 : w39.cell? ⟨gb116, 0, none⟩ = some (.int .i64 0) := (blk_cell BK116.out 0).trans rfl; have hcz41_1 : w39.cell? ⟨gb116, 1, none⟩ = some (.string (⟨#[]⟩ : ByteArray)) := (blk_cell BK116.out 1).trans rfl; have hcz41_2 : w39.cell? ⟨gb116, 2, none⟩ = some (.int .u64 0) := (blk_cell BK116.out 2).trans rfl; have hfz41_0 := blk_frozen BK116.out 0; have hfz41_1 := blk_frozen BK116.out 1; have hfz41_2 := blk_frozen BK116.out 2))
   refine bodyPost_ret (results_ct rfl _ _ gb116 61 #[.int .i64 (wrap64 (bt a0 0)), .string t119, .int .u64 t122] (0, 0) _ rfl (by (with_reducible repeat (first | refine blk_drewN ?_ _ | refine blk_drew ?_ | refine blk_alloc ?_ _)); refine blk_put (cs := #[.int .i64 (wrap64 (bt a0 0)), .string t119, .int .u64 0]) ?_ 2 _ rfl; (with_reducible repeat (first | refine blk_drewN ?_ _ | refine blk_drew ?_ | refine blk_alloc ?_ _)); refine blk_put (cs := #[.int .i64 (wrap64 (bt a0 0)), .string (⟨#[]⟩ : ByteArray), .int .u64 0]) ?_ 1 _ rfl; (with_reducible repeat (first | refine blk_drewN ?_ _ | refine blk_drew ?_ | refine blk_alloc ?_ _)); refine blk_put (cs := #[.int .i64 0, .string (⟨#[]⟩ : ByteArray), .int .u64 0]) ?_ 0 _ rfl; (with_reducible repeat (first | refine blk_drewN ?_ _ | refine blk_drew ?_ | refine blk_alloc ?_ _)); exact BK116.out) Try.underlying61 rfl r6_) rfl ?_
   exact ⟨rf_, r8_⟩

/-! ### num_Take: function 69 -/
mutual
def num_Take.l0 : Nat → ByteArray → Int → Int → Int → Option (Int × ByteArray × Bool)
 | 0, _, _, _, _ => none
 | k + 1, x0, x5, x11, x12 => if x12 < x11 then (if 0 ≤ x12 then (if x12 < (x0.size : Int) then (if (wrap64 (7 * x12)) ≥ 64 then (num_Take.j1 k x0 x5 x12 (IntKind.u64.wrap (bt x0 x12)) (wrap64 (7 * x12)) (Go.bits .andNot .u64 (IntKind.u64.wrap (bt x0 x12)) 128) x11 x12 true) else (if 0 ≤ (wrap64 (7 * x12)) then (num_Take.j1 k x0 x5 x12 (IntKind.u64.wrap (bt x0 x12)) (wrap64 (7 * x12)) (Go.bits .andNot .u64 (IntKind.u64.wrap (bt x0 x12)) 128) x11 x12 ((shr .u64 (shl .u64 (Go.bits .andNot .u64 (IntKind.u64.wrap (bt x0 x12)) 128) (wrap64 (7 * x12))) (wrap64 (7 * x12))) != (Go.bits .andNot .u64 (IntKind.u64.wrap (bt x0 x12)) 128))) else (none))) else (none)) else (none)) else (some (0, (⟨#[]⟩ : ByteArray), false))
def num_Take.j1 : Nat → ByteArray → Int → Int → Int → Int → Int → Int → Int → Bool → Option (Int × ByteArray × Bool)
 | 0, _, _, _, _, _, _, _, _, _ => none
 | k + 1, x0, x5, x6, x7, x8, x9, x11, x12, x33 => if x33 = true then (some (0, (⟨#[]⟩ : ByteArray), false)) else (if 0 ≤ x8 then (if x7 < 128 then (if x7 = 0 then (if x6 > 0 then (some (0, (⟨#[]⟩ : ByteArray), false)) else (if 0 ≤ (wrap64 (x6 + 1)) then (if (wrap64 (x6 + 1)) ≤ (x0.size : Int) then (some (Go.bits .or .u64 x5 (shl .u64 x9 x8), x0.extract ((wrap64 (x6 + 1)) : Int).toNat x0.size, true)) else (none)) else (none))) else (if 0 ≤ (wrap64 (x6 + 1)) then (if (wrap64 (x6 + 1)) ≤ (x0.size : Int) then (some (Go.bits .or .u64 x5 (shl .u64 x9 x8), x0.extract ((wrap64 (x6 + 1)) : Int).toNat x0.size, true)) else (none)) else (none))) else (num_Take.l0 k x0 (Go.bits .or .u64 x5 (shl .u64 x9 x8)) x11 (wrap64 (x12 + 1)))) else (none))
end
def num_Take.f (k : Nat) (a0 : ByteArray) : Option (Int × ByteArray × Bool) := num_Take.l0 k a0 0 (a0.size : Int) 0
theorem num_Take.mono_l : ∀ k, (∀ y0 y1 y2 y3, LeO (num_Take.l0 k y0 y1 y2 y3) (num_Take.l0 (k + 1) y0 y1 y2 y3)) ∧ (∀ y0 y1 y2 y3 y4 y5 y6 y7 y8, LeO (num_Take.j1 k y0 y1 y2 y3 y4 y5 y6 y7 y8) (num_Take.j1 (k + 1) y0 y1 y2 y3 y4 y5 y6 y7 y8))
 | 0 => ⟨fun _ _ _ _ r h => by simp [num_Take.l0] at h, fun _ _ _ _ _ _ _ _ _ r h => by simp [num_Take.j1] at h⟩
 | k + 1 => by
  obtain ⟨ih0, ih1⟩ := num_Take.mono_l k
  refine ⟨?_, ?_⟩
  ·intro y0 y1 y2 y3
   unfold num_Take.l0
   repeat' first
   | (with_reducible exact ih0 _ _ _ _)
   | (with_reducible exact ih1 _ _ _ _ _ _ _ _ _)
   | (with_reducible exact LeO.refl _)
   | (with_reducible exact LeO.none _)
   | (with_reducible refine LeO.ite ?_ ?_)
   | (with_reducible refine LeO.bind ?_ (fun _ => ?_))
   | exact ih0 _ _ _ _
   | exact ih1 _ _ _ _ _ _ _ _ _
   | exact LeO.none _
   | refine LeO.ite ?_ ?_
   | refine LeO.bind ?_ (fun _ => ?_)
  ·intro y0 y1 y2 y3 y4 y5 y6 y7 y8
   unfold num_Take.j1
   repeat' first
   | (with_reducible exact ih0 _ _ _ _)
   | (with_reducible exact ih1 _ _ _ _ _ _ _ _ _)
   | (with_reducible exact LeO.refl _)
   | (with_reducible exact LeO.none _)
   | (with_reducible refine LeO.ite ?_ ?_)
   | (with_reducible refine LeO.bind ?_ (fun _ => ?_))
   | exact ih0 _ _ _ _
   | exact ih1 _ _ _ _ _ _ _ _ _
   | exact LeO.none _
   | refine LeO.ite ?_ ?_
   | refine LeO.bind ?_ (fun _ => ?_)
theorem num_Take.mono : ∀ a0 k, LeO (num_Take.f k a0) (num_Take.f (k + 1) a0) := by
 intro a0 k
 obtain ⟨ih0, ih1⟩ := num_Take.mono_l k
 unfold num_Take.f
 repeat' first
   | (with_reducible exact ih0 _ _ _ _)
   | (with_reducible exact ih1 _ _ _ _ _ _ _ _ _)
   | (with_reducible exact LeO.refl _)
   | (with_reducible exact LeO.none _)
   | (with_reducible refine LeO.ite ?_ ?_)
   | (with_reducible refine LeO.bind ?_ (fun _ => ?_))
   | exact ih0 _ _ _ _
   | exact ih1 _ _ _ _ _ _ _ _ _
   | exact LeO.none _
   | refine LeO.ite ?_ ?_
   | refine LeO.bind ?_ (fun _ => ?_)
set_option maxHeartbeats 8000000 in
set_option maxRecDepth 100000 in
theorem num_Take.calls (k : Nat) (a0 : ByteArray) (r1 : Int) (r2 : ByteArray) (r3 : Bool) (w : World) (h : num_Take.f k a0 = some (r1, r2, r3)) :
  Calls Try.prog 69 #[.string a0] w fun e w' => e = .returned (.tuple #[.int .u64 r1, .string r2, .bool r3]) ∧ Drawn0 w w' := by
 have H : (num_Take.l0 k a0 0 (a0.size : Int) 0) = some (r1, r2, r3) := h
 clear h
 have H' := Aside0.mk H
 clear H
 go_enter Try.func69, Try.ntmps69
 go_wp2
 repeat (go_quiet (fail); try go_wp2)
 go_loopg [5, 12] k (fun kq v5 v12 w' => ∃ (x5_1 : Int) (x12_1 : Int), v5 = .int .u64 x5_1 ∧ v12 = .int .i64 x12_1 ∧ Aside0 (num_Take.l0 kq a0 x5_1 (a0.size : Int) x12_1 = some (r1, r2, r3)) ∧ Aside0 (kq ≤ k) ∧ Drawn0 w w')
 case atStart => exact ⟨(0), (0), rs_, rs_, H', ⟨Nat.le_refl _⟩, dR_⟩
 case round =>
  clear H'
  obtain ⟨x5_1, x12_1, rfl, rfl, HA, HK1, ⟨m1, rfl⟩⟩ := hrel
  cases gk with
  | zero => exact absurd HA.out (by simp [num_Take.l0])
  | succ k1 =>
   have H := HA.out
   clear HA
   simp only [num_Take.l0] at H
   by_cases c2 : x12_1 < (a0.size : Int)
   rotate_left
   ·rw [if_neg c2] at H
    have c2b0 := decide_eq_false c2
    clear c2
    simp only [Option.some.injEq, Prod.mk.injEq] at H
    obtain ⟨rfl, rfl, rfl⟩ := H
    go_wp2
    repeat (go_quiet (fail); try go_wp2)
    go_ret3
    exact ⟨rs_, dR_⟩
   rw [if_pos c2] at H
   have c2b0 := decide_eq_true c2
   clear c2
   by_cases c3 : 0 ≤ x12_1
   rotate_left
   ·rw [if_neg c3] at H
    exact absurd H r34_
   rw [if_pos c3] at H
   have c3b0 := decide_eq_true c3
   clear c3
   by_cases c4 : x12_1 < (a0.size : Int)
   rotate_left
   ·rw [if_neg c4] at H
    exact absurd H r34_
   rw [if_pos c4] at H
   have c4b0 := decide_eq_true c4
   clear c4
   have HC6 := Aside0.mk H
   clear H
   have p5 : 0 ≤ (x12_1 : Int) := of_decide_eq_true as_
   have q5 : x12_1 < (a0.size : Int) := of_decide_eq_true as_
   have hx5 := bt_at a0 x12_1
   replace p5 := eq_true p5
   replace q5 := eq_true q5
   go_upto_region 8 with (fail)
   repeat (go_quiet (fail); go_upto_region 8 with (fail))
   go_cut [33] (fun v33 wc => ∃ (kq : Nat) (x33_5 : Bool), v33 = .bool x33_5 ∧ Aside0 (num_Take.j1 kq a0 x5_1 x12_1 (IntKind.u64.wrap (bt a0 x12_1)) (wrap64 (7 * x12_1)) (Go.bits .andNot .u64 (IntKind.u64.wrap (bt a0 x12_1)) 128) (a0.size : Int) x12_1 x33_5 = some (r1, r2, r3)) ∧ Aside0 (kq ≤ k1) ∧ Drawn0 w wc)
   case first =>
    have H := HC6.out
    clear HC6
    by_cases c7 : (wrap64 (7 * x12_1)) ≥ 64
    ·rw [if_pos c7] at H
     have c7b0 : decide (64 ≤ (wrap64 (7 * x12_1))) = true := decide_eq_true c7
     clear c7
     (first | rw [c7b0] | (simp only [i64_w, i32_w]; rw [c7b0]) | skip)
     have H' := Aside0.mk H
     clear H
     go_wp2
     repeat (go_quiet (fail); try go_wp2)
     go_meet
     case rel => exact ⟨_, (true), rs_, hH_, ⟨by have := HK1.out; first | omega | exact Nat.le_refl _⟩, dR_⟩
    rw [if_neg c7] at H
    have c7b0 : decide (64 ≤ (wrap64 (7 * x12_1))) = false := decide_eq_false c7
    clear c7
    (first | rw [c7b0] | (simp only [i64_w, i32_w]; rw [c7b0]) | skip)
    obtain ⟨ji8, hji8⟩ : ∃ j_ : Int, (wrap64 (7 * x12_1)) = j_ := ⟨_, rfl⟩
    replace H : (if 0 ≤ (ji8) then (num_Take.j1 k1 a0 x5_1 x12_1 (IntKind.u64.wrap (bt a0 x12_1)) ji8 (Go.bits .andNot .u64 (IntKind.u64.wrap (bt a0 x12_1)) 128) (a0.size : Int) x12_1 ((shr .u64 (shl .u64 (Go.bits .andNot .u64 (IntKind.u64.wrap (bt a0 x12_1)) 128) (ji8)) (ji8)) != (Go.bits .andNot .u64 (IntKind.u64.wrap (bt a0 x12_1)) 128))) else (none)) = some (r1, r2, r3) := by first | (rw [hji8] at H; exact H) | (simp only [hji8] at H ⊢; exact H)
    (try rw [hji8] at c7b0)
    have hji8w : (IntKind.i64.wrap (7 * x12_1)) = ji8 := (i64_w _).trans hji8
    by_cases c9 : 0 ≤ (ji8)
    rotate_left
    ·rw [if_neg c9] at H
     exact absurd H r34_
    rw [if_pos c9] at H
    have c9b0 := eq_true c9
    have c9b1 : decide (0 ≤ (ji8)) = true := decide_eq_true c9
    clear c9
    obtain ⟨ji10, hji10⟩ : ∃ j_ : Int, (shl .u64 (Go.bits .andNot .u64 (IntKind.u64.wrap (bt a0 x12_1)) 128) (ji8)) = j_ := ⟨_, rfl⟩
    replace H : (num_Take.j1 k1 a0 x5_1 x12_1 (IntKind.u64.wrap (bt a0 x12_1)) ji8 (Go.bits .andNot .u64 (IntKind.u64.wrap (bt a0 x12_1)) 128) (a0.size : Int) x12_1 ((shr .u64 (ji10) (ji8)) != (Go.bits .andNot .u64 (IntKind.u64.wrap (bt a0 x12_1)) 128))) = some (r1, r2, r3) := by first | (rw [hji10] at H; exact H) | (simp only [hji10] at H ⊢; exact H)
    have hji10_ : (IntKind.u64.wrap ((Go.bits .andNot .u64 (IntKind.u64.wrap (bt a0 x12_1)) 128) * 2 ^ min (ji8).toNat 64)) = ji10 := hji10
    have hji10z : (ji8) ≤ 64 → (IntKind.u64.wrap ((Go.bits .andNot .u64 (IntKind.u64.wrap (bt a0 x12_1)) 128) * 2 ^ (ji8).toNat)) = ji10 := shl_small hji10
    have c11b0 := eq_true (of_decide_eq_true as_ : 0 ≤ (ji8))
    obtain ⟨ji12, hji12⟩ : ∃ j_ : Int, (shr .u64 (ji10) (ji8)) = j_ := ⟨_, rfl⟩
    replace H : (num_Take.j1 k1 a0 x5_1 x12_1 (IntKind.u64.wrap (bt a0 x12_1)) ji8 (Go.bits .andNot .u64 (IntKind.u64.wrap (bt a0 x12_1)) 128) (a0.size : Int) x12_1 ((ji12) != (Go.bits .andNot .u64 (IntKind.u64.wrap (bt a0 x12_1)) 128))) = some (r1, r2, r3) := by first | (rw [hji12] at H; exact H) | (simp only [hji12] at H ⊢; exact H)
    have hji12_ : ((ji10) / 2 ^ min (ji8).toNat 64) = ji12 := hji12
    have hji12z : (ji8) ≤ 64 → ((ji10) / 2 ^ (ji8).toNat) = ji12 := shr_small hji12
    have H' := Aside0.mk H
    clear H
    go_wp2
    repeat (go_quiet (fail); try go_wp2)
    go_meet
    case rel => exact ⟨_, (((ji12) != (Go.bits .andNot .u64 (IntKind.u64.wrap (bt a0 x12_1)) 128))), (by first | rfl | (simp; done) | (simp only [← hji12] <;> (first | rfl | simp)) | (simp [*]; done)), hH_, ⟨by have := HK1.out; first | omega | exact Nat.le_refl _⟩, dR_⟩
   case rest =>
    clear HC6
    try clear c2
    try clear c2b0
    try clear c3
    try clear c3b0
    try clear c4
    try clear c4b0
    try clear p5
    try clear q5
    try clear hx5
    try clear p5
    try clear q5
    obtain ⟨kq, x33_5, rfl, HA, HJ5, ⟨mc5, rfl⟩⟩ := hcut
    cases kq with
    | zero => exact absurd HA.out (by simp [num_Take.j1])
    | succ kj5 =>
     have H := HA.out
     clear HA
     simp only [num_Take.j1] at H
     by_cases c13 : x33_5 = true
     ·subst c13
      rw [if_pos rfl] at H
      simp only [Option.some.injEq, Prod.mk.injEq] at H
      obtain ⟨rfl, rfl, rfl⟩ := H
      go_wp2
      repeat (go_quiet (fail); try go_wp2)
      go_ret3
      exact ⟨rs_, dR_⟩
     replace c13 := Bool.eq_false_iff.mpr c13
     subst c13
     rw [if_neg ff_] at H
     obtain ⟨ji14, hji14⟩ : ∃ j_ : Int, (wrap64 (7 * x12_1)) = j_ := ⟨_, rfl⟩
     replace H : (if 0 ≤ (ji14) then (if (IntKind.u64.wrap (bt a0 x12_1)) < 128 then (if (IntKind.u64.wrap (bt a0 x12_1)) = 0 then (if x12_1 > 0 then (some (0, (⟨#[]⟩ : ByteArray), false)) else (if 0 ≤ (wrap64 (x12_1 + 1)) then (if (wrap64 (x12_1 + 1)) ≤ (a0.size : Int) then (some (Go.bits .or .u64 x5_1 (shl .u64 (Go.bits .andNot .u64 (IntKind.u64.wrap (bt a0 x12_1)) 128) (ji14)), a0.extract ((wrap64 (x12_1 + 1)) : Int).toNat a0.size, true)) else (none)) else (none))) else (if 0 ≤ (wrap64 (x12_1 + 1)) then (if (wrap64 (x12_1 + 1)) ≤ (a0.size : Int) then (some (Go.bits .or .u64 x5_1 (shl .u64 (Go.bits .andNot .u64 (IntKind.u64.wrap (bt a0 x12_1)) 128) (ji14)), a0.extract ((wrap64 (x12_1 + 1)) : Int).toNat a0.size, true)) else (none)) else (none))) else (num_Take.l0 kj5 a0 (Go.bits .or .u64 x5_1 (shl .u64 (Go.bits .andNot .u64 (IntKind.u64.wrap (bt a0 x12_1)) 128) (ji14))) (a0.size : Int) (wrap64 (x12_1 + 1)))) else (none)) = some (r1, r2, r3) := by first | (rw [hji14] at H; exact H) | (simp only [hji14] at H ⊢; exact H)
     (try rw [hji14])
     have hji14w : (IntKind.i64.wrap (7 * x12_1)) = ji14 := (i64_w _).trans hji14
     by_cases c15 : 0 ≤ (ji14)
     rotate_left
     ·rw [if_neg c15] at H
      exact absurd H r34_
     rw [if_pos c15] at H
     have c15b0 := eq_true c15
     have c15b1 : decide (0 ≤ (ji14)) = true := decide_eq_true c15
     clear c15
     obtain ⟨ji16, hji16⟩ : ∃ j_ : Int, (shl .u64 (Go.bits .andNot .u64 (IntKind.u64.wrap (bt a0 x12_1)) 128) (ji14)) = j_ := ⟨_, rfl⟩
     replace H : (if (IntKind.u64.wrap (bt a0 x12_1)) < 128 then (if (IntKind.u64.wrap (bt a0 x12_1)) = 0 then (if x12_1 > 0 then (some (0, (⟨#[]⟩ : ByteArray), false)) else (if 0 ≤ (wrap64 (x12_1 + 1)) then (if (wrap64 (x12_1 + 1)) ≤ (a0.size : Int) then (some (Go.bits .or .u64 x5_1 (ji16), a0.extract ((wrap64 (x12_1 + 1)) : Int).toNat a0.size, true)) else (none)) else (none))) else (if 0 ≤ (wrap64 (x12_1 + 1)) then (if (wrap64 (x12_1 + 1)) ≤ (a0.size : Int) then (some (Go.bits .or .u64 x5_1 (ji16), a0.extract ((wrap64 (x12_1 + 1)) : Int).toNat a0.size, true)) else (none)) else (none))) else (num_Take.l0 kj5 a0 (Go.bits .or .u64 x5_1 (ji16)) (a0.size : Int) (wrap64 (x12_1 + 1)))) = some (r1, r2, r3) := by first | (rw [hji16] at H; exact H) | (simp only [hji16] at H ⊢; exact H)
     (try rw [hji16])
     have hji16_ : (IntKind.u64.wrap ((Go.bits .andNot .u64 (IntKind.u64.wrap (bt a0 x12_1)) 128) * 2 ^ min (ji14).toNat 64)) = ji16 := hji16
     have hji16z : (ji14) ≤ 64 → (IntKind.u64.wrap ((Go.bits .andNot .u64 (IntKind.u64.wrap (bt a0 x12_1)) 128) * 2 ^ (ji14).toNat)) = ji16 := shl_small hji16
     by_cases c17 : (IntKind.u64.wrap (bt a0 x12_1)) < 128
     rotate_left
     ·rw [if_neg c17] at H
      have c17b0 := decide_eq_false c17
      clear c17
      have H' := Aside0.mk H
      clear H
      go_wp2
      repeat (go_quiet (fail); try go_wp2)
      go_roundg kj5
      case measure => have := HK1.out; have := HJ5.out; omega
      case rel => exact ⟨(Go.bits .or .u64 x5_1 (ji16)), (wrap64 (x12_1 + 1)), (by first | rfl | (simp; done) | (simp only [← hji16] <;> (first | rfl | simp)) | (simp [*]; done)), rs_, hH_, ⟨by have := HK1.out; have := HJ5.out; omega⟩, dR_⟩
     rw [if_pos c17] at H
     have c17b0 := decide_eq_true c17
     clear c17
     by_cases c18 : (IntKind.u64.wrap (bt a0 x12_1)) = 0
     rotate_left
     ·rw [if_neg c18] at H
      have c18b0 := beq_eq_false_iff_ne.mpr c18
      have c18b1 := bne_iff_ne.mpr c18
      obtain ⟨ji23, hji23⟩ : ∃ j_ : Int, (wrap64 (x12_1 + 1)) = j_ := ⟨_, rfl⟩
      replace H : (if 0 ≤ (ji23) then (if (ji23) ≤ (a0.size : Int) then (some (Go.bits .or .u64 x5_1 (ji16), a0.extract ((ji23) : Int).toNat a0.size, true)) else (none)) else (none)) = some (r1, r2, r3) := by first | (rw [hji23] at H; exact H) | (simp only [hji23] at H ⊢; exact H)
      (try rw [hji23])
      have hji23w : (IntKind.i64.wrap (x12_1 + 1)) = ji23 := (i64_w _).trans hji23
      by_cases c24 : 0 ≤ (ji23)
      rotate_left
      ·rw [if_neg c24] at H
       exact absurd H r34_
      rw [if_pos c24] at H
      have c24b0 := eq_true c24
      have c24b1 : decide (0 ≤ (ji23)) = true := decide_eq_true c24
      clear c24
      by_cases c25 : (ji23) ≤ (a0.size : Int)
      rotate_left
      ·rw [if_neg c25] at H
       exact absurd H r34_
      rw [if_pos c25] at H
      have c25b0 := eq_true c25
      have c25b1 : decide ((ji23) ≤ (a0.size : Int)) = true := decide_eq_true c25
      clear c25
      simp only [Option.some.injEq, Prod.mk.injEq] at H
      obtain ⟨rfl, rfl, rfl⟩ := H
      go_wp2
      repeat (go_quiet (fail); try go_wp2)
      go_ret3
      exact ⟨by first | rfl | (simp; done) | (simp only [← hji14, ← hji16, ← hji23] <;> (first | rfl | simp)) | (simp [*]; done), dR_⟩
     rw [if_pos c18] at H
     have c18b0 := beq_iff_eq.mpr c18
     have c18b1 := bne_eq_false_iff_eq.mpr c18
     clear c18
     by_cases c19 : x12_1 > 0
     ·rw [if_pos c19] at H
      have c19b0 : decide (0 < x12_1) = true := decide_eq_true c19
      clear c19
      simp only [Option.some.injEq, Prod.mk.injEq] at H
      obtain ⟨rfl, rfl, rfl⟩ := H
      go_wp2
      repeat (go_quiet (fail); try go_wp2)
      go_ret3
      exact ⟨by first | rfl | (simp; done) | (simp only [← hji14, ← hji16] <;> (first | rfl | simp)) | (simp [*]; done), dR_⟩
     rw [if_neg c19] at H
     have c19b0 : decide (0 < x12_1) = false := decide_eq_false c19
     clear c19
     obtain ⟨ji20, hji20⟩ : ∃ j_ : Int, (wrap64 (x12_1 + 1)) = j_ := ⟨_, rfl⟩
     replace H : (if 0 ≤ (ji20) then (if (ji20) ≤ (a0.size : Int) then (some (Go.bits .or .u64 x5_1 (ji16), a0.extract ((ji20) : Int).toNat a0.size, true)) else (none)) else (none)) = some (r1, r2, r3) := by first | (rw [hji20] at H; exact H) | (simp only [hji20] at H ⊢; exact H)
     (try rw [hji20])
     have hji20w : (IntKind.i64.wrap (x12_1 + 1)) = ji20 := (i64_w _).trans hji20
     by_cases c21 : 0 ≤ (ji20)
     rotate_left
     ·rw [if_neg c21] at H
      exact absurd H r34_
     rw [if_pos c21] at H
     have c21b0 := eq_true c21
     have c21b1 : decide (0 ≤ (ji20)) = true := decide_eq_true c21
     clear c21
     by_cases c22 : (ji20) ≤ (a0.size : Int)
     rotate_left
     ·rw [if_neg c22] at H
      exact absurd H r34_
     rw [if_pos c22] at H
     have c22b0 := eq_true c22
     have c22b1 : decide ((ji20) ≤ (a0.size : Int)) = true := decide_eq_true c22
     clear c22
     simp only [Option.some.injEq, Prod.mk.injEq] at H
     obtain ⟨rfl, rfl, rfl⟩ := H
     go_wp2
     repeat (go_quiet (fail); try go_wp2)
     go_ret3
     exact ⟨by first | rfl | (simp; done) | (simp only [← hji14, ← hji16, ← hji20] <;> (first | rfl | simp)) | (simp [*]; done), dR_⟩

end Go.Proofs.Ytcdadhgcjkgnoaa.P
