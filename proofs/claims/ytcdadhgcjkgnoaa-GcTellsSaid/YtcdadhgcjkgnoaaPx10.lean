-- Printed by a program of this session's own (wip/tools/pprint.sh, over the kit's print, with given contracts): not typed by hand.
import Derived.Test.YtcdadhgcjkgnoaaPx0
import Derived.Test.YtcdadhgcjkgnoaaPx9
namespace Go.Proofs.Ytcdadhgcjkgnoaa.P
open Go.RowKit Go.Proofs.YtcdadhgcjkgnoaaW.PrintWords Go.Proofs.YtcdadhgcjkgnoaaW.PrintLast Go.Proofs.YtcdadhgcjkgnoaaW.PrintMore
set_option linter.unusedVariables false
set_option linter.unusedSimpArgs false
-- SQUEEZED3

/-! ### screeref01_Fall: function 34 -/
def screeref01_Fall.f (k : Nat) (a0 : Int) : Option (ByteArray) := (screeref01_Turned.f a0).bind fun t213 => ((screeref01_Long.f k t213).bind fun t214 => (some t214))
theorem screeref01_Fall.mono : ∀ a0 k, LeO (screeref01_Fall.f k a0) (screeref01_Fall.f (k + 1) a0) := by
 intro a0 k
 unfold screeref01_Fall.f
 repeat' first
   | (with_reducible exact LeO.refl _)
   | (with_reducible exact LeO.none _)
   | (with_reducible refine LeO.ite ?_ ?_)
   | (with_reducible refine LeO.bind ?_ (fun _ => ?_))
   | exact screeref01_Long.mono _ _
   | exact LeO.none _
   | refine LeO.ite ?_ ?_
   | refine LeO.bind ?_ (fun _ => ?_)
set_option maxHeartbeats 8000000 in
set_option maxRecDepth 100000 in
theorem screeref01_Fall.calls (k : Nat) (a0 : Int) (r : ByteArray) (w : World) (h : screeref01_Fall.f k a0 = some r) :
  Calls Try.prog 34 #[.int .u64 a0] w fun e w' => e = .returned (.string r) ∧ Below w.heap.size w w' := by
 have HB := Aside0.mk (Below.refl w.heap.size w)
 have H : ((screeref01_Turned.f a0).bind fun t213 => ((screeref01_Long.f k t213).bind fun t214 => (some t214))) = some r := h
 clear h
 replace H := Option.bind_eq_some_iff.mp H
 obtain ⟨t213, A20, H⟩ := H
 try dsimp only at H
 have A2 := Aside0.mk A20
 clear A20
 replace H := Option.bind_eq_some_iff.mp H
 obtain ⟨t214, A30, H⟩ := H
 try dsimp only at H
 have A3 := Aside0.mk A30
 clear A30
 obtain rfl := Option.some.inj H
 go_enter Try.func34, Try.ntmps34
 go_wp2_with (first | ((with_reducible refine gate_callee (f := 47) rfl ?_); refine goesL_ (some 4) rfl rfl Try.func47 r6_ rfl #[.int .u64 a0] rfl hA_ ?_; (with_reducible refine (screeref01_Turned.calls a0 t213 _ A2.out).mono ?_); rintro e w' ⟨rfl, ⟨nd, rfl⟩⟩; refine ⟨_, rfl, ?_⟩) | ((with_reducible refine gate_callee (f := 46) rfl ?_); refine goesL_ (some 5) rfl rfl Try.func46 r6_ rfl #[.int .u64 t213] rfl hA_ ?_; (with_reducible refine (screeref01_Long.calls k t213 t214 _ A3.out).mono ?_); rintro e w4 ⟨rfl, hb⟩; refine ⟨_, rfl, ?_⟩; replace HB := Aside0.mk (below_step hB_ hb); clear hb A3))
 go_ret
 exact ⟨rf_, hB_⟩

/-! ### screeref02_Make: function 22 -/
def screeref02_Make.j0 : Nat → ByteArray → Bool → Int → ByteArray → Int → Option (ByteArray × Int)
 | 0, _, _, _, _, _ => none
 | k + 1, x4, x29, x216000, x216001, x216002 => if x29 = true then (some ((⟨#[]⟩ : ByteArray), 3)) else (if x216000 = 1 then (some (x4, 0)) else ((screeref01_Fall.f k x216002).bind fun t218 => (if x4.size + t218.size ≤ 9223372036854775807 then (some (x4 ++ t218, 0)) else (none))))
def screeref02_Make.f (k : Nat) (a0_0 : Int) (a0_1 : ByteArray) (a0_2 : Int) : Option (ByteArray × Int) := (screeref02_First.f k a0_0 a0_1).bind fun bt216 => (if bt216.2 = 0 then (if a0_2 > 1099511627776 then (screeref02_Make.j0 k bt216.1 true a0_0 a0_1 a0_2) else (if a0_0 = 1 then (screeref02_Make.j0 k bt216.1 (decide (a0_2 > 0)) a0_0 a0_1 a0_2) else (screeref02_Make.j0 k bt216.1 false a0_0 a0_1 a0_2))) else (some ((⟨#[]⟩ : ByteArray), bt216.2)))
theorem screeref02_Make.mono_l : ∀ k, (∀ y0 y1 y2 y3 y4, LeO (screeref02_Make.j0 k y0 y1 y2 y3 y4) (screeref02_Make.j0 (k + 1) y0 y1 y2 y3 y4))
 | 0 => fun _ _ _ _ _ r h => by simp [screeref02_Make.j0] at h
 | k + 1 => by
  have ih0 := screeref02_Make.mono_l k
  ·intro y0 y1 y2 y3 y4
   unfold screeref02_Make.j0
   repeat' first
   | (with_reducible exact ih0 _ _ _ _ _)
   | (with_reducible exact LeO.refl _)
   | (with_reducible exact LeO.none _)
   | (with_reducible refine LeO.ite ?_ ?_)
   | (with_reducible refine LeO.bind ?_ (fun _ => ?_))
   | exact ih0 _ _ _ _ _
   | exact screeref01_Fall.mono _ _
   | exact screeref02_First.mono _ _ _
   | exact LeO.none _
   | refine LeO.ite ?_ ?_
   | refine LeO.bind ?_ (fun _ => ?_)
theorem screeref02_Make.mono : ∀ a0 a1 a2 k, LeO (screeref02_Make.f k a0 a1 a2) (screeref02_Make.f (k + 1) a0 a1 a2) := by
 intro a0 a1 a2 k
 have ih0 := screeref02_Make.mono_l k
 unfold screeref02_Make.f
 repeat' first
   | (with_reducible exact ih0 _ _ _ _ _)
   | (with_reducible exact LeO.refl _)
   | (with_reducible exact LeO.none _)
   | (with_reducible refine LeO.ite ?_ ?_)
   | (with_reducible refine LeO.bind ?_ (fun _ => ?_))
   | exact ih0 _ _ _ _ _
   | exact screeref01_Fall.mono _ _
   | exact screeref02_First.mono _ _ _
   | exact LeO.none _
   | refine LeO.ite ?_ ?_
   | refine LeO.bind ?_ (fun _ => ?_)
set_option maxHeartbeats 8000000 in
set_option maxRecDepth 100000 in
theorem screeref02_Make.calls (k : Nat) (a0_0 : Int) (a0_1 : ByteArray) (a0_2 : Int) (r1 : ByteArray) (r2 : Int) (w : World) (h : screeref02_Make.f k a0_0 a0_1 a0_2 = some (r1, r2)) :
  Calls Try.prog 22 #[.agg #[.int .i64 a0_0, .string a0_1, .int .u64 a0_2]] w fun e w' => e = .returned (.tuple #[.string r1, .int .i64 r2]) ∧ Below w.heap.size w w' := by
 have hu53 := Try.underlying53
 have HB := Aside0.mk (Below.refl w.heap.size w)
 have H : ((screeref02_First.f k a0_0 a0_1).bind fun bt216 => (if bt216.2 = 0 then (if a0_2 > 1099511627776 then (screeref02_Make.j0 k bt216.1 true a0_0 a0_1 a0_2) else (if a0_0 = 1 then (screeref02_Make.j0 k bt216.1 (decide (a0_2 > 0)) a0_0 a0_1 a0_2) else (screeref02_Make.j0 k bt216.1 false a0_0 a0_1 a0_2))) else (some ((⟨#[]⟩ : ByteArray), bt216.2)))) = some (r1, r2) := h
 clear h
 replace H := Option.bind_eq_some_iff.mp H
 obtain ⟨⟨t216, t217⟩, A20, H⟩ := H
 try dsimp only at H
 have A2 := Aside0.mk A20
 clear A20
 by_cases c3 : t217 = 0
 rotate_left
 ·rw [if_neg c3] at H
  have c3b0 := beq_eq_false_iff_ne.mpr c3
  have c3b1 := bne_iff_ne.mpr c3
  simp only [Option.some.injEq, Prod.mk.injEq] at H
  obtain ⟨rfl, rfl⟩ := H
  go_enter Try.func22, Try.ntmps22
  go_wp2_with (first | ((with_reducible refine gate_dst (N := 1) rfl ?_); refine box_event ?hg (N := 1) ?hd (cs := #[.int .i64 a0_0, .string a0_1, .int .u64 a0_2]) (t := 53) ?hr ?_; (case hd => rfl); (case hg => rfl); (case hr => first | (go_simp; done) | (go_simp; rfl)); intro gb215 hg w20 hbox hb; have BK215 := Aside0.mk (hbox); have GW215 := Aside0.mk ((by rw [hg]; exact (below_size hB_) : w.heap.size ≤ gb215)); have GE215 := Aside0.mk ((by rw [hg]; exact (below_size hB_) : w.heap.size ≤ gb215)); replace HB := Aside0.mk (below_step hB_ hb); clear hb hbox hg; have hcz21_0 : w20.cell? ⟨gb215, 0, none⟩ = some (.int .i64 a0_0) := (blk_cell BK215.out 0).trans rfl; have hcz21_1 : w20.cell? ⟨gb215, 1, none⟩ = some (.string a0_1) := (blk_cell BK215.out 1).trans rfl; have hcz21_2 : w20.cell? ⟨gb215, 2, none⟩ = some (.int .u64 a0_2) := (blk_cell BK215.out 2).trans rfl; have hfz21_0 := blk_frozen BK215.out 0; have hfz21_1 := blk_frozen BK215.out 1; have hfz21_2 := blk_frozen BK215.out 2) | ((with_reducible refine gate_callee (f := 33) rfl ?_); refine goesL_ (some 11) rfl rfl Try.func33 r6_ rfl #[.int .i64 a0_0, .string a0_1] rfl hA_ ?_; (with_reducible refine (screeref02_First.calls k a0_0 a0_1 t216 t217 _ A2.out).mono ?_); rintro e w22 ⟨rfl, hb⟩; refine ⟨_, rfl, ?_⟩; replace BK215 := Aside0.mk (blk_below (g := gb215) (o := .cells #[.int .i64 a0_0, .string a0_1, .int .u64 a0_2] 53 (0, 0)) r46_ hb); replace HB := Aside0.mk (below_step r21_ hb); clear hb A2))
  go_ret2
  exact ⟨rf_, r21_⟩
 rw [if_pos c3] at H
 have c3b0 := beq_iff_eq.mpr c3
 have c3b1 := bne_eq_false_iff_eq.mpr c3
 clear c3
 have HC4 := Aside0.mk H
 clear H
 go_enter Try.func22, Try.ntmps22
 go_upto_region 4 with (first | ((with_reducible refine gate_dst (N := 1) rfl ?_); refine box_event ?hg (N := 1) ?hd (cs := #[.int .i64 a0_0, .string a0_1, .int .u64 a0_2]) (t := 53) ?hr ?_; (case hd => rfl); (case hg => rfl); (case hr => first | (go_simp; done) | (go_simp; rfl)); intro gb215 hg w5 hbox hb; have BK215 := Aside0.mk (hbox); have GW215 := Aside0.mk ((by rw [hg]; exact (below_size hB_) : w.heap.size ≤ gb215)); have GE215 := Aside0.mk ((by rw [hg]; exact (below_size hB_) : w.heap.size ≤ gb215)); replace HB := Aside0.mk (below_step hB_ hb); clear hb hbox hg; have hcz6_0 : w5.cell? ⟨gb215, 0, none⟩ = some (.int .i64 a0_0) := (blk_cell BK215.out 0).trans rfl; have hcz6_1 : w5.cell? ⟨gb215, 1, none⟩ = some (.string a0_1) := (blk_cell BK215.out 1).trans rfl; have hcz6_2 : w5.cell? ⟨gb215, 2, none⟩ = some (.int .u64 a0_2) := (blk_cell BK215.out 2).trans rfl; have hfz6_0 := blk_frozen BK215.out 0; have hfz6_1 := blk_frozen BK215.out 1; have hfz6_2 := blk_frozen BK215.out 2) | ((with_reducible refine gate_callee (f := 33) rfl ?_); refine goesL_ (some 11) rfl rfl Try.func33 r6_ rfl #[.int .i64 a0_0, .string a0_1] rfl hA_ ?_; (with_reducible refine (screeref02_First.calls k a0_0 a0_1 t216 t217 _ A2.out).mono ?_); rintro e w7 ⟨rfl, hb⟩; refine ⟨_, rfl, ?_⟩; replace BK215 := Aside0.mk (blk_below (g := gb215) (o := .cells #[.int .i64 a0_0, .string a0_1, .int .u64 a0_2] 53 (0, 0)) r46_ hb); replace HB := Aside0.mk (below_step r21_ hb); clear hb A2))
 (try simp only [Act.put, sp_])
 go_cut [29] (fun v29 wc => ∃ (kq : Nat) (x29_3 : Bool), v29 = .bool x29_3 ∧ Aside0 (screeref02_Make.j0 kq t216 x29_3 a0_0 a0_1 a0_2 = some (r1, r2)) ∧ Aside0 (kq ≤ k) ∧ Aside0 (wc.heap[gb215]? = some (.cells #[.int .i64 a0_0, .string a0_1, .int .u64 a0_2] 53 (0, 0))) ∧ Aside0 (Below w.heap.size w wc))
 case first =>
  have H := HC4.out
  clear HC4
  by_cases c8 : a0_2 > 1099511627776
  ·rw [if_pos c8] at H
   have c8b0 : decide (1099511627776 < a0_2) = true := decide_eq_true c8
   clear c8
   (first | rw [c8b0] | (simp only [i64_w, i32_w]; rw [c8b0]) | skip)
   have H' := Aside0.mk H
   clear H
   have hcz9_0 : w7.cell? ⟨gb215, 0, none⟩ = some (.int .i64 a0_0) := (blk_cell BK215.out 0).trans rfl
   have hcz9_1 : w7.cell? ⟨gb215, 1, none⟩ = some (.string a0_1) := (blk_cell BK215.out 1).trans rfl
   have hcz9_2 : w7.cell? ⟨gb215, 2, none⟩ = some (.int .u64 a0_2) := (blk_cell BK215.out 2).trans rfl
   have hfz9_0 := blk_frozen BK215.out 0
   have hfz9_1 := blk_frozen BK215.out 1
   have hfz9_2 := blk_frozen BK215.out 2
   go_wp2
   go_meet
   case rel => exact ⟨_, (true), rs_, hH_, ⟨by first | omega | exact Nat.le_refl _⟩, ⟨r46_⟩, ⟨r21_⟩⟩
  rw [if_neg c8] at H
  have c8b0 : decide (1099511627776 < a0_2) = false := decide_eq_false c8
  clear c8
  (first | rw [c8b0] | (simp only [i64_w, i32_w]; rw [c8b0]) | skip)
  by_cases c10 : a0_0 = 1
  rotate_left
  ·rw [if_neg c10] at H
   have c10b0 := beq_eq_false_iff_ne.mpr c10
   have c10b1 := bne_iff_ne.mpr c10
   have H' := Aside0.mk H
   clear H
   have hcz12_0 : w7.cell? ⟨gb215, 0, none⟩ = some (.int .i64 a0_0) := (blk_cell BK215.out 0).trans rfl
   have hcz12_1 : w7.cell? ⟨gb215, 1, none⟩ = some (.string a0_1) := (blk_cell BK215.out 1).trans rfl
   have hcz12_2 : w7.cell? ⟨gb215, 2, none⟩ = some (.int .u64 a0_2) := (blk_cell BK215.out 2).trans rfl
   have hfz12_0 := blk_frozen BK215.out 0
   have hfz12_1 := blk_frozen BK215.out 1
   have hfz12_2 := blk_frozen BK215.out 2
   go_wp2
   go_meet
   case rel => exact ⟨_, (false), rs_, hH_, ⟨by first | omega | exact Nat.le_refl _⟩, ⟨r46_⟩, ⟨r21_⟩⟩
  rw [if_pos c10] at H
  have c10b0 := beq_iff_eq.mpr c10
  have c10b1 := bne_eq_false_iff_eq.mpr c10
  clear c10
  have H' := Aside0.mk H
  clear H
  have hcz11_0 : w7.cell? ⟨gb215, 0, none⟩ = some (.int .i64 a0_0) := (blk_cell BK215.out 0).trans rfl
  have hcz11_1 : w7.cell? ⟨gb215, 1, none⟩ = some (.string a0_1) := (blk_cell BK215.out 1).trans rfl
  have hcz11_2 : w7.cell? ⟨gb215, 2, none⟩ = some (.int .u64 a0_2) := (blk_cell BK215.out 2).trans rfl
  have hfz11_0 := blk_frozen BK215.out 0
  have hfz11_1 := blk_frozen BK215.out 1
  have hfz11_2 := blk_frozen BK215.out 2
  go_wp2
  go_meet
  case rel => exact ⟨_, (decide (a0_2 > 0)), rs_, hH_, ⟨by first | omega | exact Nat.le_refl _⟩, ⟨r46_⟩, ⟨r21_⟩⟩
 case rest =>
  clear HC4
  try clear c3
  try clear c3b0
  try clear c3b1
  try clear hcz6_0
  try clear hcz6_1
  try clear hcz6_2
  try clear hfz6_0
  try clear hfz6_1
  try clear hfz6_2
  obtain ⟨kq, x29_3, rfl, HA, HJ3, BK215, HB⟩ := hcut
  cases kq with
  | zero => exact absurd HA.out (by simp [screeref02_Make.j0])
  | succ kj3 =>
   have H := HA.out
   clear HA
   simp only [screeref02_Make.j0] at H
   by_cases c13 : x29_3 = true
   ·subst c13
    rw [if_pos rfl] at H
    simp only [Option.some.injEq, Prod.mk.injEq] at H
    obtain ⟨rfl, rfl⟩ := H
    go_wp2
    go_ret2
    exact ⟨rf_, r21_⟩
   replace c13 := Bool.eq_false_iff.mpr c13
   subst c13
   rw [if_neg ff_] at H
   by_cases c14 : a0_0 = 1
   ·rw [if_pos c14] at H
    have c14b0 := beq_iff_eq.mpr c14
    have c14b1 := bne_eq_false_iff_eq.mpr c14
    clear c14
    simp only [Option.some.injEq, Prod.mk.injEq] at H
    obtain ⟨rfl, rfl⟩ := H
    have hcz15_0 : wc.cell? ⟨gb215, 0, none⟩ = some (.int .i64 a0_0) := (blk_cell BK215.out 0).trans rfl
    have hcz15_1 : wc.cell? ⟨gb215, 1, none⟩ = some (.string a0_1) := (blk_cell BK215.out 1).trans rfl
    have hcz15_2 : wc.cell? ⟨gb215, 2, none⟩ = some (.int .u64 a0_2) := (blk_cell BK215.out 2).trans rfl
    have hfz15_0 := blk_frozen BK215.out 0
    have hfz15_1 := blk_frozen BK215.out 1
    have hfz15_2 := blk_frozen BK215.out 2
    go_wp2
    go_ret2
    exact ⟨rf_, r21_⟩
   rw [if_neg c14] at H
   have c14b0 := beq_eq_false_iff_ne.mpr c14
   have c14b1 := bne_iff_ne.mpr c14
   replace H := Option.bind_eq_some_iff.mp H
   obtain ⟨t218, A160, H⟩ := H
   try dsimp only at H
   have A16 := Aside0.mk A160
   clear A160
   by_cases c17 : t216.size + t218.size ≤ 9223372036854775807
   rotate_left
   ·rw [if_neg c17] at H
    exact absurd H r34_
   rw [if_pos c17] at H
   have c17b0 := eq_true c17
   have c17b1 : decide (t216.size + t218.size ≤ 9223372036854775807) = true := decide_eq_true c17
   try have c17b2 : (9223372036854775807 < t216.size + t218.size) = False := eq_false (Nat.not_lt.2 c17)
   try (have c17b3 := c17b2; simp only [ByteArray.size_append] at c17b3)
   try (have c17b4 := c17b2; simp only [ByteArray.size_extract, ByteArray.size_append, Nat.sub_zero] at c17b4)
   simp only [Option.some.injEq, Prod.mk.injEq] at H
   obtain ⟨rfl, rfl⟩ := H
   have hcz18_0 : wc.cell? ⟨gb215, 0, none⟩ = some (.int .i64 a0_0) := (blk_cell BK215.out 0).trans rfl
   have hcz18_1 : wc.cell? ⟨gb215, 1, none⟩ = some (.string a0_1) := (blk_cell BK215.out 1).trans rfl
   have hcz18_2 : wc.cell? ⟨gb215, 2, none⟩ = some (.int .u64 a0_2) := (blk_cell BK215.out 2).trans rfl
   have hfz18_0 := blk_frozen BK215.out 0
   have hfz18_1 := blk_frozen BK215.out 1
   have hfz18_2 := blk_frozen BK215.out 2
   go_wp2_with (first | ((with_reducible refine gate_callee (f := 34) rfl ?_); refine goesL_ (some 36) rfl rfl Try.func34 r6_ rfl #[.int .u64 a0_2] rfl hA_ ?_; (with_reducible refine (screeref01_Fall.calls kj3 a0_2 t218 _ A16.out).mono ?_); rintro e w19 ⟨rfl, hb⟩; refine ⟨_, rfl, ?_⟩; replace BK215 := Aside0.mk (blk_below (g := gb215) (o := .cells #[.int .i64 a0_0, .string a0_1, .int .u64 a0_2] 53 (0, 0)) r46_ hb); replace HB := Aside0.mk (below_step r21_ hb); clear hb A16))
   go_ret2
   exact ⟨rf_, r21_⟩

/-! ### screeref15_time: function 48 -/
def screeref15_time.f (a0 : Int) : Option (Bool) := if a0 ≥ 1 then (some (decide (a0 ≤ 1099511627776))) else (some false)
set_option maxHeartbeats 8000000 in
set_option maxRecDepth 100000 in
theorem screeref15_time.calls (a0 : Int) (r : Bool) (w : World) (h : screeref15_time.f a0 = some r) :
  Calls Try.prog 48 #[.int .u64 a0] w fun e w' => e = .returned (.bool r) ∧ Drawn0 w w' := by
 have H : (if a0 ≥ 1 then (some (decide (a0 ≤ 1099511627776))) else (some false)) = some r := h
 clear h
 by_cases c2 : a0 ≥ 1
 ·rw [if_pos c2] at H
  have c2b0 : decide (1 ≤ a0) = true := decide_eq_true c2
  clear c2
  obtain rfl := Option.some.inj H
  go_enter Try.func48, Try.ntmps48
  go_wp2
  go_ret
  exact ⟨rs_, dR_⟩
 rw [if_neg c2] at H
 have c2b0 : decide (1 ≤ a0) = false := decide_eq_false c2
 clear c2
 obtain rfl := Option.some.inj H
 go_enter Try.func48, Try.ntmps48
 go_wp2
 go_ret
 exact ⟨rs_, dR_⟩

/-! ### screeref01_Short: function 49 -/
def screeref01_Short.l0 : Nat → Int → List Int → Option (ByteArray)
 | 0, _, _ => none
 | k + 1, x0, x3 => if x0 > 127 then (if x3.length < 140737488355328 then (screeref01_Short.l0 k (IntKind.u64.wrap (Int.tdiv x0 128)) (x3 ++ [(IntKind.u64.wrap ((Int.tmod x0 128) + 128)) % 256])) else (none)) else (if x3.length < 140737488355328 then (some (strOfNums (x3 ++ [(x0) % 256]))) else (none))
def screeref01_Short.f (k : Nat) (a0 : Int) : Option (ByteArray) := screeref01_Short.l0 k a0 (([] : List Int))
theorem screeref01_Short.mono_l : ∀ k, (∀ y0 y1, LeO (screeref01_Short.l0 k y0 y1) (screeref01_Short.l0 (k + 1) y0 y1))
 | 0 => fun _ _ r h => by simp [screeref01_Short.l0] at h
 | k + 1 => by
  have ih0 := screeref01_Short.mono_l k
  ·intro y0 y1
   unfold screeref01_Short.l0
   repeat' first
   | (with_reducible exact ih0 _ _)
   | (with_reducible exact LeO.refl _)
   | (with_reducible exact LeO.none _)
   | (with_reducible refine LeO.ite ?_ ?_)
   | (with_reducible refine LeO.bind ?_ (fun _ => ?_))
   | exact ih0 _ _
   | exact LeO.none _
   | refine LeO.ite ?_ ?_
   | refine LeO.bind ?_ (fun _ => ?_)
theorem screeref01_Short.mono : ∀ a0 k, LeO (screeref01_Short.f k a0) (screeref01_Short.f (k + 1) a0) := by
 intro a0 k
 have ih0 := screeref01_Short.mono_l k
 unfold screeref01_Short.f
 repeat' first
   | (with_reducible exact ih0 _ _)
   | (with_reducible exact LeO.refl _)
   | (with_reducible exact LeO.none _)
   | (with_reducible refine LeO.ite ?_ ?_)
   | (with_reducible refine LeO.bind ?_ (fun _ => ?_))
   | exact ih0 _ _
   | exact LeO.none _
   | refine LeO.ite ?_ ?_
   | refine LeO.bind ?_ (fun _ => ?_)
set_option maxHeartbeats 8000000 in
set_option maxRecDepth 100000 in
theorem screeref01_Short.calls (k : Nat) (a0 : Int) (r : ByteArray) (w : World) (h : screeref01_Short.f k a0 = some r) :
  Calls Try.prog 49 #[.int .u64 a0] w fun e w' => e = .returned (.string r) ∧ Below w.heap.size w w' := by
 have HB := Aside0.mk (Below.refl w.heap.size w)
 have H : (screeref01_Short.l0 k a0 (([] : List Int))) = some r := h
 clear h
 obtain ⟨y219, hy219⟩ : ∃ y_ : List Int, y_ = (([] : List Int)) := ⟨_, rfl⟩
 replace H : (screeref01_Short.l0 k a0 y219) = some r := by first | (rw [hy219]; with_reducible exact H) | (have H2_ := (Option.bind_some _ _).symm.trans H; rw [hy219]; with_reducible exact H2_) | (have H2_ := (Option.bind_some _ _).symm.trans H; with_reducible exact H2_) | with_reducible exact H | (rw [hy219]; exact H) | exact H
 have Ny219 := Aside0.mk hy219
 clear hy219
 have H' := Aside0.mk H
 clear H
 go_enter Try.func49, Try.ntmps49
 go_wp2_with (first | ((with_reducible refine gate_dst (N := 4) rfl ?_); refine Kd.R_lit (Kd.int .u8) _ 5 ?hg (N := 4) ?hd (xs := ([] : List Int)) (inner := []) (ok := fun _ => True) (okp := fun _ => True) ?hr ?hp (fun _ hk => hk) trivial (Below.refl _ _) (Nat.le_refl _) r34_ ?_; (case hd => rfl); (case hg => rfl); (case hr => first | (go_simp; done) | (go_simp; rfl)); (case hp => exact (Reps.none _ _)); intro v220 w2 ho3 hb hg_ hnew_; clear hg_ hnew_; (first | rw [← Ny219.out] at ho3 | (simp only [Int.reduceToNat] at ho3; rw [← Ny219.out] at ho3)); have HO221 := Aside0.mk (Kd.R_lower ho3 (below_size hB_)); replace HB := Aside0.mk (below_step hB_ hb); clear hb ho3))
 go_loopg [0, 3] k (fun kq v0 v3 w' => ∃ (x0_1 : Int) (x3_1 : List Int), v0 = .int .u64 x0_1 ∧ Aside0 (screeref01_Short.l0 kq x0_1 x3_1 = some r) ∧ Aside0 (kq ≤ k) ∧ Aside0 (Kd.R (Kd.int .u8) 5 w' w.heap.size (fun _ => True) v3 x3_1) ∧ Aside0 (Below w.heap.size w w'))
 case atStart => exact ⟨(a0), (y219), rs_, H', ⟨Nat.le_refl _⟩, ⟨by (with_reducible repeat (first | apply Kd.R_alloc | apply Kd.R_drewN | apply Kd.R_drew)); exact HO221.out⟩, ⟨hB_⟩⟩
 case round =>
  clear H'
  obtain ⟨x0_1, x3_1, rfl, HA, HK1, HO_3, HB⟩ := hrel
  cases gk with
  | zero => exact absurd HA.out (by simp [screeref01_Short.l0])
  | succ k1 =>
   have H := HA.out
   clear HA
   simp only [screeref01_Short.l0] at H
   by_cases c4 : x0_1 > 127
   rotate_left
   ·rw [if_neg c4] at H
    have c4b0 : decide (127 < x0_1) = false := decide_eq_false c4
    clear c4
    by_cases c7 : x3_1.length < 140737488355328
    rotate_left
    ·rw [if_neg c7] at H
     exact absurd H r34_
    rw [if_pos c7] at H
    have LMc7 := Aside0.mk c7
    clear c7
    obtain ⟨y225, hy225⟩ : ∃ y_ : List Int, y_ = (x3_1 ++ [(x0_1) % 256]) := ⟨_, rfl⟩
    replace H : (some (strOfNums y225)) = some r := by first | (rw [hy225]; with_reducible exact H) | (have H2_ := (Option.bind_some _ _).symm.trans H; rw [hy225]; with_reducible exact H2_) | (have H2_ := (Option.bind_some _ _).symm.trans H; with_reducible exact H2_) | with_reducible exact H | (rw [hy225]; exact H) | exact H
    have Ny225 := Aside0.mk hy225
    clear hy225
    obtain rfl := Option.some.inj H
    go_wp2_with (first | ((with_reducible refine gate_builtin (b := .append) (xs := #[.tmp 16, .tmp 19]) rfl ?_); at_builtin; refine Kd.R_append (Kd.int .u8) (w0 := w) w.heap.size rfl (.tmp 16) (.tmp 19) 96 5 (.int .u8 0) 1 rfl Try.underlying96 info5 rfl r44_ r37_ u3 x3_1 ((x0_1) % 256) [.int .u8 ((x0_1) % 256)] (fun _ => True) (fun _ => False) rfl rfl ?aP (fun _ hk => hk.elim) ?aF ?aO ?aB ?aS ?aL ?_; (case aP => exact rfl); (case aB => exact hB_); (case aF => exact (fun _ _ => trivial)); (case aO => exact r53_); (case aS => exact (below_size hB_)); (case aL => have := LMc7.out; omega); intro v226 w8 ho hb hg hat; rw [← Ny225.out] at ho; replace HB := Aside0.mk (hb); have HO227 := Aside0.mk (ho); clear HO_3; clear ho hb hg hat; have hcv9 := own_string (P := Try.prog) Try.underlying96 Try.underlying5 Try.underlying9 (Kd.own_of_R (HO227.out))))
    go_ret
    exact ⟨rf_, hB_⟩
   rw [if_pos c4] at H
   have c4b0 : decide (127 < x0_1) = true := decide_eq_true c4
   clear c4
   by_cases c5 : x3_1.length < 140737488355328
   rotate_left
   ·rw [if_neg c5] at H
    exact absurd H r34_
   rw [if_pos c5] at H
   have LMc5 := Aside0.mk c5
   clear c5
   obtain ⟨y222, hy222⟩ : ∃ y_ : List Int, y_ = (x3_1 ++ [(IntKind.u64.wrap ((Int.tmod x0_1 128) + 128)) % 256]) := ⟨_, rfl⟩
   replace H : (screeref01_Short.l0 k1 (IntKind.u64.wrap (Int.tdiv x0_1 128)) y222) = some r := by first | (rw [hy222]; with_reducible exact H) | (have H2_ := (Option.bind_some _ _).symm.trans H; rw [hy222]; with_reducible exact H2_) | (have H2_ := (Option.bind_some _ _).symm.trans H; with_reducible exact H2_) | with_reducible exact H | (rw [hy222]; exact H) | exact H
   have Ny222 := Aside0.mk hy222
   clear hy222
   have H' := Aside0.mk H
   clear H
   go_wp2_with (first | ((with_reducible refine gate_builtin (b := .append) (xs := #[.tmp 7, .tmp 12]) rfl ?_); at_builtin; refine Kd.R_append (Kd.int .u8) (w0 := w) w.heap.size rfl (.tmp 7) (.tmp 12) 96 5 (.int .u8 0) 1 rfl Try.underlying96 info5 rfl r44_ r37_ u3 x3_1 ((IntKind.u64.wrap ((Int.tmod x0_1 128) + 128)) % 256) [.int .u8 ((IntKind.u64.wrap ((Int.tmod x0_1 128) + 128)) % 256)] (fun _ => True) (fun _ => False) rfl rfl ?aP (fun _ hk => hk.elim) ?aF ?aO ?aB ?aS ?aL ?_; (case aP => exact rfl); (case aB => exact hB_); (case aF => exact (fun _ _ => trivial)); (case aO => exact r53_); (case aS => exact (below_size hB_)); (case aL => have := LMc5.out; omega); intro v223 w6 ho hb hg hat; rw [← Ny222.out] at ho; replace HB := Aside0.mk (hb); have HO224 := Aside0.mk (ho); clear HO_3; clear ho hb hg hat))
   go_roundg k1
   case measure => have := HK1.out; omega
   case rel => exact ⟨(IntKind.u64.wrap (Int.tdiv x0_1 128)), (y222), rs_, hH_, ⟨by have := HK1.out; omega⟩, ⟨by (with_reducible repeat (first | apply Kd.R_alloc | apply Kd.R_drewN | apply Kd.R_drew)); exact HO224.out⟩, ⟨hB_⟩⟩

/-! ### screeref15_Write: function 35 -/
def screeref15_Write.f (k : Nat) (a0_0 : Int) (a0_1 : Int) : Option (ByteArray × Int) := (screeref15_time.f a0_0).bind fun t229 => (if t229 = true then (if a0_1 < 1 then (some ((⟨#[]⟩ : ByteArray), 2)) else (if a0_1 > 3 then (some ((⟨#[]⟩ : ByteArray), 2)) else ((some (([(a0_1) % 256] : List Int) : List Int)).bind fun y230 => ((screeref01_Short.f k a0_0).bind fun t233 => (if (strOfNums y230).size + t233.size ≤ 9223372036854775807 then (some ((strOfNums y230) ++ t233, 0)) else (none)))))) else (some ((⟨#[]⟩ : ByteArray), 2)))
theorem screeref15_Write.mono : ∀ a0 a1 k, LeO (screeref15_Write.f k a0 a1) (screeref15_Write.f (k + 1) a0 a1) := by
 intro a0 a1 k
 unfold screeref15_Write.f
 repeat' first
   | (with_reducible exact LeO.refl _)
   | (with_reducible exact LeO.none _)
   | (with_reducible refine LeO.ite ?_ ?_)
   | (with_reducible refine LeO.bind ?_ (fun _ => ?_))
   | exact screeref01_Short.mono _ _
   | exact LeO.none _
   | refine LeO.ite ?_ ?_
   | refine LeO.bind ?_ (fun _ => ?_)
def screeref15_Write.T3 : Bool × List (List Nat × List Nat) := (true, [([], []), ([0], [0]), ([1], [1]), ([2], [2]), ([3], [3]), ([], []), ([5], [5]), ([6], [6]), ([4, 7], [4, 7]), ([8, 7, 0, 1, 2, 3, 4, 5, 6, 7, 8], [8]), ([9, 0, 1, 2, 3, 4, 5, 6, 7, 8, 9], [])])
def screeref15_Write.B3 : List Nat := [0, 1, 3, 7, 15, 0, 32, 96, 255, 511, 1023]
theorem screeref15_Write.tab3 : rtab .any (opsOf Try.f35 3) = screeref15_Write.T3 := by kernel_rfl
theorem screeref15_Write.bits3 : waitsOk screeref15_Write.T3.2 screeref15_Write.B3 = true := by kernel_rfl
set_option maxHeartbeats 8000000 in
set_option maxRecDepth 100000 in
theorem screeref15_Write.calls (k : Nat) (a0_0 : Int) (a0_1 : Int) (r1 : ByteArray) (r2 : Int) (w : World) (h : screeref15_Write.f k a0_0 a0_1 = some (r1, r2)) :
  Calls Try.prog 35 #[.agg #[.int .u64 a0_0, .int .i64 a0_1]] w fun e w' => e = .returned (.tuple #[.string r1, .int .i64 r2]) ∧ Below w.heap.size w w' := by
 have hu42 := Try.underlying42
 have HB := Aside0.mk (Below.refl w.heap.size w)
 have H : ((screeref15_time.f a0_0).bind fun t229 => (if t229 = true then (if a0_1 < 1 then (some ((⟨#[]⟩ : ByteArray), 2)) else (if a0_1 > 3 then (some ((⟨#[]⟩ : ByteArray), 2)) else ((some (([(a0_1) % 256] : List Int) : List Int)).bind fun y230 => ((screeref01_Short.f k a0_0).bind fun t233 => (if (strOfNums y230).size + t233.size ≤ 9223372036854775807 then (some ((strOfNums y230) ++ t233, 0)) else (none)))))) else (some ((⟨#[]⟩ : ByteArray), 2)))) = some (r1, r2) := h
 clear h
 replace H := Option.bind_eq_some_iff.mp H
 obtain ⟨t229, A20, H⟩ := H
 try dsimp only at H
 have A2 := Aside0.mk A20
 clear A20
 by_cases c3 : t229 = true
 rotate_left
 ·replace c3 := Bool.eq_false_iff.mpr c3
  subst c3
  rw [if_neg ff_] at H
  simp only [Option.some.injEq, Prod.mk.injEq] at H
  obtain ⟨rfl, rfl⟩ := H
  go_enter Try.func35, Try.ntmps35
  go_wp2_with (first | ((with_reducible refine gate_dst (N := 1) rfl ?_); refine box_event ?hg (N := 1) ?hd (cs := #[.int .u64 a0_0, .int .i64 a0_1]) (t := 42) ?hr ?_; (case hd => rfl); (case hg => rfl); (case hr => first | (go_simp; done) | (go_simp; rfl)); intro gb228 hg w20 hbox hb; have BK228 := Aside0.mk (hbox); have GW228 := Aside0.mk ((by rw [hg]; exact (below_size hB_) : w.heap.size ≤ gb228)); have GE228 := Aside0.mk ((by rw [hg]; exact (below_size hB_) : w.heap.size ≤ gb228)); replace HB := Aside0.mk (below_step hB_ hb); clear hb hbox hg; have hcz21_0 : w20.cell? ⟨gb228, 0, none⟩ = some (.int .u64 a0_0) := (blk_cell BK228.out 0).trans rfl; have hcz21_1 : w20.cell? ⟨gb228, 1, none⟩ = some (.int .i64 a0_1) := (blk_cell BK228.out 1).trans rfl; have hfz21_0 := blk_frozen BK228.out 0; have hfz21_1 := blk_frozen BK228.out 1) | ((with_reducible refine gate_callee (f := 48) rfl ?_); refine goesL_ (some 6) rfl rfl Try.func48 r6_ rfl #[.int .u64 a0_0] rfl hA_ ?_; (with_reducible refine (screeref15_time.calls a0_0 false _ A2.out).mono ?_); rintro e w' ⟨rfl, ⟨nd, rfl⟩⟩; refine ⟨_, rfl, ?_⟩))
  go_ret2
  exact ⟨rf_, r16_⟩
 subst c3
 rw [if_pos rfl] at H
 by_cases c4 : a0_1 < 1
 ·rw [if_pos c4] at H
  have c4b0 := decide_eq_true c4
  clear c4
  simp only [Option.some.injEq, Prod.mk.injEq] at H
  obtain ⟨rfl, rfl⟩ := H
  go_enter Try.func35, Try.ntmps35
  go_wp2_with (first | ((with_reducible refine gate_dst (N := 1) rfl ?_); refine box_event ?hg (N := 1) ?hd (cs := #[.int .u64 a0_0, .int .i64 a0_1]) (t := 42) ?hr ?_; (case hd => rfl); (case hg => rfl); (case hr => first | (go_simp; done) | (go_simp; rfl)); intro gb228 hg w5 hbox hb; have BK228 := Aside0.mk (hbox); have GW228 := Aside0.mk ((by rw [hg]; exact (below_size hB_) : w.heap.size ≤ gb228)); have GE228 := Aside0.mk ((by rw [hg]; exact (below_size hB_) : w.heap.size ≤ gb228)); replace HB := Aside0.mk (below_step hB_ hb); clear hb hbox hg; have hcz6_0 : w5.cell? ⟨gb228, 0, none⟩ = some (.int .u64 a0_0) := (blk_cell BK228.out 0).trans rfl; have hcz6_1 : w5.cell? ⟨gb228, 1, none⟩ = some (.int .i64 a0_1) := (blk_cell BK228.out 1).trans rfl; have hfz6_0 := blk_frozen BK228.out 0; have hfz6_1 := blk_frozen BK228.out 1) | ((with_reducible refine gate_callee (f := 48) rfl ?_); refine goesL_ (some 6) rfl rfl Try.func48 r6_ rfl #[.int .u64 a0_0] rfl hA_ ?_; (with_reducible refine (screeref15_time.calls a0_0 true _ A2.out).mono ?_); rintro e w' ⟨rfl, ⟨nd, rfl⟩⟩; refine ⟨_, rfl, ?_⟩))
  go_ret2
  exact ⟨rf_, r16_⟩
 rw [if_neg c4] at H
 have c4b0 := decide_eq_false c4
 clear c4
 by_cases c7 : a0_1 > 3
 ·rw [if_pos c7] at H
  have c7b0 : decide (3 < a0_1) = true := decide_eq_true c7
  clear c7
  simp only [Option.some.injEq, Prod.mk.injEq] at H
  obtain ⟨rfl, rfl⟩ := H
  go_enter Try.func35, Try.ntmps35
  go_wp2_with (first | ((with_reducible refine gate_dst (N := 1) rfl ?_); refine box_event ?hg (N := 1) ?hd (cs := #[.int .u64 a0_0, .int .i64 a0_1]) (t := 42) ?hr ?_; (case hd => rfl); (case hg => rfl); (case hr => first | (go_simp; done) | (go_simp; rfl)); intro gb228 hg w8 hbox hb; have BK228 := Aside0.mk (hbox); have GW228 := Aside0.mk ((by rw [hg]; exact (below_size hB_) : w.heap.size ≤ gb228)); have GE228 := Aside0.mk ((by rw [hg]; exact (below_size hB_) : w.heap.size ≤ gb228)); replace HB := Aside0.mk (below_step hB_ hb); clear hb hbox hg; have hcz9_0 : w8.cell? ⟨gb228, 0, none⟩ = some (.int .u64 a0_0) := (blk_cell BK228.out 0).trans rfl; have hcz9_1 : w8.cell? ⟨gb228, 1, none⟩ = some (.int .i64 a0_1) := (blk_cell BK228.out 1).trans rfl; have hfz9_0 := blk_frozen BK228.out 0; have hfz9_1 := blk_frozen BK228.out 1) | ((with_reducible refine gate_callee (f := 48) rfl ?_); refine goesL_ (some 6) rfl rfl Try.func48 r6_ rfl #[.int .u64 a0_0] rfl hA_ ?_; (with_reducible refine (screeref15_time.calls a0_0 true _ A2.out).mono ?_); rintro e w' ⟨rfl, ⟨nd, rfl⟩⟩; refine ⟨_, rfl, ?_⟩))
  go_ret2
  exact ⟨rf_, r16_⟩
 rw [if_neg c7] at H
 have c7b0 : decide (3 < a0_1) = false := decide_eq_false c7
 clear c7
 obtain ⟨y230, hy230⟩ : ∃ y_ : List Int, y_ = (([(a0_1) % 256] : List Int)) := ⟨_, rfl⟩
 replace H : ((screeref01_Short.f k a0_0).bind fun t233 => (if (strOfNums y230).size + t233.size ≤ 9223372036854775807 then (some ((strOfNums y230) ++ t233, 0)) else (none))) = some (r1, r2) := by first | (rw [hy230]; with_reducible exact H) | (have H2_ := (Option.bind_some _ _).symm.trans H; rw [hy230]; with_reducible exact H2_) | (have H2_ := (Option.bind_some _ _).symm.trans H; with_reducible exact H2_) | with_reducible exact H | (rw [hy230]; exact H) | exact H
 have Ny230 := Aside0.mk hy230
 clear hy230
 replace H := Option.bind_eq_some_iff.mp H
 obtain ⟨t233, A100, H⟩ := H
 try dsimp only at H
 have A10 := Aside0.mk A100
 clear A100
 by_cases c11 : (strOfNums y230).size + t233.size ≤ 9223372036854775807
 rotate_left
 ·rw [if_neg c11] at H
  exact absurd H r34_
 rw [if_pos c11] at H
 have c11b0 := eq_true c11
 have c11b1 : decide ((strOfNums y230).size + t233.size ≤ 9223372036854775807) = true := decide_eq_true c11
 try have c11b2 : (9223372036854775807 < (strOfNums y230).size + t233.size) = False := eq_false (Nat.not_lt.2 c11)
 try (have c11b3 := c11b2; simp only [ByteArray.size_append] at c11b3)
 try (have c11b4 := c11b2; simp only [ByteArray.size_extract, ByteArray.size_append, Nat.sub_zero] at c11b4)
 simp only [Option.some.injEq, Prod.mk.injEq] at H
 obtain ⟨rfl, rfl⟩ := H
 go_enter Try.func35, Try.ntmps35
 try go_wp2_with (first | ((with_reducible refine gate_dst (N := 1) rfl ?_); refine box_event ?hg (N := 1) ?hd (cs := #[.int .u64 a0_0, .int .i64 a0_1]) (t := 42) ?hr ?_; (case hd => rfl); (case hg => rfl); (case hr => first | (go_simp; done) | (go_simp; rfl)); intro gb228 hg w12 hbox hb; have BK228 := Aside0.mk (hbox); have GW228 := Aside0.mk ((by rw [hg]; exact (below_size hB_) : w.heap.size ≤ gb228)); have GE228 := Aside0.mk ((by rw [hg]; exact (below_size hB_) : w.heap.size ≤ gb228)); replace HB := Aside0.mk (below_step hB_ hb); clear hb hbox hg; have hcz13_0 : w12.cell? ⟨gb228, 0, none⟩ = some (.int .u64 a0_0) := (blk_cell BK228.out 0).trans rfl; have hcz13_1 : w12.cell? ⟨gb228, 1, none⟩ = some (.int .i64 a0_1) := (blk_cell BK228.out 1).trans rfl; have hfz13_0 := blk_frozen BK228.out 0; have hfz13_1 := blk_frozen BK228.out 1) | ((with_reducible refine gate_callee (f := 48) rfl ?_); refine goesL_ (some 6) rfl rfl Try.func48 r6_ rfl #[.int .u64 a0_0] rfl hA_ ?_; (with_reducible refine (screeref15_time.calls a0_0 true _ A2.out).mono ?_); rintro e w' ⟨rfl, ⟨nd, rfl⟩⟩; refine ⟨_, rfl, ?_⟩))
 (try (rw [drewN_self w12]; generalize hq_ : World.drewN w12 _ = w12; have n0_ : Aside0 (w12.heap[gb228]? = some (.cells #[.int .u64 a0_0, .int .i64 a0_1] 42 (0, 0))) := ⟨by rw [← hq_]; exact r32_⟩; have n1_ : Aside0 (Below w.heap.size w w12) := ⟨by rw [← hq_]; exact r16_⟩; clear BK228 HB hq_; have BK228 := n0_; have HB := n1_; clear n0_ n1_))
 replace BK228 := Aside0.mk (blk_drew BK228.out)
 replace HB := Aside0.mk (below_drew1 HB.out)
 refine start_ (n := 11) (S := fun w' => w'.cell? ⟨gb228, 0, none⟩ = some (.int .u64 a0_0) ∧ w'.cell? ⟨gb228, 1, none⟩ = some (.int .i64 a0_1)) (ds := []) #[N,N,N,N,N,N,N,N,N,N,N] r6_ rfl rfl ⟨(blk_cell BK228.out 0).trans rfl, (blk_cell BK228.out 1).trans rfl⟩ (fun hHeld => ?_); refine with_tabW screeref15_Write.tab3 screeref15_Write.bits3 (fun HT_ HW_ => ?_)
 generalize w12.drew = w14 at BK228 HB hHeld ⊢
 refine pure_ (i := 0) (N := some 18) (v := ?_) (a' := ?_) #[Y,N,N,N,N,N,N,N,N,N,N] rfl rfl (any_of HT_.out r6_) (fun _ _ _ h => h) (Or.inl ⟨by rfl, ?_⟩) ?_ ?_
 rotate_left
 ·intro w'
  go_simp
  with_reducible rfl
 rotate_left
 ·simp only [Act.put, sp_, i64_w, i32_w]
  rfl
 refine pure_ (i := 5) (N := some 23) (v := ?_) (a' := ?_) #[Y,N,N,N,N,Y,N,N,N,N,N] rfl rfl (any_of HT_.out r6_) (fun _ _ _ h => h) (Or.inl ⟨by rfl, ?_⟩) ?_ ?_
 rotate_left
 ·intro w'
  go_simp
  with_reducible rfl
 rotate_left
 ·simp only [Act.put, sp_, i64_w, i32_w]
  rfl
 refine take_ (i := 1) (N := some 19) (v := ?_) (a' := ?_) #[Y,Y,N,N,N,Y,N,N,N,N,N] rfl rfl (take_ofW HT_.out HW_.out r6_) (fun _ _ _ h => h) (Or.inl ⟨by rfl, ?_⟩) hHeld ?_ ?_
 rotate_left
 ·rintro w' ⟨s0, s1⟩
  go_simp
  with_reducible rfl
 rotate_left
 ·simp only [Act.put, sp_, i64_w, i32_w]
  rfl
 refine pure_ (i := 2) (N := some 20) (v := ?_) (a' := ?_) #[Y,Y,Y,N,N,Y,N,N,N,N,N] rfl rfl (any_of HT_.out r6_) (fun _ _ _ h => h) (Or.inl ⟨by rfl, ?_⟩) ?_ ?_
 rotate_left
 ·intro w'
  go_simp
  with_reducible rfl
 rotate_left
 ·simp only [Act.put, sp_, i64_w, i32_w]
  rfl
 refine take_ (i := 6) (N := some 24) (v := ?_) (a' := ?_) #[Y,Y,Y,N,N,Y,Y,N,N,N,N] rfl rfl (take_ofW HT_.out HW_.out r6_) (fun _ _ _ h => h) (Or.inl ⟨by rfl, ?_⟩) hHeld ?_ ?_
 rotate_left
 ·rintro w' ⟨s0, s1⟩
  go_simp
  with_reducible rfl
 rotate_left
 ·simp only [Act.put, sp_, i64_w, i32_w]
  rfl
 refine join_ (σ := Value) 3 #[Y,Y,Y,Y,Y,Y,Y,Y,N,N,N] (fun s_ => [(21, s_), (22, .string (strOfNums y230)), (25, .string t233)]) (fun s_ w' => (w'.cell? ⟨gb228, 0, none⟩ = some (.int .u64 a0_0) ∧ w'.cell? ⟨gb228, 1, none⟩ = some (.int .i64 a0_1)) ∧ (Kd.R (Kd.int .u8) 5 w' w.heap.size (fun _ => True) s_ y230) ∧ (w'.heap[gb228]? = some (.cells #[.int .u64 a0_0, .int .i64 a0_1] 42 (0, 0))) ∧ (Below w.heap.size w w')) ?_ ?_
 rotate_left
 ·intro hCont
  refine two_ (i := 3) (j := 7) (Ni := some 21) (Nj := some 25) #[Y,Y,Y,Y,N,Y,Y,N,N,N,N] #[Y,Y,Y,N,N,Y,Y,Y,N,N,N] rfl rfl rfl rfl (two_of HT_.out r6_) r44_ r44_ (fun K hK => ?_) (fun K hK => ?_)
  ·skip
   refine Kd.R_lit_step (Kd.int .u8) _ 5 ?hg (N := 21) ?hd (xs := ([(a0_1) % 256] : List Int)) (inner := [.int .u8 ((a0_1) % 256)]) (ok := fun _ => True) (okp := fun _ => True) ?hr ?hp (fun _ hk => hk) trivial (Below.refl _ _) (Nat.le_refl _) r34_ ?_; (case hd => rfl); (case hg => rfl); (case hr => first | (go_simp; done) | (go_simp; rfl)); (case hp => exact (Reps.one (show Kd.M (Kd.int .u8) _ _ _ ((a0_1) % 256) [.int .u8 ((a0_1) % 256)] from rfl) (Reps.none _ _)))
   intro v231 w15 ho16 hb hg_ hnew_
   clear hg_ hnew_
   (first | rw [← Ny230.out] at ho16 | (simp only [Int.reduceToNat] at ho16; rw [← Ny230.out] at ho16))
   have HO232 := Aside0.mk (Kd.R_lower ho16 (below_size r16_))
   replace BK228 := Aside0.mk (blk_below (g := gb228) (o := .cells #[.int .u64 a0_0, .int .i64 a0_1] 42 (0, 0)) r32_ hb)
   replace HB := Aside0.mk (below_step r16_ hb)
   clear hb ho16
   refine hK.out _ _ ⟨(blk_cell BK228.out 0).trans rfl, (blk_cell BK228.out 1).trans rfl⟩ (fun hHeld => ?_)
   clear hK K
   refine norm_ (a' := ?_) ?_ ?_
   rotate_left
   ·show Act.put _ (some 21) _ = _
    simp only [Act.put, sp_, i64_w, i32_w]
    rfl
   refine two_ (i := 4) (j := 7) (Ni := some 22) (Nj := some 25) #[Y,Y,Y,Y,Y,Y,Y,N,N,N,N] #[Y,Y,Y,Y,N,Y,Y,Y,N,N,N] rfl rfl rfl rfl (two_of HT_.out r6_) r44_ r44_ (fun K hK => ?_) (fun K hK => ?_)
   ·skip
    have hcv17 := own_string (P := Try.prog) Try.underlying96 Try.underlying5 Try.underlying9 (Kd.own_of_R HO232.out)
    refine value_ (w1 := ?_) (v := ?_) (by rfl) rfl ?_ ?_
    rotate_left 2
    ·go_simp
     constructor
     ·rfl
     ·rfl
    clear hcv17
    refine hK.out _ _ ⟨(blk_cell BK228.out 0).trans rfl, (blk_cell BK228.out 1).trans rfl⟩ (fun hHeld => ?_)
    clear hK K
    refine norm_ (a' := ?_) ?_ ?_
    rotate_left
    ·show Act.put _ (some 22) _ = _
     simp only [Act.put, sp_, i64_w, i32_w]
     rfl
    refine one_ (i := 7) (N := some 25) #[Y,Y,Y,Y,Y,Y,Y,Y,N,N,N] rfl rfl (one_of HT_.out r6_) r44_ (fun K hK => ?_)
    refine goes_ Try.func49 r6_ rfl #[.int .u64 a0_0] (by rfl) rfl rfl hA_ ?_
    with_reducible refine (screeref01_Short.calls k a0_0 t233 _ A10.out).mono ?_
    rintro e w18 ⟨rfl, hb⟩
    refine ⟨_, rfl, ?_⟩
    replace HO232 := Aside0.mk (Kd.R_below r51_ hb)
    replace BK228 := Aside0.mk (blk_below (g := gb228) (o := .cells #[.int .u64 a0_0, .int .i64 a0_1] 42 (0, 0)) r32_ hb)
    replace HB := Aside0.mk (below_step r16_ hb)
    (try clear hb)
    (try clear hb2)
    (try clear hk)
    (try clear hi)
    (try clear A10)
    refine hK.out _ _ ⟨(blk_cell BK228.out 0).trans rfl, (blk_cell BK228.out 1).trans rfl⟩ (fun hHeld => ?_)
    clear hK K
    refine norm_ (a' := ?_) ?_ ?_
    rotate_left
    ·show Act.put _ (some 25) _ = _
     simp only [Act.put, sp_, i64_w, i32_w]
     rfl
    exact norm_ (by simp only [putAll, Act.put, sp_]) (hCont (v231) _ ⟨hHeld, r51_, r32_, r16_⟩)
   ·skip
    refine goes_ Try.func49 r6_ rfl #[.int .u64 a0_0] (by rfl) rfl rfl hA_ ?_
    with_reducible refine (screeref01_Short.calls k a0_0 t233 _ A10.out).mono ?_
    rintro e w17 ⟨rfl, hb⟩
    refine ⟨_, rfl, ?_⟩
    replace HO232 := Aside0.mk (Kd.R_below r51_ hb)
    replace BK228 := Aside0.mk (blk_below (g := gb228) (o := .cells #[.int .u64 a0_0, .int .i64 a0_1] 42 (0, 0)) r32_ hb)
    replace HB := Aside0.mk (below_step r16_ hb)
    (try clear hb)
    (try clear hb2)
    (try clear hk)
    (try clear hi)
    (try clear A10)
    refine hK.out _ _ ⟨(blk_cell BK228.out 0).trans rfl, (blk_cell BK228.out 1).trans rfl⟩ (fun hHeld => ?_)
    clear hK K
    refine norm_ (a' := ?_) ?_ ?_
    rotate_left
    ·show Act.put _ (some 25) _ = _
     simp only [Act.put, sp_, i64_w, i32_w]
     rfl
    refine one_ (i := 4) (N := some 22) #[Y,Y,Y,Y,Y,Y,Y,Y,N,N,N] rfl rfl (one_of HT_.out r6_) r44_ (fun K hK => ?_)
    have hcv18 := own_string (P := Try.prog) Try.underlying96 Try.underlying5 Try.underlying9 (Kd.own_of_R HO232.out)
    refine value_ (w1 := ?_) (v := ?_) (by rfl) rfl ?_ ?_
    rotate_left 2
    ·go_simp
     constructor
     ·rfl
     ·rfl
    clear hcv18
    refine hK.out _ _ ⟨(blk_cell BK228.out 0).trans rfl, (blk_cell BK228.out 1).trans rfl⟩ (fun hHeld => ?_)
    clear hK K
    refine norm_ (a' := ?_) ?_ ?_
    rotate_left
    ·show Act.put _ (some 22) _ = _
     simp only [Act.put, sp_, i64_w, i32_w]
     rfl
    exact norm_ (by simp only [putAll, Act.put, sp_]) (hCont (v231) _ ⟨hHeld, r51_, r32_, r16_⟩)
  ·skip
   refine goes_ Try.func49 r6_ rfl #[.int .u64 a0_0] (by rfl) rfl rfl hA_ ?_
   with_reducible refine (screeref01_Short.calls k a0_0 t233 _ A10.out).mono ?_
   rintro e w15 ⟨rfl, hb⟩
   refine ⟨_, rfl, ?_⟩
   replace BK228 := Aside0.mk (blk_below (g := gb228) (o := .cells #[.int .u64 a0_0, .int .i64 a0_1] 42 (0, 0)) r32_ hb)
   replace HB := Aside0.mk (below_step r16_ hb)
   (try clear hb)
   (try clear hb2)
   (try clear hk)
   (try clear hi)
   (try clear A10)
   refine hK.out _ _ ⟨(blk_cell BK228.out 0).trans rfl, (blk_cell BK228.out 1).trans rfl⟩ (fun hHeld => ?_)
   clear hK K
   refine norm_ (a' := ?_) ?_ ?_
   rotate_left
   ·show Act.put _ (some 25) _ = _
    simp only [Act.put, sp_, i64_w, i32_w]
    rfl
   refine one_ (i := 3) (N := some 21) #[Y,Y,Y,Y,N,Y,Y,Y,N,N,N] rfl rfl (one_of HT_.out r6_) r44_ (fun K hK => ?_)
   refine Kd.R_lit_step (Kd.int .u8) _ 5 ?hg (N := 21) ?hd (xs := ([(a0_1) % 256] : List Int)) (inner := [.int .u8 ((a0_1) % 256)]) (ok := fun _ => True) (okp := fun _ => True) ?hr ?hp (fun _ hk => hk) trivial (Below.refl _ _) (Nat.le_refl _) r34_ ?_; (case hd => rfl); (case hg => rfl); (case hr => first | (go_simp; done) | (go_simp; rfl)); (case hp => exact (Reps.one (show Kd.M (Kd.int .u8) _ _ _ ((a0_1) % 256) [.int .u8 ((a0_1) % 256)] from rfl) (Reps.none _ _)))
   intro v231 w16 ho17 hb hg_ hnew_
   clear hg_ hnew_
   (first | rw [← Ny230.out] at ho17 | (simp only [Int.reduceToNat] at ho17; rw [← Ny230.out] at ho17))
   have HO232 := Aside0.mk (Kd.R_lower ho17 (below_size r16_))
   replace BK228 := Aside0.mk (blk_below (g := gb228) (o := .cells #[.int .u64 a0_0, .int .i64 a0_1] 42 (0, 0)) r32_ hb)
   replace HB := Aside0.mk (below_step r16_ hb)
   clear hb ho17
   refine hK.out _ _ ⟨(blk_cell BK228.out 0).trans rfl, (blk_cell BK228.out 1).trans rfl⟩ (fun hHeld => ?_)
   clear hK K
   refine norm_ (a' := ?_) ?_ ?_
   rotate_left
   ·show Act.put _ (some 21) _ = _
    simp only [Act.put, sp_, i64_w, i32_w]
    rfl
   refine one_ (i := 4) (N := some 22) #[Y,Y,Y,Y,Y,Y,Y,Y,N,N,N] rfl rfl (one_of HT_.out r6_) r44_ (fun K hK => ?_)
   have hcv18 := own_string (P := Try.prog) Try.underlying96 Try.underlying5 Try.underlying9 (Kd.own_of_R HO232.out)
   refine value_ (w1 := ?_) (v := ?_) (by rfl) rfl ?_ ?_
   rotate_left 2
   ·go_simp
    constructor
    ·rfl
    ·rfl
   clear hcv18
   refine hK.out _ _ ⟨(blk_cell BK228.out 0).trans rfl, (blk_cell BK228.out 1).trans rfl⟩ (fun hHeld => ?_)
   clear hK K
   refine norm_ (a' := ?_) ?_ ?_
   rotate_left
   ·show Act.put _ (some 22) _ = _
    simp only [Act.put, sp_, i64_w, i32_w]
    rfl
   exact norm_ (by simp only [putAll, Act.put, sp_]) (hCont (v231) _ ⟨hHeld, r51_, r32_, r16_⟩)
 rintro v231 w19 ⟨hS_, h0_, h1_, h2_⟩
 have n0_ : Aside0 (Kd.R (Kd.int .u8) 5 w19 w.heap.size (fun _ => True) v231 y230) := ⟨h0_⟩
 have n1_ : Aside0 (w19.heap[gb228]? = some (.cells #[.int .u64 a0_0, .int .i64 a0_1] 42 (0, 0))) := ⟨h1_⟩
 have n2_ : Aside0 (Below w.heap.size w w19) := ⟨h2_⟩
 clear BK228
 clear HB
 clear h0_ h1_ h2_
 have HO232 := n0_
 have BK228 := n1_
 have HB := n2_
 clear n0_ n1_ n2_
 have hHeld : w19.cell? ⟨gb228, 0, none⟩ = some (.int .u64 a0_0) ∧ w19.cell? ⟨gb228, 1, none⟩ = some (.int .i64 a0_1) := hS_
 refine norm_ (a' := ?_) ?_ ?_
 rotate_left
 ·simp only [putAll, Act.put, sp_]
  rfl
 refine pure_ (i := 8) (N := some 26) (v := ?_) (a' := ?_) #[Y,Y,Y,Y,Y,Y,Y,Y,Y,N,N] rfl rfl (any_of HT_.out r6_) (fun _ _ _ h => h) (Or.inl ⟨by rfl, ?_⟩) ?_ ?_
 rotate_left
 ·intro w'
  go_simp
  with_reducible rfl
 rotate_left
 ·simp only [Act.put, sp_, i64_w, i32_w]
  rfl
 refine pure_ (i := 9) (N := some 2) (v := ?_) (a' := ?_) #[Y,Y,Y,Y,Y,Y,Y,Y,Y,Y,N] rfl rfl (any_of HT_.out r6_) (fun _ _ _ h => h) (Or.inl ⟨by rfl, ?_⟩) ?_ ?_
 rotate_left
 ·intro w'
  go_simp
  with_reducible rfl
 rotate_left
 ·simp only [Act.put, sp_, i64_w, i32_w]
  rfl
 refine pure_ (i := 10) (N := some 3) (v := ?_) (a' := ?_) #[Y,Y,Y,Y,Y,Y,Y,Y,Y,Y,Y] rfl rfl (any_of HT_.out r6_) (fun _ _ _ h => h) (Or.inl ⟨by rfl, ?_⟩) ?_ ?_
 rotate_left
 ·intro w'
  go_simp
  with_reducible rfl
 rotate_left
 ·simp only [Act.put, sp_, i64_w, i32_w]
  rfl
 refine done_ (done_of HT_.out r6_) ?_
 (try clear hHeld)
 (try clear c11b0); (try clear c11b1); (try clear c11b2); (try clear c11b3); (try clear c11b4); (try clear c11b5); (try clear c11b6)
 try go_wp2
 go_ret2
 exact ⟨rf_, r16_⟩

/-! ### screelaw17_write: function 23 -/
def screelaw17_write.f (k : Nat) (a0 : Int) (a1 : Int) (a2 : Int) : Option (ByteArray × Int × Bool × ByteArray) := (screeref02_Make.f k 2 (⟨#[97]⟩ : ByteArray) a0).bind fun bt235 => ((screeref15_Write.f k a1 a2).bind fun bt237 => (some (bt235.1, 0, false, bt237.1)))
theorem screelaw17_write.mono : ∀ a0 a1 a2 k, LeO (screelaw17_write.f k a0 a1 a2) (screelaw17_write.f (k + 1) a0 a1 a2) := by
 intro a0 a1 a2 k
 unfold screelaw17_write.f
 repeat' first
   | (with_reducible exact LeO.refl _)
   | (with_reducible exact LeO.none _)
   | (with_reducible refine LeO.ite ?_ ?_)
   | (with_reducible refine LeO.bind ?_ (fun _ => ?_))
   | exact screeref02_Make.mono _ _ _ _
   | exact screeref15_Write.mono _ _ _
   | exact LeO.none _
   | refine LeO.ite ?_ ?_
   | refine LeO.bind ?_ (fun _ => ?_)
set_option maxHeartbeats 8000000 in
set_option maxRecDepth 100000 in
theorem screelaw17_write.calls (k : Nat) (a0 : Int) (a1 : Int) (a2 : Int) (r1 : ByteArray) (r2 : Int) (r3 : Bool) (r4 : ByteArray) (w : World) (h : screelaw17_write.f k a0 a1 a2 = some (r1, r2, r3, r4)) :
  Calls Try.prog 23 #[.int .u64 a0, .int .u64 a1, .int .i64 a2] w fun e w' => e = .returned (.agg #[.string r1, .int .u64 r2, .bool r3, .string r4]) ∧ Below w.heap.size w w' := by
 have hu47 := Try.underlying47
 have hu53 := Try.underlying53
 have hu42 := Try.underlying42
 have HB := Aside0.mk (Below.refl w.heap.size w)
 have H : ((screeref02_Make.f k 2 (⟨#[97]⟩ : ByteArray) a0).bind fun bt235 => ((screeref15_Write.f k a1 a2).bind fun bt237 => (some (bt235.1, 0, false, bt237.1)))) = some (r1, r2, r3, r4) := h
 clear h
 replace H := Option.bind_eq_some_iff.mp H
 obtain ⟨⟨t235, t236⟩, A40, H⟩ := H
 try dsimp only at H
 have A4 := Aside0.mk A40
 clear A40
 replace H := Option.bind_eq_some_iff.mp H
 obtain ⟨⟨t237, t238⟩, A50, H⟩ := H
 try dsimp only at H
 have A5 := Aside0.mk A50
 clear A50
 simp only [Option.some.injEq, Prod.mk.injEq] at H
 obtain ⟨rfl, rfl, rfl, rfl⟩ := H
 go_enter Try.func23, Try.ntmps23
 go_wp2_with (first | ((with_reducible refine gate_dst (N := 6) rfl ?_); refine box_event ?hg (N := 6) ?hd (cs := #[.string (⟨#[]⟩ : ByteArray), .int .u64 0, .bool false, .string (⟨#[]⟩ : ByteArray)]) (t := 47) ?hr ?_; (case hd => rfl); (case hg => rfl); (case hr => first | (go_simp; done) | (go_simp; rfl)); intro gb234 hg w6 hbox hb; have BK234 := Aside0.mk (hbox); have GW234 := Aside0.mk ((by rw [hg]; exact (below_size hB_) : w.heap.size ≤ gb234)); have GE234 := Aside0.mk ((by rw [hg]; exact (below_size hB_) : w.heap.size ≤ gb234)); replace HB := Aside0.mk (below_step hB_ hb); clear hb hbox hg) | ((with_reducible refine gate_callee (f := 22) rfl ?_); refine goesL_ (some 14) rfl rfl Try.func22 r6_ rfl #[.agg #[.int .i64 2, .string (⟨#[97]⟩ : ByteArray), .int .u64 a0]] rfl hA_ ?_; (with_reducible refine (screeref02_Make.calls k 2 (⟨#[97]⟩ : ByteArray) a0 t235 t236 _ A4.out).mono ?_); rintro e w7 ⟨rfl, hb⟩; refine ⟨_, rfl, ?_⟩; replace BK234 := Aside0.mk (blk_below (g := gb234) (o := .cells #[.string (⟨#[]⟩ : ByteArray), .int .u64 0, .bool false, .string (⟨#[]⟩ : ByteArray)] 47 (0, 0)) (by (with_reducible repeat (first | refine blk_drewN ?_ _ | refine blk_drew ?_ | refine blk_alloc ?_ _)); exact BK234.out) hb); replace HB := Aside0.mk (below_step r63_ hb); clear hb A4) | ((with_reducible refine gate_callee (f := 35) rfl ?_); refine goesL_ (some 21) rfl rfl Try.func35 r6_ rfl #[.agg #[.int .u64 a1, .int .i64 a2]] rfl hA_ ?_; (with_reducible refine (screeref15_Write.calls k a1 a2 t237 t238 _ A5.out).mono ?_); rintro e w8 ⟨rfl, hb⟩; refine ⟨_, rfl, ?_⟩; replace BK234 := Aside0.mk (blk_below (g := gb234) (o := .cells #[.string (⟨#[]⟩ : ByteArray), .int .u64 0, .bool false, .string (⟨#[]⟩ : ByteArray)] 47 (0, 0)) (by (with_reducible repeat (first | refine blk_drewN ?_ _ | refine blk_drew ?_ | refine blk_alloc ?_ _)); exact BK234.out) hb); replace HB := Aside0.mk (below_step r63_ hb); clear hb A5; have hcz9_0 : w8.cell? ⟨gb234, 0, none⟩ = some (.string (⟨#[]⟩ : ByteArray)) := (blk_cell BK234.out 0).trans rfl; have hcz9_1 : w8.cell? ⟨gb234, 1, none⟩ = some (.int .u64 0) := (blk_cell BK234.out 1).trans rfl; have hcz9_2 : w8.cell? ⟨gb234, 2, none⟩ = some (.bool false) := (blk_cell BK234.out 2).trans rfl; have hcz9_3 : w8.cell? ⟨gb234, 3, none⟩ = some (.string (⟨#[]⟩ : ByteArray)) := (blk_cell BK234.out 3).trans rfl; have hfz9_0 := blk_frozen BK234.out 0; have hfz9_1 := blk_frozen BK234.out 1; have hfz9_2 := blk_frozen BK234.out 2; have hfz9_3 := blk_frozen BK234.out 3))
 refine bodyPost_ret (results_cell_row rfl _ _ gb234 47 #[.string t235, .int .u64 0, .bool false, .string t237] (0, 0) _ rfl (by (with_reducible repeat (first | refine blk_drewN ?_ _ | refine blk_drew ?_ | refine blk_alloc ?_ _)); refine blk_put (cs := #[.string t235, .int .u64 0, .bool false, .string (⟨#[]⟩ : ByteArray)]) ?_ 3 _ rfl; (with_reducible repeat (first | refine blk_drewN ?_ _ | refine blk_drew ?_ | refine blk_alloc ?_ _)); refine blk_put (cs := #[.string t235, .int .u64 0, .bool false, .string (⟨#[]⟩ : ByteArray)]) ?_ 2 _ rfl; (with_reducible repeat (first | refine blk_drewN ?_ _ | refine blk_drew ?_ | refine blk_alloc ?_ _)); refine blk_put (cs := #[.string t235, .int .u64 0, .bool false, .string (⟨#[]⟩ : ByteArray)]) ?_ 1 _ rfl; (with_reducible repeat (first | refine blk_drewN ?_ _ | refine blk_drew ?_ | refine blk_alloc ?_ _)); refine blk_put (cs := #[.string (⟨#[]⟩ : ByteArray), .int .u64 0, .bool false, .string (⟨#[]⟩ : ByteArray)]) ?_ 0 _ rfl; (with_reducible repeat (first | refine blk_drewN ?_ _ | refine blk_drew ?_ | refine blk_alloc ?_ _)); exact BK234.out) Try.underlying47 rfl r6_) rfl ?_
 exact ⟨rf_, r63_⟩

/-! ### screelaw17_data: function 24 -/
def screelaw17_data.f (k : Nat) (a0 : Int) (a1 : ByteArray) : Option (ByteArray × Int × Bool × ByteArray) := (screeref02_Make.f k 3 (⟨#[97]⟩ : ByteArray) a0).bind fun bt240 => (some (bt240.1, 0, false, a1))
theorem screelaw17_data.mono : ∀ a0 a1 k, LeO (screelaw17_data.f k a0 a1) (screelaw17_data.f (k + 1) a0 a1) := by
 intro a0 a1 k
 unfold screelaw17_data.f
 repeat' first
   | (with_reducible exact LeO.refl _)
   | (with_reducible exact LeO.none _)
   | (with_reducible refine LeO.ite ?_ ?_)
   | (with_reducible refine LeO.bind ?_ (fun _ => ?_))
   | exact screeref02_Make.mono _ _ _ _
   | exact LeO.none _
   | refine LeO.ite ?_ ?_
   | refine LeO.bind ?_ (fun _ => ?_)
set_option maxHeartbeats 8000000 in
set_option maxRecDepth 100000 in
theorem screelaw17_data.calls (k : Nat) (a0 : Int) (a1 : ByteArray) (r1 : ByteArray) (r2 : Int) (r3 : Bool) (r4 : ByteArray) (w : World) (h : screelaw17_data.f k a0 a1 = some (r1, r2, r3, r4)) :
  Calls Try.prog 24 #[.int .u64 a0, .string a1] w fun e w' => e = .returned (.agg #[.string r1, .int .u64 r2, .bool r3, .string r4]) ∧ Below w.heap.size w w' := by
 have hu47 := Try.underlying47
 have hu53 := Try.underlying53
 have HB := Aside0.mk (Below.refl w.heap.size w)
 have H : ((screeref02_Make.f k 3 (⟨#[97]⟩ : ByteArray) a0).bind fun bt240 => (some (bt240.1, 0, false, a1))) = some (r1, r2, r3, r4) := h
 clear h
 replace H := Option.bind_eq_some_iff.mp H
 obtain ⟨⟨t240, t241⟩, A30, H⟩ := H
 try dsimp only at H
 have A3 := Aside0.mk A30
 clear A30
 simp only [Option.some.injEq, Prod.mk.injEq] at H
 obtain ⟨rfl, rfl, rfl, rfl⟩ := H
 go_enter Try.func24, Try.ntmps24
 go_wp2_with (first | ((with_reducible refine gate_dst (N := 4) rfl ?_); refine box_event ?hg (N := 4) ?hd (cs := #[.string (⟨#[]⟩ : ByteArray), .int .u64 0, .bool false, .string (⟨#[]⟩ : ByteArray)]) (t := 47) ?hr ?_; (case hd => rfl); (case hg => rfl); (case hr => first | (go_simp; done) | (go_simp; rfl)); intro gb239 hg w4 hbox hb; have BK239 := Aside0.mk (hbox); have GW239 := Aside0.mk ((by rw [hg]; exact (below_size hB_) : w.heap.size ≤ gb239)); have GE239 := Aside0.mk ((by rw [hg]; exact (below_size hB_) : w.heap.size ≤ gb239)); replace HB := Aside0.mk (below_step hB_ hb); clear hb hbox hg) | ((with_reducible refine gate_callee (f := 22) rfl ?_); refine goesL_ (some 10) rfl rfl Try.func22 r6_ rfl #[.agg #[.int .i64 3, .string (⟨#[97]⟩ : ByteArray), .int .u64 a0]] rfl hA_ ?_; (with_reducible refine (screeref02_Make.calls k 3 (⟨#[97]⟩ : ByteArray) a0 t240 t241 _ A3.out).mono ?_); rintro e w5 ⟨rfl, hb⟩; refine ⟨_, rfl, ?_⟩; replace BK239 := Aside0.mk (blk_below (g := gb239) (o := .cells #[.string (⟨#[]⟩ : ByteArray), .int .u64 0, .bool false, .string (⟨#[]⟩ : ByteArray)] 47 (0, 0)) (by (with_reducible repeat (first | refine blk_drewN ?_ _ | refine blk_drew ?_ | refine blk_alloc ?_ _)); exact BK239.out) hb); replace HB := Aside0.mk (below_step (by repeat (first | (with_reducible first | exact HB.out | apply below_alloc | apply pw_below_drewN | apply below_drew1 | refine below_set ?_ GE239.out) | exact HB.out)) hb); clear hb A3; have hcz6_0 : w5.cell? ⟨gb239, 0, none⟩ = some (.string (⟨#[]⟩ : ByteArray)) := (blk_cell BK239.out 0).trans rfl; have hcz6_1 : w5.cell? ⟨gb239, 1, none⟩ = some (.int .u64 0) := (blk_cell BK239.out 1).trans rfl; have hcz6_2 : w5.cell? ⟨gb239, 2, none⟩ = some (.bool false) := (blk_cell BK239.out 2).trans rfl; have hcz6_3 : w5.cell? ⟨gb239, 3, none⟩ = some (.string (⟨#[]⟩ : ByteArray)) := (blk_cell BK239.out 3).trans rfl; have hfz6_0 := blk_frozen BK239.out 0; have hfz6_1 := blk_frozen BK239.out 1; have hfz6_2 := blk_frozen BK239.out 2; have hfz6_3 := blk_frozen BK239.out 3))
 refine bodyPost_ret (results_cell_row rfl _ _ gb239 47 #[.string t240, .int .u64 0, .bool false, .string a1] (0, 0) _ rfl (by (with_reducible repeat (first | refine blk_drewN ?_ _ | refine blk_drew ?_ | refine blk_alloc ?_ _)); refine blk_put (cs := #[.string t240, .int .u64 0, .bool false, .string (⟨#[]⟩ : ByteArray)]) ?_ 3 _ rfl; (with_reducible repeat (first | refine blk_drewN ?_ _ | refine blk_drew ?_ | refine blk_alloc ?_ _)); refine blk_put (cs := #[.string t240, .int .u64 0, .bool false, .string (⟨#[]⟩ : ByteArray)]) ?_ 2 _ rfl; (with_reducible repeat (first | refine blk_drewN ?_ _ | refine blk_drew ?_ | refine blk_alloc ?_ _)); refine blk_put (cs := #[.string t240, .int .u64 0, .bool false, .string (⟨#[]⟩ : ByteArray)]) ?_ 1 _ rfl; (with_reducible repeat (first | refine blk_drewN ?_ _ | refine blk_drew ?_ | refine blk_alloc ?_ _)); refine blk_put (cs := #[.string (⟨#[]⟩ : ByteArray), .int .u64 0, .bool false, .string (⟨#[]⟩ : ByteArray)]) ?_ 0 _ rfl; (with_reducible repeat (first | refine blk_drewN ?_ _ | refine blk_drew ?_ | refine blk_alloc ?_ _)); exact BK239.out) Try.underlying47 rfl r6_) rfl ?_
 exact ⟨rf_, by repeat (first | (with_reducible first | exact HB.out | apply below_alloc | apply pw_below_drewN | apply below_drew1 | refine below_set ?_ GE239.out) | exact HB.out)⟩

end Go.Proofs.Ytcdadhgcjkgnoaa.P
