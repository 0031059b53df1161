-- Printed by a program of this session's own (wip/tools/pprint.sh, over the kit's print, with given contracts): not typed by hand.
import Derived.Test.YtcdadhgcjkgnoaaPx0
import Derived.Test.YtcdadhgcjkgnoaaPx12
import Derived.Test.YtcdadhgcjkgnoaaPx15
import Derived.Test.YtcdadhgcjkgnoaaPx16
namespace Go.Proofs.Ytcdadhgcjkgnoaa.P
open Go.RowKit Go.Proofs.YtcdadhgcjkgnoaaW.PrintWords Go.Proofs.YtcdadhgcjkgnoaaW.PrintLast Go.Proofs.YtcdadhgcjkgnoaaW.PrintMore
set_option linter.unusedVariables false
set_option linter.unusedSimpArgs false
-- SQUEEZED3

/-! ### screeref17_Split: function 27 -/
mutual
def screeref17_Split.l0 : Nat → List (S47) → Int → List (S44) → Int → Option ((List (S47)) × (List (S47)))
 | 0, _, _, _, _ => none
 | k + 1, x0, x1, x6, x7 => if x7 < (x0.length : Int) then (if 0 ≤ x7 then ((screeref17_Read.f k ((rd_T47 x0 x7).f0) ((rd_T47 x0 x7).f1) ((rd_T47 x0 x7).f2) ((rd_T47 x0 x7).f3)).bind fun bt343 => (if x6.length < 1599289640401 then (screeref17_Split.l0 k x0 x1 (x6 ++ [(⟨bt343.1, bt343.2.1, bt343.2.2.1, (⟨bt343.2.2.2.1, bt343.2.2.2.2.1, bt343.2.2.2.2.2.1, bt343.2.2.2.2.2.2.1⟩ : S40), (⟨bt343.2.2.2.2.2.2.2.1, bt343.2.2.2.2.2.2.2.2⟩ : S42)⟩ : S44)]) (wrap64 (x7 + 1))) else (none))) else (none)) else (screeref17_Split.l1 k x0 x1 x6 (([] : List (S47))) (([] : List (S47))) 0)
def screeref17_Split.l1 : Nat → List (S47) → Int → List (S44) → List (S47) → List (S47) → Int → Option ((List (S47)) × (List (S47)))
 | 0, _, _, _, _, _, _ => none
 | k + 1, x0, x1, x6, x8, x9, x10 => if x10 < (x0.length : Int) then ((screeref17_stays.f k x6 x10 x1).bind fun t361 => (if t361 = true then (if 0 ≤ x10 then (if x9.length < 2932031007402 then (screeref17_Split.l1 k x0 x1 x6 x8 (x9 ++ [(⟨(rd_T47 x0 x10).f0, (rd_T47 x0 x10).f1, (rd_T47 x0 x10).f2, (rd_T47 x0 x10).f3⟩ : S47)]) (wrap64 (x10 + 1))) else (none)) else (none)) else (if 0 ≤ x10 then (if x8.length < 2932031007402 then (screeref17_Split.l1 k x0 x1 x6 (x8 ++ [(⟨(rd_T47 x0 x10).f0, (rd_T47 x0 x10).f1, (rd_T47 x0 x10).f2, (rd_T47 x0 x10).f3⟩ : S47)]) x9 (wrap64 (x10 + 1))) else (none)) else (none)))) else (some (x8, x9))
end
def screeref17_Split.f (k : Nat) (l0 : List (S47)) (a1 : Int) : Option ((List (S47)) × (List (S47))) := screeref17_Split.l0 k l0 a1 (([] : List (S44))) 0
theorem screeref17_Split.mono_l : ∀ k, (∀ y0 y1 y2 y3, LeO (screeref17_Split.l0 k y0 y1 y2 y3) (screeref17_Split.l0 (k + 1) y0 y1 y2 y3)) ∧ (∀ y0 y1 y2 y3 y4 y5, LeO (screeref17_Split.l1 k y0 y1 y2 y3 y4 y5) (screeref17_Split.l1 (k + 1) y0 y1 y2 y3 y4 y5))
 | 0 => ⟨fun _ _ _ _ r h => by simp [screeref17_Split.l0] at h, fun _ _ _ _ _ _ r h => by simp [screeref17_Split.l1] at h⟩
 | k + 1 => by
  obtain ⟨ih0, ih1⟩ := screeref17_Split.mono_l k
  refine ⟨?_, ?_⟩
  ·intro y0 y1 y2 y3
   unfold screeref17_Split.l0
   repeat' first
   | (with_reducible exact ih0 _ _ _ _)
   | (with_reducible exact ih1 _ _ _ _ _ _)
   | (with_reducible exact LeO.refl _)
   | (with_reducible exact LeO.none _)
   | (with_reducible refine LeO.ite ?_ ?_)
   | (with_reducible refine LeO.bind ?_ (fun _ => ?_))
   | exact ih0 _ _ _ _
   | exact ih1 _ _ _ _ _ _
   | exact screeref17_Read.mono _ _ _ _ _
   | exact screeref17_stays.mono _ _ _ _
   | exact LeO.none _
   | refine LeO.ite ?_ ?_
   | refine LeO.bind ?_ (fun _ => ?_)
  ·intro y0 y1 y2 y3 y4 y5
   unfold screeref17_Split.l1
   repeat' first
   | (with_reducible exact ih0 _ _ _ _)
   | (with_reducible exact ih1 _ _ _ _ _ _)
   | (with_reducible exact LeO.refl _)
   | (with_reducible exact LeO.none _)
   | (with_reducible refine LeO.ite ?_ ?_)
   | (with_reducible refine LeO.bind ?_ (fun _ => ?_))
   | exact ih0 _ _ _ _
   | exact ih1 _ _ _ _ _ _
   | exact screeref17_Read.mono _ _ _ _ _
   | exact screeref17_stays.mono _ _ _ _
   | exact LeO.none _
   | refine LeO.ite ?_ ?_
   | refine LeO.bind ?_ (fun _ => ?_)
theorem screeref17_Split.mono : ∀ a0 a1 k, LeO (screeref17_Split.f k a0 a1) (screeref17_Split.f (k + 1) a0 a1) := by
 intro a0 a1 k
 obtain ⟨ih0, ih1⟩ := screeref17_Split.mono_l k
 unfold screeref17_Split.f
 repeat' first
   | (with_reducible exact ih0 _ _ _ _)
   | (with_reducible exact ih1 _ _ _ _ _ _)
   | (with_reducible exact LeO.refl _)
   | (with_reducible exact LeO.none _)
   | (with_reducible refine LeO.ite ?_ ?_)
   | (with_reducible refine LeO.bind ?_ (fun _ => ?_))
   | exact ih0 _ _ _ _
   | exact ih1 _ _ _ _ _ _
   | exact screeref17_Read.mono _ _ _ _ _
   | exact screeref17_stays.mono _ _ _ _
   | exact LeO.none _
   | refine LeO.ite ?_ ?_
   | refine LeO.bind ?_ (fun _ => ?_)
set_option maxHeartbeats 8000000 in
set_option maxRecDepth 100000 in
theorem screeref17_Split.calls (k : Nat) (A0 : Option Addr) (c0 : Nat) (l0 : List (S47)) (a1 : Int) (r1 : List (S47)) (r2 : List (S47)) (w : World) (hr0 : Kd.C k47 w A0 l0.length l0) (hc0 : l0.length ≤ c0) (h : screeref17_Split.f k l0 a1 = some (r1, r2)) :
  Calls Try.prog 27 #[.slice A0 l0.length c0, .int .u64 a1] w fun e w' => ∃ v0_ v1_ : Value, e = .returned (.tuple #[v0_, v1_]) ∧ Kd.R k47 47 w' w.heap.size (fun k_ => some k_ ≠ (v1_ : Value).ownBlock) v0_ r1 ∧ Kd.R k47 47 w' w.heap.size (fun k_ => some k_ ≠ (v0_ : Value).ownBlock) v1_ r2 ∧ Below w.heap.size w w' := by
 have hu47 := Try.underlying47
 have HR0 := Aside0.mk hr0
 have HC0 := Aside0.mk hc0
 clear hr0 hc0
 have HB := Aside0.mk (Below.refl w.heap.size w)
 have H : (screeref17_Split.l0 k l0 a1 (([] : List (S44))) 0) = some (r1, r2) := h
 clear h
 obtain ⟨y339, hy339⟩ : ∃ y_ : List (S44), y_ = (([] : List (S44))) := ⟨_, rfl⟩
 replace H : (screeref17_Split.l0 k l0 a1 y339 0) = some (r1, r2) := by first | (rw [hy339]; with_reducible exact H) | (have H2_ := (Option.bind_some _ _).symm.trans H; rw [hy339]; with_reducible exact H2_) | (have H2_ := (Option.bind_some _ _).symm.trans H; with_reducible exact H2_) | with_reducible exact H | (rw [hy339]; exact H) | exact H
 have Ny339 := Aside0.mk hy339
 clear hy339
 have H' := Aside0.mk H
 clear H
 go_enter Try.func27, Try.ntmps27
 go_wp2_with (first | ((with_reducible refine gate_dst (N := 11) rfl ?_); refine Kd.R_lit k44 _ 44 ?hg (N := 11) ?hd (xs := ([] : List (S44))) (inner := []) (ok := fun _ => True) (okp := fun _ => True) ?hr ?hp (fun _ hk => hk) trivial (Below.refl _ _) (Nat.le_refl _) r34_ ?_; (case hd => rfl); (case hg => rfl); (case hr => first | (go_simp; done) | (go_simp; rfl)); (case hp => exact (Reps.none _ _)); intro v340 w3 ho4 hb hg_ hnew_; clear hg_ hnew_; (first | rw [← Ny339.out] at ho4 | (simp only [Int.reduceToNat] at ho4; rw [← Ny339.out] at ho4)); have HO341 := Aside0.mk (Kd.R_lower ho4 (below_size hB_)); replace HB := Aside0.mk (below_step hB_ hb); clear hb ho4))
 go_loopg [6, 7] k (fun kq v6 v7 w' => ∃ (x6_1 : List (S44)) (x7_1 : Int), v7 = .int .i64 x7_1 ∧ Aside0 (screeref17_Split.l0 kq l0 a1 x6_1 x7_1 = some (r1, r2)) ∧ Aside0 (kq ≤ k) ∧ Aside0 (Kd.R k44 44 w' w.heap.size (fun _ => True) v6 x6_1) ∧ Aside0 (Below w.heap.size w w'))
 case atStart => exact ⟨(y339), (0), rs_, H', ⟨Nat.le_refl _⟩, ⟨by (with_reducible repeat (first | apply Kd.R_alloc | apply Kd.R_drewN | apply Kd.R_drew)); exact HO341.out⟩, ⟨hB_⟩⟩
 case round =>
  clear H'
  obtain ⟨x6_1, x7_1, rfl, HA, HK1, HO_6, HB⟩ := hrel
  cases gk with
  | zero => exact absurd HA.out (by simp [screeref17_Split.l0])
  | succ k1 =>
   have H := HA.out
   clear HA
   simp only [screeref17_Split.l0] at H
   by_cases c5 : x7_1 < (l0.length : Int)
   ·rw [if_pos c5] at H
    have c5b0 := decide_eq_true c5
    clear c5
    by_cases c6 : 0 ≤ x7_1
    rotate_left
    ·rw [if_neg c6] at H
     exact absurd H r34_
    rw [if_pos c6] at H
    have c6b0 := decide_eq_true c6
    clear c6
    replace H := Option.bind_eq_some_iff.mp H
    obtain ⟨⟨t343, t344, t345, t346, t347, t348, t349, t350, t351⟩, A70, H⟩ := H
    try dsimp only at H
    have A7 := Aside0.mk A70
    clear A70
    by_cases c8 : x6_1.length < 1599289640401
    rotate_left
    ·rw [if_neg c8] at H
     exact absurd H r34_
    rw [if_pos c8] at H
    have LMc8 := Aside0.mk c8
    clear c8
    obtain ⟨y352, hy352⟩ : ∃ y_ : List (S44), y_ = (x6_1 ++ [(⟨t343, t344, t345, (⟨t346, t347, t348, t349⟩ : S40), (⟨t350, t351⟩ : S42)⟩ : S44)]) := ⟨_, rfl⟩
    replace H : (screeref17_Split.l0 k1 l0 a1 y352 (wrap64 (x7_1 + 1))) = some (r1, r2) := by first | (rw [hy352]; with_reducible exact H) | (have H2_ := (Option.bind_some _ _).symm.trans H; rw [hy352]; with_reducible exact H2_) | (have H2_ := (Option.bind_some _ _).symm.trans H; with_reducible exact H2_) | with_reducible exact H | (rw [hy352]; exact H) | exact H
    have Ny352 := Aside0.mk hy352
    clear hy352
    have H' := Aside0.mk H
    clear H
    have p342 : 0 ≤ (x7_1 : Int) := of_decide_eq_true as_
    have q342 : x7_1 < (l0.length : Int) := of_decide_eq_true as_
    obtain ⟨ad342, e342, hx342_0, hx342_1, hx342_2, hx342_3⟩ := at_T47 HR0.out x7_1 p342 q342
    cases e342
    replace hx342_0 := (HB.out.cell (World.block_lt_of_cell? w _ hx342_0)).trans hx342_0
    replace hx342_1 := (HB.out.cell (World.block_lt_of_cell? w _ hx342_1)).trans hx342_1
    replace hx342_2 := (HB.out.cell (World.block_lt_of_cell? w _ hx342_2)).trans hx342_2
    replace hx342_3 := (HB.out.cell (World.block_lt_of_cell? w _ hx342_3)).trans hx342_3
    replace p342 := eq_true p342
    replace q342 := eq_true q342
    go_wp2_with (first | ((with_reducible refine gate_callee (f := 21) rfl ?_); refine goesL_ (some 23) rfl rfl Try.func21 r6_ rfl #[.agg #[.string ((rd_T47 l0 x7_1).f0), .int .u64 ((rd_T47 l0 x7_1).f1), .bool ((rd_T47 l0 x7_1).f2), .string ((rd_T47 l0 x7_1).f3)]] rfl hA_ ?_; (with_reducible refine (screeref17_Read.calls k1 ((rd_T47 l0 x7_1).f0) ((rd_T47 l0 x7_1).f1) ((rd_T47 l0 x7_1).f2) ((rd_T47 l0 x7_1).f3) t343 t344 t345 t346 t347 t348 t349 t350 t351 _ A7.out).mono ?_); rintro e w9 ⟨rfl, hb⟩; refine ⟨_, rfl, ?_⟩; replace HO_6 := Aside0.mk (Kd.R_below r19_ hb); replace HB := Aside0.mk (below_step hB_ hb); clear hb A7) | ((with_reducible refine gate_builtin (b := .append) (xs := #[.tmp 18, .tmp 24]) rfl ?_); at_builtin; refine Kd.R_append k44 (w0 := w) w.heap.size rfl (.tmp 18) (.tmp 24) 82 44 (.agg #[(.int .i64 0), (.string ⟨#[]⟩), (.int .u64 0), (.string ⟨#[]⟩), (.int .u64 0), (.int .i64 0), (.int .u64 0), (.int .u64 0), (.int .i64 0)]) 88 rfl Try.underlying82 info44 rfl r44_ r37_ u6 x6_1 (⟨t343, t344, t345, (⟨t346, t347, t348, t349⟩ : S40), (⟨t350, t351⟩ : S42)⟩ : S44) [.int .i64 t343, .string t344, .int .u64 t345, .string t346, .int .u64 t347, .int .i64 t348, .int .u64 t349, .int .u64 t350, .int .i64 t351] (fun _ => True) (fun _ => False) rfl rfl ?aP (fun _ hk => hk.elim) ?aF ?aO ?aB ?aS ?aL ?_; (case aP => exact k44_mkM _ _ _ (⟨t343, t344, t345, (⟨t346, t347, t348, t349⟩ : S40), (⟨t350, t351⟩ : S42)⟩ : S44)); (case aB => exact hB_); (case aF => exact (fun _ _ => trivial)); (case aO => exact r19_); (case aS => exact (below_size hB_)); (case aL => have := LMc8.out; omega); intro v353 w10 ho hb hg hat; rw [← Ny352.out] at ho; replace HB := Aside0.mk (hb); have HO354 := Aside0.mk (ho); clear HO_6; clear ho hb hg hat))
    go_roundg k1
    case measure => have := HK1.out; omega
    case rel => exact ⟨(y352), (wrap64 (x7_1 + 1)), rs_, hH_, ⟨by have := HK1.out; omega⟩, ⟨by (with_reducible repeat (first | apply Kd.R_alloc | apply Kd.R_drewN | apply Kd.R_drew)); exact HO354.out⟩, ⟨hB_⟩⟩
   rw [if_neg c5] at H
   have c5b0 := decide_eq_false c5
   clear c5
   obtain ⟨y355, hy355⟩ : ∃ y_ : List (S47), y_ = (([] : List (S47))) := ⟨_, rfl⟩
   replace H : (screeref17_Split.l1 k1 l0 a1 x6_1 y355 (([] : List (S47))) 0) = some (r1, r2) := by first | (rw [hy355]; with_reducible exact H) | (have H2_ := (Option.bind_some _ _).symm.trans H; rw [hy355]; with_reducible exact H2_) | (have H2_ := (Option.bind_some _ _).symm.trans H; with_reducible exact H2_) | with_reducible exact H | (rw [hy355]; exact H) | exact H
   have Ny355 := Aside0.mk hy355
   clear hy355
   obtain ⟨y358, hy358⟩ : ∃ y_ : List (S47), y_ = (([] : List (S47))) := ⟨_, rfl⟩
   replace H : (screeref17_Split.l1 k1 l0 a1 x6_1 y355 y358 0) = some (r1, r2) := by first | (rw [hy358]; with_reducible exact H) | (have H2_ := (Option.bind_some _ _).symm.trans H; rw [hy358]; with_reducible exact H2_) | (have H2_ := (Option.bind_some _ _).symm.trans H; with_reducible exact H2_) | with_reducible exact H | (rw [hy358]; exact H) | exact H
   have Ny358 := Aside0.mk hy358
   clear hy358
   have H' := Aside0.mk H
   clear H
   go_wp2_with (first | ((with_reducible refine gate_dst (N := 26) rfl ?_); refine Kd.R_lit k47 _ 47 ?hg (N := 26) ?hd (xs := ([] : List (S47))) (inner := []) (ok := fun _ => True) (okp := fun _ => True) ?hr ?hp (fun _ hk => hk) trivial (Below.refl _ _) (Nat.le_refl _) r34_ ?_; (case hd => rfl); (case hg => rfl); (case hr => first | (go_simp; done) | (go_simp; rfl)); (case hp => exact (Reps.none _ _)); intro v356 w11 ho12 hb hg_ hnew_; clear hg_ hnew_; (first | rw [← Ny355.out] at ho12 | (simp only [Int.reduceToNat] at ho12; rw [← Ny355.out] at ho12)); replace HO_6 := Aside0.mk (Kd.R_below r19_ hb); have HO357 := Aside0.mk (Kd.R_lower ho12 (below_size hB_)); replace HB := Aside0.mk (below_step hB_ hb); clear hb ho12) | ((with_reducible refine gate_dst (N := 27) rfl ?_); refine Kd.R_lit k47 _ 47 ?hg (N := 27) ?hd (xs := ([] : List (S47))) (inner := []) (ok := fun _ => True) (okp := fun _ => True) ?hr ?hp (fun _ hk => hk) trivial (Below.refl _ _) (Nat.le_refl _) r34_ ?_; (case hd => rfl); (case hg => rfl); (case hr => first | (go_simp; done) | (go_simp; rfl)); (case hp => exact (Reps.none _ _)); intro v359 w13 ho14 hb hg_ hnew_; clear hg_ hnew_; (first | rw [← Ny358.out] at ho14 | (simp only [Int.reduceToNat] at ho14; rw [← Ny358.out] at ho14)); replace HO_6 := Aside0.mk (Kd.R_below r19_ hb); have HO360 := Aside0.mk (Kd.R_lower (Kd.R_new' ho14 (Kd.R_lt (by (with_reducible repeat (first | apply Kd.R_alloc | apply Kd.R_drewN | apply Kd.R_drew)); exact HO357.out))) (below_size hB_)); replace HO357 := Aside0.mk (Kd.R_elder' (by (with_reducible repeat (first | apply Kd.R_alloc | apply Kd.R_drewN | apply Kd.R_drew)); exact HO357.out) (Kd.R_base ho14) hb); replace HB := Aside0.mk (below_step hB_ hb); clear hb ho14))
   go_loopg [8, 9, 10] k1 (fun kq v8 v9 v10 w' => ∃ (x8_2 : List (S47)) (x9_2 : List (S47)) (x10_2 : Int), v10 = .int .i64 x10_2 ∧ Aside0 (screeref17_Split.l1 kq l0 a1 x6_1 x8_2 x9_2 x10_2 = some (r1, r2)) ∧ Aside0 (kq ≤ k1) ∧ Aside0 (Kd.R k44 44 w' w.heap.size (fun _ => True) u6 x6_1) ∧ Aside0 (Kd.R k47 47 w' w.heap.size (fun k_ => some k_ ≠ (v9 : Value).ownBlock) v8 x8_2) ∧ Aside0 (Kd.R k47 47 w' w.heap.size (fun k_ => some k_ ≠ (v8 : Value).ownBlock) v9 x9_2) ∧ Aside0 (Below w.heap.size w w'))
   case atStart => exact ⟨(y355), (y358), (0), rs_, H', ⟨Nat.le_refl _⟩, ⟨r19_⟩, ⟨by (with_reducible repeat (first | apply Kd.R_alloc | apply Kd.R_drewN | apply Kd.R_drew)); exact Kd.R_mono HO357.out (fun _ hk => hk.2)⟩, ⟨by (with_reducible repeat (first | apply Kd.R_alloc | apply Kd.R_drewN | apply Kd.R_drew)); exact Kd.R_mono HO360.out (fun _ hk => hk.2)⟩, ⟨hB_⟩⟩
   case round =>
    clear H'
    try clear c5
    try clear c5b0
    obtain ⟨x8_2, x9_2, x10_2, rfl, HA, HK2, HO_6, HO_8, HO_9, HB⟩ := hrel
    cases gk with
    | zero => exact absurd HA.out (by simp [screeref17_Split.l1])
    | succ k2 =>
     have H := HA.out
     clear HA
     simp only [screeref17_Split.l1] at H
     by_cases c15 : x10_2 < (l0.length : Int)
     rotate_left
     ·rw [if_neg c15] at H
      have c15b0 := decide_eq_false c15
      clear c15
      simp only [Option.some.injEq, Prod.mk.injEq] at H
      obtain ⟨rfl, rfl⟩ := H
      go_wp2
      go_ret2
      exact ⟨_, _, rf_, r39_, r18_, hB_⟩
     rw [if_pos c15] at H
     have c15b0 := decide_eq_true c15
     clear c15
     replace H := Option.bind_eq_some_iff.mp H
     obtain ⟨t361, A160, H⟩ := H
     try dsimp only at H
     have A16 := Aside0.mk A160
     clear A160
     by_cases c17 : t361 = true
     ·subst c17
      rw [if_pos rfl] at H
      by_cases c18 : 0 ≤ x10_2
      rotate_left
      ·rw [if_neg c18] at H
       exact absurd H r34_
      rw [if_pos c18] at H
      have c18b0 := decide_eq_true c18
      clear c18
      by_cases c19 : x9_2.length < 2932031007402
      rotate_left
      ·rw [if_neg c19] at H
       exact absurd H r34_
      rw [if_pos c19] at H
      have LMc19 := Aside0.mk c19
      clear c19
      obtain ⟨y363, hy363⟩ : ∃ y_ : List (S47), y_ = (x9_2 ++ [(⟨(rd_T47 l0 x10_2).f0, (rd_T47 l0 x10_2).f1, (rd_T47 l0 x10_2).f2, (rd_T47 l0 x10_2).f3⟩ : S47)]) := ⟨_, rfl⟩
      replace H : (screeref17_Split.l1 k2 l0 a1 x6_1 x8_2 y363 (wrap64 (x10_2 + 1))) = some (r1, r2) := by first | (rw [hy363]; with_reducible exact H) | (have H2_ := (Option.bind_some _ _).symm.trans H; rw [hy363]; with_reducible exact H2_) | (have H2_ := (Option.bind_some _ _).symm.trans H; with_reducible exact H2_) | with_reducible exact H | (rw [hy363]; exact H) | exact H
      have Ny363 := Aside0.mk hy363
      clear hy363
      have H' := Aside0.mk H
      clear H
      obtain ⟨Ao20, co20, eo20⟩ := Kd.R_slice HO_6.out
      subst eo20
      go_wp2_with (first | ((with_reducible refine gate_callee (f := 37) rfl ?_); refine goesL_ (some 37) rfl rfl Try.func37 r6_ rfl #[.slice Ao20 x6_1.length co20, .int .i64 x10_2, .int .u64 a1] rfl hA_ ?_; (with_reducible refine (screeref17_stays.calls k2 _ _ x6_1 x10_2 a1 true _ ?side1 ?side2 A16.out).mono ?_); (case side1 => repeat (first | exact (Kd.R_reads' HO_6.out).2.2 | (with_reducible refine Kd.C_alloc ?_ _) | (with_reducible refine Kd.C_drewN ?_ _) | (with_reducible refine Kd.C_drew ?_))); (case side2 => exact (Kd.R_reads' HO_6.out).2.1); rintro e w' ⟨rfl, ⟨nd, rfl⟩⟩; refine ⟨_, rfl, ?_⟩; have p362 : 0 ≤ (x10_2 : Int) := of_decide_eq_true as_; have q362 : x10_2 < (l0.length : Int) := of_decide_eq_true as_; obtain ⟨ad362, e362, hx362_0, hx362_1, hx362_2, hx362_3⟩ := at_T47 HR0.out x10_2 p362 q362; cases e362; replace hx362_0 := (HB.out.cell (World.block_lt_of_cell? w _ hx362_0)).trans hx362_0; replace hx362_1 := (HB.out.cell (World.block_lt_of_cell? w _ hx362_1)).trans hx362_1; replace hx362_2 := (HB.out.cell (World.block_lt_of_cell? w _ hx362_2)).trans hx362_2; replace hx362_3 := (HB.out.cell (World.block_lt_of_cell? w _ hx362_3)).trans hx362_3; replace p362 := eq_true p362; replace q362 := eq_true q362) | ((with_reducible refine gate_builtin (b := .append) (xs := #[.tmp 38, .tmp 43]) rfl ?_); at_builtin; refine Kd.R_append k47 (w0 := w) w.heap.size rfl (.tmp 38) (.tmp 43) 22 47 (.agg #[(.string ⟨#[]⟩), (.int .u64 0), (.bool false), (.string ⟨#[]⟩)]) 48 rfl Try.underlying22 info47 rfl r44_ r37_ u9 x9_2 (⟨(rd_T47 l0 x10_2).f0, (rd_T47 l0 x10_2).f1, (rd_T47 l0 x10_2).f2, (rd_T47 l0 x10_2).f3⟩ : S47) [.string ((rd_T47 l0 x10_2).f0), .int .u64 ((rd_T47 l0 x10_2).f1), .bool ((rd_T47 l0 x10_2).f2), .string ((rd_T47 l0 x10_2).f3)] (fun k_ => some k_ ≠ (u8 : Value).ownBlock) (fun _ => False) rfl rfl ?aP (fun _ hk => hk.elim) ?aF ?aO ?aB ?aS ?aL ?_; (case aP => exact k47_mkM _ _ _ (⟨(rd_T47 l0 x10_2).f0, (rd_T47 l0 x10_2).f1, (rd_T47 l0 x10_2).f2, (rd_T47 l0 x10_2).f3⟩ : S47)); (case aB => exact hB_); (case aF => exact (fun k_ hk => Kd.fresh' (Kd.R_lt r39_) k_ hk)); (case aO => exact r18_); (case aS => exact (below_size hB_)); (case aL => have := LMc19.out; omega); intro v364 w21 ho hb hg hat; rw [← Ny363.out] at ho; replace HO_6 := Aside0.mk (Kd.R_over' r19_ (Kd.R_typed r18_) r44_ hg); replace HO_8 := Aside0.mk (Kd.R_after (ok := (fun _ => True)) (by (with_reducible repeat (first | apply Kd.R_alloc | apply Kd.R_drewN | apply Kd.R_drew)); exact Kd.R_mono HO_8.out (fun _ hk => ⟨trivial, hk⟩)) hg hat); replace HB := Aside0.mk (hb); have HO365 := Aside0.mk (ho); clear HO_9; clear ho hb hg hat))
      go_roundg k2
      case measure => have := HK1.out; have := HK2.out; omega
      case rel => exact ⟨(x8_2), (y363), (wrap64 (x10_2 + 1)), rs_, hH_, ⟨by have := HK1.out; have := HK2.out; omega⟩, ⟨r19_⟩, ⟨by (with_reducible repeat (first | apply Kd.R_alloc | apply Kd.R_drewN | apply Kd.R_drew)); exact Kd.R_mono HO_8.out (fun _ hk => hk.2)⟩, ⟨by (with_reducible repeat (first | apply Kd.R_alloc | apply Kd.R_drewN | apply Kd.R_drew)); exact HO365.out⟩, ⟨hB_⟩⟩
     replace c17 := Bool.eq_false_iff.mpr c17
     subst c17
     rw [if_neg ff_] at H
     by_cases c22 : 0 ≤ x10_2
     rotate_left
     ·rw [if_neg c22] at H
      exact absurd H r34_
     rw [if_pos c22] at H
     have c22b0 := decide_eq_true c22
     clear c22
     by_cases c23 : x8_2.length < 2932031007402
     rotate_left
     ·rw [if_neg c23] at H
      exact absurd H r34_
     rw [if_pos c23] at H
     have LMc23 := Aside0.mk c23
     clear c23
     obtain ⟨y367, hy367⟩ : ∃ y_ : List (S47), y_ = (x8_2 ++ [(⟨(rd_T47 l0 x10_2).f0, (rd_T47 l0 x10_2).f1, (rd_T47 l0 x10_2).f2, (rd_T47 l0 x10_2).f3⟩ : S47)]) := ⟨_, rfl⟩
     replace H : (screeref17_Split.l1 k2 l0 a1 x6_1 y367 x9_2 (wrap64 (x10_2 + 1))) = some (r1, r2) := by first | (rw [hy367]; with_reducible exact H) | (have H2_ := (Option.bind_some _ _).symm.trans H; rw [hy367]; with_reducible exact H2_) | (have H2_ := (Option.bind_some _ _).symm.trans H; with_reducible exact H2_) | with_reducible exact H | (rw [hy367]; exact H) | exact H
     have Ny367 := Aside0.mk hy367
     clear hy367
     have H' := Aside0.mk H
     clear H
     obtain ⟨Ao24, co24, eo24⟩ := Kd.R_slice HO_6.out
     subst eo24
     go_wp2_with (first | ((with_reducible refine gate_callee (f := 37) rfl ?_); refine goesL_ (some 37) rfl rfl Try.func37 r6_ rfl #[.slice Ao24 x6_1.length co24, .int .i64 x10_2, .int .u64 a1] rfl hA_ ?_; (with_reducible refine (screeref17_stays.calls k2 _ _ x6_1 x10_2 a1 false _ ?side1 ?side2 A16.out).mono ?_); (case side1 => repeat (first | exact (Kd.R_reads' HO_6.out).2.2 | (with_reducible refine Kd.C_alloc ?_ _) | (with_reducible refine Kd.C_drewN ?_ _) | (with_reducible refine Kd.C_drew ?_))); (case side2 => exact (Kd.R_reads' HO_6.out).2.1); rintro e w' ⟨rfl, ⟨nd, rfl⟩⟩; refine ⟨_, rfl, ?_⟩; have p366 : 0 ≤ (x10_2 : Int) := of_decide_eq_true as_; have q366 : x10_2 < (l0.length : Int) := of_decide_eq_true as_; obtain ⟨ad366, e366, hx366_0, hx366_1, hx366_2, hx366_3⟩ := at_T47 HR0.out x10_2 p366 q366; cases e366; replace hx366_0 := (HB.out.cell (World.block_lt_of_cell? w _ hx366_0)).trans hx366_0; replace hx366_1 := (HB.out.cell (World.block_lt_of_cell? w _ hx366_1)).trans hx366_1; replace hx366_2 := (HB.out.cell (World.block_lt_of_cell? w _ hx366_2)).trans hx366_2; replace hx366_3 := (HB.out.cell (World.block_lt_of_cell? w _ hx366_3)).trans hx366_3; replace p366 := eq_true p366; replace q366 := eq_true q366) | ((with_reducible refine gate_builtin (b := .append) (xs := #[.tmp 45, .tmp 50]) rfl ?_); at_builtin; refine Kd.R_append k47 (w0 := w) w.heap.size rfl (.tmp 45) (.tmp 50) 22 47 (.agg #[(.string ⟨#[]⟩), (.int .u64 0), (.bool false), (.string ⟨#[]⟩)]) 48 rfl Try.underlying22 info47 rfl r44_ r37_ u8 x8_2 (⟨(rd_T47 l0 x10_2).f0, (rd_T47 l0 x10_2).f1, (rd_T47 l0 x10_2).f2, (rd_T47 l0 x10_2).f3⟩ : S47) [.string ((rd_T47 l0 x10_2).f0), .int .u64 ((rd_T47 l0 x10_2).f1), .bool ((rd_T47 l0 x10_2).f2), .string ((rd_T47 l0 x10_2).f3)] (fun k_ => some k_ ≠ (u9 : Value).ownBlock) (fun _ => False) rfl rfl ?aP (fun _ hk => hk.elim) ?aF ?aO ?aB ?aS ?aL ?_; (case aP => exact k47_mkM _ _ _ (⟨(rd_T47 l0 x10_2).f0, (rd_T47 l0 x10_2).f1, (rd_T47 l0 x10_2).f2, (rd_T47 l0 x10_2).f3⟩ : S47)); (case aB => exact hB_); (case aF => exact (fun k_ hk => Kd.fresh' (Kd.R_lt r18_) k_ hk)); (case aO => exact r39_); (case aS => exact (below_size hB_)); (case aL => have := LMc23.out; omega); intro v368 w25 ho hb hg hat; rw [← Ny367.out] at ho; replace HO_6 := Aside0.mk (Kd.R_over' r19_ (Kd.R_typed r39_) r44_ hg); replace HO_9 := Aside0.mk (Kd.R_after (ok := (fun _ => True)) (by (with_reducible repeat (first | apply Kd.R_alloc | apply Kd.R_drewN | apply Kd.R_drew)); exact Kd.R_mono HO_9.out (fun _ hk => ⟨trivial, hk⟩)) hg hat); replace HB := Aside0.mk (hb); have HO369 := Aside0.mk (ho); clear HO_8; clear ho hb hg hat))
     go_roundg k2
     case measure => have := HK1.out; have := HK2.out; omega
     case rel => exact ⟨(y367), (x9_2), (wrap64 (x10_2 + 1)), rs_, hH_, ⟨by have := HK1.out; have := HK2.out; omega⟩, ⟨r19_⟩, ⟨by (with_reducible repeat (first | apply Kd.R_alloc | apply Kd.R_drewN | apply Kd.R_drew)); exact HO369.out⟩, ⟨by (with_reducible repeat (first | apply Kd.R_alloc | apply Kd.R_drewN | apply Kd.R_drew)); exact Kd.R_mono HO_9.out (fun _ hk => hk.2)⟩, ⟨hB_⟩⟩

/-! ### screeref17_Garbage: function 13 -/
def screeref17_Garbage.l0 : Nat → List (S47) → List ByteArray → Int → Option (List ByteArray × Int)
 | 0, _, _, _ => none
 | k + 1, x6, x8, x9 => if x9 < (x6.length : Int) then (if 0 ≤ x9 then (if x8.length < 8796093022208 then (screeref17_Garbage.l0 k x6 (x8 ++ [(rd_T47 x6 x9).f0]) (wrap64 (x9 + 1))) else (none)) else (none)) else (some (x8, 0))
def screeref17_Garbage.f (k : Nat) (l0 : List (S47)) (a1 : Int) : Option (List ByteArray × Int) := (screeref17_Rises.f k l0).bind fun t370 => (if t370 = true then ((screeref17_Split.f k l0 a1).bind fun bt371 => (screeref17_Garbage.l0 k bt371.1 (([] : List ByteArray)) 0)) else (some (([] : List ByteArray), 2)))
theorem screeref17_Garbage.mono_l : ∀ k, (∀ y0 y1 y2, LeO (screeref17_Garbage.l0 k y0 y1 y2) (screeref17_Garbage.l0 (k + 1) y0 y1 y2))
 | 0 => fun _ _ _ r h => by simp [screeref17_Garbage.l0] at h
 | k + 1 => by
  have ih0 := screeref17_Garbage.mono_l k
  ·intro y0 y1 y2
   unfold screeref17_Garbage.l0
   repeat' first
   | (with_reducible exact ih0 _ _ _)
   | (with_reducible exact LeO.refl _)
   | (with_reducible exact LeO.none _)
   | (with_reducible refine LeO.ite ?_ ?_)
   | (with_reducible refine LeO.bind ?_ (fun _ => ?_))
   | exact ih0 _ _ _
   | exact screeref17_Rises.mono _ _
   | exact screeref17_Split.mono _ _ _
   | exact LeO.none _
   | refine LeO.ite ?_ ?_
   | refine LeO.bind ?_ (fun _ => ?_)
theorem screeref17_Garbage.mono : ∀ a0 a1 k, LeO (screeref17_Garbage.f k a0 a1) (screeref17_Garbage.f (k + 1) a0 a1) := by
 intro a0 a1 k
 have ih0 := screeref17_Garbage.mono_l k
 unfold screeref17_Garbage.f
 repeat' first
   | (with_reducible exact ih0 _ _ _)
   | (with_reducible exact LeO.refl _)
   | (with_reducible exact LeO.none _)
   | (with_reducible refine LeO.ite ?_ ?_)
   | (with_reducible refine LeO.bind ?_ (fun _ => ?_))
   | exact ih0 _ _ _
   | exact screeref17_Rises.mono _ _
   | exact screeref17_Split.mono _ _ _
   | exact LeO.none _
   | refine LeO.ite ?_ ?_
   | refine LeO.bind ?_ (fun _ => ?_)
set_option maxHeartbeats 8000000 in
set_option maxRecDepth 100000 in
theorem screeref17_Garbage.calls (k : Nat) (A0 : Option Addr) (c0 : Nat) (l0 : List (S47)) (a1 : Int) (r1 : List ByteArray) (r2 : Int) (w : World) (hr0 : Kd.C k47 w A0 l0.length l0) (hc0 : l0.length ≤ c0) (h : screeref17_Garbage.f k l0 a1 = some (r1, r2)) :
  Calls Try.prog 13 #[.slice A0 l0.length c0, .int .u64 a1] w fun e w' => ∃ v0_ : Value, e = .returned (.tuple #[v0_, .int .i64 r2]) ∧ Kd.R Kd.string 9 w' w.heap.size (fun _ => True) v0_ r1 ∧ Below w.heap.size w w' := by
 have HR0 := Aside0.mk hr0
 have HC0 := Aside0.mk hc0
 clear hr0 hc0
 have HB := Aside0.mk (Below.refl w.heap.size w)
 have H : ((screeref17_Rises.f k l0).bind fun t370 => (if t370 = true then ((screeref17_Split.f k l0 a1).bind fun bt371 => (screeref17_Garbage.l0 k bt371.1 (([] : List ByteArray)) 0)) else (some (([] : List ByteArray), 2)))) = some (r1, r2) := h
 clear h
 replace H := Option.bind_eq_some_iff.mp H
 obtain ⟨t370, A30, H⟩ := H
 try dsimp only at H
 have A3 := Aside0.mk A30
 clear A30
 by_cases c4 : t370 = true
 rotate_left
 ·replace c4 := Bool.eq_false_iff.mpr c4
  subst c4
  rw [if_neg ff_] at H
  simp only [Option.some.injEq, Prod.mk.injEq] at H
  obtain ⟨rfl, rfl⟩ := H
  go_enter Try.func13, Try.ntmps13
  go_wp2_with (first | ((with_reducible refine gate_callee (f := 26) rfl ?_); refine goesL_ (some 11) rfl rfl Try.func26 r6_ rfl #[.slice A0 l0.length c0] rfl hA_ ?_; (with_reducible refine (screeref17_Rises.calls k _ _ l0 false _ ?side1 ?side2 A3.out).mono ?_); (case side1 => repeat (first | exact HR0.out | (with_reducible refine Kd.C_alloc ?_ _) | (with_reducible refine Kd.C_drewN ?_ _) | (with_reducible refine Kd.C_drew ?_))); (case side2 => exact HC0.out); rintro e w' ⟨rfl, ⟨nd, rfl⟩⟩; refine ⟨_, rfl, ?_⟩))
  go_ret2
  exact ⟨_, rf_, by first | exact Kd.R_nil _ _ _ _ _ | exact Kd.N_nil _ _ _ _ _ | exact Kd.V_nil _ _ _ _ _ | exact Kd.Q_nil _ _ _ _ _ | exact Kd.S_nil _ _ _ _ _, hB_⟩
 subst c4
 rw [if_pos rfl] at H
 replace H := Option.bind_eq_some_iff.mp H
 obtain ⟨⟨t371, t372⟩, A50, H⟩ := H
 try dsimp only at H
 have A5 := Aside0.mk A50
 clear A50
 obtain ⟨y377, hy377⟩ : ∃ y_ : List ByteArray, y_ = (([] : List ByteArray)) := ⟨_, rfl⟩
 replace H : (screeref17_Garbage.l0 k t371 y377 0) = some (r1, r2) := by first | (rw [hy377]; with_reducible exact H) | (have H2_ := (Option.bind_some _ _).symm.trans H; rw [hy377]; with_reducible exact H2_) | (have H2_ := (Option.bind_some _ _).symm.trans H; with_reducible exact H2_) | with_reducible exact H | (rw [hy377]; exact H) | exact H
 have Ny377 := Aside0.mk hy377
 clear hy377
 have H' := Aside0.mk H
 clear H
 go_enter Try.func13, Try.ntmps13
 go_wp2_with (first | ((with_reducible refine gate_callee (f := 26) rfl ?_); refine goesL_ (some 11) rfl rfl Try.func26 r6_ rfl #[.slice A0 l0.length c0] rfl hA_ ?_; (with_reducible refine (screeref17_Rises.calls k _ _ l0 true _ ?side1 ?side2 A3.out).mono ?_); (case side1 => repeat (first | exact HR0.out | (with_reducible refine Kd.C_alloc ?_ _) | (with_reducible refine Kd.C_drewN ?_ _) | (with_reducible refine Kd.C_drew ?_))); (case side2 => exact HC0.out); rintro e w' ⟨rfl, ⟨nd, rfl⟩⟩; refine ⟨_, rfl, ?_⟩) | ((with_reducible refine gate_callee (f := 27) rfl ?_); refine goesL_ (some 16) rfl rfl Try.func27 r6_ rfl #[.slice A0 l0.length c0, .int .u64 a1] rfl hA_ ?_; (with_reducible refine (screeref17_Split.calls k _ _ l0 a1 t371 t372 _ ?side1 ?side2 A5.out).mono ?_); (case side1 => repeat (first | exact HR0.out | (with_reducible refine Kd.C_alloc ?_ _) | (with_reducible refine Kd.C_drewN ?_ _) | (with_reducible refine Kd.C_drew ?_))); (case side2 => exact HC0.out); rintro e w6 ⟨v373, v375, rfl, ho0, ho1, hb⟩; refine ⟨_, rfl, ?_⟩; have HO374 := Aside0.mk (Kd.R_lower ho0 (below_size hB_)); have HO376 := Aside0.mk (Kd.R_lower ho1 (below_size hB_)); replace HB := Aside0.mk (below_step hB_ hb); clear hb ho0 ho1 A5) | ((with_reducible refine gate_dst (N := 19) rfl ?_); refine Kd.R_lit Kd.string _ 9 ?hg (N := 19) ?hd (xs := ([] : List ByteArray)) (inner := []) (ok := fun _ => True) (okp := fun _ => True) ?hr ?hp (fun _ hk => hk) trivial (Below.refl _ _) (Nat.le_refl _) r34_ ?_; (case hd => rfl); (case hg => rfl); (case hr => first | (go_simp; done) | (go_simp; rfl)); (case hp => exact (Reps.none _ _)); intro v378 w7 ho8 hb hg_ hnew_; clear hg_ hnew_; (first | rw [← Ny377.out] at ho8 | (simp only [Int.reduceToNat] at ho8; rw [← Ny377.out] at ho8)); replace HO374 := Aside0.mk (Kd.R_below (by (with_reducible repeat (first | apply Kd.R_alloc | apply Kd.R_drewN | apply Kd.R_drew)); exact HO374.out) hb); replace HO376 := Aside0.mk (Kd.R_below (by (with_reducible repeat (first | apply Kd.R_alloc | apply Kd.R_drewN | apply Kd.R_drew)); exact HO376.out) hb); have HO379 := Aside0.mk (Kd.R_lower ho8 (below_size hB_)); replace HB := Aside0.mk (below_step hB_ hb); clear hb ho8))
 go_loopg [8, 9] k (fun kq v8 v9 w' => ∃ (x8_1 : List ByteArray) (x9_1 : Int), v9 = .int .i64 x9_1 ∧ Aside0 (screeref17_Garbage.l0 kq t371 x8_1 x9_1 = some (r1, r2)) ∧ Aside0 (kq ≤ k) ∧ Aside0 (Kd.R k47 47 w' w.heap.size (fun _ => True) v373 t371) ∧ Aside0 (Kd.R Kd.string 9 w' w.heap.size (fun _ => True) v8 x8_1) ∧ Aside0 (Below w.heap.size w w'))
 case atStart => exact ⟨(y377), (0), rs_, H', ⟨Nat.le_refl _⟩, ⟨by (with_reducible repeat (first | apply Kd.R_alloc | apply Kd.R_drewN | apply Kd.R_drew)); exact Kd.R_mono HO374.out (fun _ hk => trivial)⟩, ⟨by (with_reducible repeat (first | apply Kd.R_alloc | apply Kd.R_drewN | apply Kd.R_drew)); exact HO379.out⟩, ⟨hB_⟩⟩
 case round =>
  clear H'
  try clear c4
  obtain ⟨x8_1, x9_1, rfl, HA, HK1, HO_6, HO_8, HB⟩ := hrel
  cases gk with
  | zero => exact absurd HA.out (by simp [screeref17_Garbage.l0])
  | succ k1 =>
   have H := HA.out
   clear HA
   simp only [screeref17_Garbage.l0] at H
   by_cases c9 : x9_1 < (t371.length : Int)
   rotate_left
   ·rw [if_neg c9] at H
    have c9b0 := decide_eq_false c9
    clear c9
    simp only [Option.some.injEq, Prod.mk.injEq] at H
    obtain ⟨rfl, rfl⟩ := H
    obtain ⟨Ao14, co14, eo14⟩ := Kd.R_slice HO_6.out
    subst eo14
    go_wp2
    go_ret2
    exact ⟨_, rf_, r39_, hB_⟩
   rw [if_pos c9] at H
   have c9b0 := decide_eq_true c9
   clear c9
   by_cases c10 : 0 ≤ x9_1
   rotate_left
   ·rw [if_neg c10] at H
    exact absurd H r34_
   rw [if_pos c10] at H
   have c10b0 := decide_eq_true c10
   clear c10
   by_cases c11 : x8_1.length < 8796093022208
   rotate_left
   ·rw [if_neg c11] at H
    exact absurd H r34_
   rw [if_pos c11] at H
   have LMc11 := Aside0.mk c11
   clear c11
   obtain ⟨y381, hy381⟩ : ∃ y_ : List ByteArray, y_ = (x8_1 ++ [(rd_T47 t371 x9_1).f0]) := ⟨_, rfl⟩
   replace H : (screeref17_Garbage.l0 k1 t371 y381 (wrap64 (x9_1 + 1))) = some (r1, r2) := by first | (rw [hy381]; with_reducible exact H) | (have H2_ := (Option.bind_some _ _).symm.trans H; rw [hy381]; with_reducible exact H2_) | (have H2_ := (Option.bind_some _ _).symm.trans H; with_reducible exact H2_) | with_reducible exact H | (rw [hy381]; exact H) | exact H
   have Ny381 := Aside0.mk hy381
   clear hy381
   have H' := Aside0.mk H
   clear H
   obtain ⟨Ao12, co12, eo12⟩ := Kd.R_slice HO_6.out
   subst eo12
   have p380 : 0 ≤ (x9_1 : Int) := of_decide_eq_true as_
   have q380 : x9_1 < (t371.length : Int) := of_decide_eq_true as_
   obtain ⟨ad380, e380, hx380_0, hx380_1, hx380_2, hx380_3⟩ := at_T47 (Kd.R_reads' HO_6.out).2.2 x9_1 p380 q380
   cases e380
   replace p380 := eq_true p380
   replace q380 := eq_true q380
   go_wp2_with (first | ((with_reducible refine gate_builtin (b := .append) (xs := #[.tmp 26, .tmp 32]) rfl ?_); at_builtin; refine Kd.R_append Kd.string (w0 := w) w.heap.size rfl (.tmp 26) (.tmp 32) 26 9 (.string ⟨#[]⟩) 16 rfl Try.underlying26 info9 rfl r44_ r37_ u8 x8_1 ((rd_T47 t371 x9_1).f0) [.string ((rd_T47 t371 x9_1).f0)] (fun _ => True) (fun _ => False) rfl rfl ?aP (fun _ hk => hk.elim) ?aF ?aO ?aB ?aS ?aL ?_; (case aP => exact rfl); (case aB => exact hB_); (case aF => exact (fun _ _ => trivial)); (case aO => exact r39_); (case aS => exact (below_size hB_)); (case aL => have := LMc11.out; omega); intro v382 w13 ho hb hg hat; rw [← Ny381.out] at ho; replace HO_6 := Aside0.mk (Kd.R_over' r19_ (Kd.R_typed r39_) r44_ hg); replace HB := Aside0.mk (hb); have HO383 := Aside0.mk (ho); clear HO_8; clear ho hb hg hat))
   go_roundg k1
   case measure => have := HK1.out; omega
   case rel => exact ⟨(y381), (wrap64 (x9_1 + 1)), rs_, hH_, ⟨by have := HK1.out; omega⟩, ⟨r19_⟩, ⟨by (with_reducible repeat (first | apply Kd.R_alloc | apply Kd.R_drewN | apply Kd.R_drew)); exact HO383.out⟩, ⟨hB_⟩⟩

/-! ### screeref17_Left: function 15 -/
def screeref17_Left.f (k : Nat) (l0 : List (S47)) (a1 : Int) : Option ((List (S47)) × Int) := (screeref17_Rises.f k l0).bind fun t384 => (if t384 = true then ((screeref17_Split.f k l0 a1).bind fun bt385 => (some (bt385.2, 0))) else (some (([] : List (S47)), 2)))
theorem screeref17_Left.mono : ∀ a0 a1 k, LeO (screeref17_Left.f k a0 a1) (screeref17_Left.f (k + 1) a0 a1) := by
 intro a0 a1 k
 unfold screeref17_Left.f
 repeat' first
   | (with_reducible exact LeO.refl _)
   | (with_reducible exact LeO.none _)
   | (with_reducible refine LeO.ite ?_ ?_)
   | (with_reducible refine LeO.bind ?_ (fun _ => ?_))
   | exact screeref17_Rises.mono _ _
   | exact screeref17_Split.mono _ _ _
   | exact LeO.none _
   | refine LeO.ite ?_ ?_
   | refine LeO.bind ?_ (fun _ => ?_)
set_option maxHeartbeats 8000000 in
set_option maxRecDepth 100000 in
theorem screeref17_Left.calls (k : Nat) (A0 : Option Addr) (c0 : Nat) (l0 : List (S47)) (a1 : Int) (r1 : List (S47)) (r2 : Int) (w : World) (hr0 : Kd.C k47 w A0 l0.length l0) (hc0 : l0.length ≤ c0) (h : screeref17_Left.f k l0 a1 = some (r1, r2)) :
  Calls Try.prog 15 #[.slice A0 l0.length c0, .int .u64 a1] w fun e w' => ∃ v0_ : Value, e = .returned (.tuple #[v0_, .int .i64 r2]) ∧ Kd.R k47 47 w' w.heap.size (fun _ => True) v0_ r1 ∧ Below w.heap.size w w' := by
 have HR0 := Aside0.mk hr0
 have HC0 := Aside0.mk hc0
 clear hr0 hc0
 have HB := Aside0.mk (Below.refl w.heap.size w)
 have H : ((screeref17_Rises.f k l0).bind fun t384 => (if t384 = true then ((screeref17_Split.f k l0 a1).bind fun bt385 => (some (bt385.2, 0))) else (some (([] : List (S47)), 2)))) = some (r1, r2) := h
 clear h
 replace H := Option.bind_eq_some_iff.mp H
 obtain ⟨t384, A30, H⟩ := H
 try dsimp only at H
 have A3 := Aside0.mk A30
 clear A30
 by_cases c4 : t384 = true
 rotate_left
 ·replace c4 := Bool.eq_false_iff.mpr c4
  subst c4
  rw [if_neg ff_] at H
  simp only [Option.some.injEq, Prod.mk.injEq] at H
  obtain ⟨rfl, rfl⟩ := H
  go_enter Try.func15, Try.ntmps15
  go_wp2_with (first | ((with_reducible refine gate_callee (f := 26) rfl ?_); refine goesL_ (some 9) rfl rfl Try.func26 r6_ rfl #[.slice A0 l0.length c0] rfl hA_ ?_; (with_reducible refine (screeref17_Rises.calls k _ _ l0 false _ ?side1 ?side2 A3.out).mono ?_); (case side1 => repeat (first | exact HR0.out | (with_reducible refine Kd.C_alloc ?_ _) | (with_reducible refine Kd.C_drewN ?_ _) | (with_reducible refine Kd.C_drew ?_))); (case side2 => exact HC0.out); rintro e w' ⟨rfl, ⟨nd, rfl⟩⟩; refine ⟨_, rfl, ?_⟩))
  go_ret2
  exact ⟨_, rf_, by first | exact Kd.R_nil _ _ _ _ _ | exact Kd.N_nil _ _ _ _ _ | exact Kd.V_nil _ _ _ _ _ | exact Kd.Q_nil _ _ _ _ _ | exact Kd.S_nil _ _ _ _ _, hB_⟩
 subst c4
 rw [if_pos rfl] at H
 replace H := Option.bind_eq_some_iff.mp H
 obtain ⟨⟨t385, t386⟩, A50, H⟩ := H
 try dsimp only at H
 have A5 := Aside0.mk A50
 clear A50
 simp only [Option.some.injEq, Prod.mk.injEq] at H
 obtain ⟨rfl, rfl⟩ := H
 go_enter Try.func15, Try.ntmps15
 go_wp2_with (first | ((with_reducible refine gate_callee (f := 26) rfl ?_); refine goesL_ (some 9) rfl rfl Try.func26 r6_ rfl #[.slice A0 l0.length c0] rfl hA_ ?_; (with_reducible refine (screeref17_Rises.calls k _ _ l0 true _ ?side1 ?side2 A3.out).mono ?_); (case side1 => repeat (first | exact HR0.out | (with_reducible refine Kd.C_alloc ?_ _) | (with_reducible refine Kd.C_drewN ?_ _) | (with_reducible refine Kd.C_drew ?_))); (case side2 => exact HC0.out); rintro e w' ⟨rfl, ⟨nd, rfl⟩⟩; refine ⟨_, rfl, ?_⟩) | ((with_reducible refine gate_callee (f := 27) rfl ?_); refine goesL_ (some 14) rfl rfl Try.func27 r6_ rfl #[.slice A0 l0.length c0, .int .u64 a1] rfl hA_ ?_; (with_reducible refine (screeref17_Split.calls k _ _ l0 a1 t385 t386 _ ?side1 ?side2 A5.out).mono ?_); (case side1 => repeat (first | exact HR0.out | (with_reducible refine Kd.C_alloc ?_ _) | (with_reducible refine Kd.C_drewN ?_ _) | (with_reducible refine Kd.C_drew ?_))); (case side2 => exact HC0.out); rintro e w6 ⟨v387, v389, rfl, ho0, ho1, hb⟩; refine ⟨_, rfl, ?_⟩; have HO388 := Aside0.mk (Kd.R_lower ho0 (below_size hB_)); have HO390 := Aside0.mk (Kd.R_lower ho1 (below_size hB_)); replace HB := Aside0.mk (below_step hB_ hb); clear hb ho0 ho1 A5))
 go_ret2
 exact ⟨_, rf_, by (with_reducible repeat (first | apply Kd.R_alloc | apply Kd.R_drewN | apply Kd.R_drew)); exact Kd.R_mono HO390.out (fun _ hk => trivial), hB_⟩

end Go.Proofs.Ytcdadhgcjkgnoaa.P
