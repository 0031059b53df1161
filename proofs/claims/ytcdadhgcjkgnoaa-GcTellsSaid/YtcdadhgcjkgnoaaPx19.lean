-- Printed by a program of this session's own (wip/tools/pprint.sh, over the kit's print, with given contracts): not typed by hand.
import Derived.Test.YtcdadhgcjkgnoaaPx0
import Derived.Test.YtcdadhgcjkgnoaaPx1
import Derived.Test.YtcdadhgcjkgnoaaPx8
import Derived.Test.YtcdadhgcjkgnoaaPx9
import Derived.Test.YtcdadhgcjkgnoaaPx11
import Derived.Test.YtcdadhgcjkgnoaaPx12
import Derived.Test.YtcdadhgcjkgnoaaPx15
import Derived.Test.YtcdadhgcjkgnoaaPx17
import Derived.Test.YtcdadhgcjkgnoaaPx18
namespace Go.Proofs.Ytcdadhgcjkgnoaa.P
open Go.RowKit Go.Proofs.YtcdadhgcjkgnoaaW.PrintWords Go.Proofs.YtcdadhgcjkgnoaaW.PrintLast Go.Proofs.YtcdadhgcjkgnoaaW.PrintMore
set_option linter.unusedVariables false
set_option linter.unusedSimpArgs false
-- SQUEEZED3

attribute [local go_sem high] eqA47
/-! ### screeref17_Counts: function 19 -/
def screeref17_Counts.l0 : Nat → List (S47) → List Int → Int → Option (Int × Int × Int)
 | 0, _, _, _ => none
 | k + 1, x0, x5, x6 => if x6 < (x0.length : Int) then (if 0 ≤ x6 then ((screeref17_Read.f k ((rd_T47 x0 x6).f0) ((rd_T47 x0 x6).f1) ((rd_T47 x0 x6).f2) ((rd_T47 x0 x6).f3)).bind fun bt420 => (if 0 ≤ bt420.1 then (if bt420.1 < (x5.length : Int) then (screeref17_Counts.l0 k x0 (x5.set (bt420.1 : Int).toNat (wrap64 ((rd x5 bt420.1) + 1))) (wrap64 (x6 + 1))) else (none)) else (none))) else (none)) else (if 1 < (x5.length : Int) then (if 2 < (x5.length : Int) then (if 3 < (x5.length : Int) then (some (rd x5 1, rd x5 2, rd x5 3)) else (none)) else (none)) else (none))
def screeref17_Counts.f (k : Nat) (l0 : List (S47)) : Option (Int × Int × Int) := screeref17_Counts.l0 k l0 (([0, 0, 0, 0] : List Int)) 0
theorem screeref17_Counts.mono_l : ∀ k, (∀ y0 y1 y2, LeO (screeref17_Counts.l0 k y0 y1 y2) (screeref17_Counts.l0 (k + 1) y0 y1 y2))
 | 0 => fun _ _ _ r h => by simp [screeref17_Counts.l0] at h
 | k + 1 => by
  have ih0 := screeref17_Counts.mono_l k
  ·intro y0 y1 y2
   unfold screeref17_Counts.l0
   repeat' first
   | (with_reducible exact ih0 _ _ _)
   | (with_reducible exact LeO.refl _)
   | (with_reducible exact LeO.none _)
   | (with_reducible refine LeO.ite ?_ ?_)
   | (with_reducible refine LeO.bind ?_ (fun _ => ?_))
   | exact ih0 _ _ _
   | exact screeref17_Read.mono _ _ _ _ _
   | exact LeO.none _
   | refine LeO.ite ?_ ?_
   | refine LeO.bind ?_ (fun _ => ?_)
theorem screeref17_Counts.mono : ∀ a0 k, LeO (screeref17_Counts.f k a0) (screeref17_Counts.f (k + 1) a0) := by
 intro a0 k
 have ih0 := screeref17_Counts.mono_l k
 unfold screeref17_Counts.f
 repeat' first
   | (with_reducible exact ih0 _ _ _)
   | (with_reducible exact LeO.refl _)
   | (with_reducible exact LeO.none _)
   | (with_reducible refine LeO.ite ?_ ?_)
   | (with_reducible refine LeO.bind ?_ (fun _ => ?_))
   | exact ih0 _ _ _
   | exact screeref17_Read.mono _ _ _ _ _
   | exact LeO.none _
   | refine LeO.ite ?_ ?_
   | refine LeO.bind ?_ (fun _ => ?_)
set_option maxHeartbeats 8000000 in
set_option maxRecDepth 100000 in
theorem screeref17_Counts.calls (k : Nat) (A0 : Option Addr) (c0 : Nat) (l0 : List (S47)) (r1 : Int) (r2 : Int) (r3 : Int) (w : World) (hr0 : Kd.C k47 w A0 l0.length l0) (hc0 : l0.length ≤ c0) (h : screeref17_Counts.f k l0 = some (r1, r2, r3)) :
  Calls Try.prog 19 #[.slice A0 l0.length c0] w fun e w' => e = .returned (.tuple #[.int .i64 r1, .int .i64 r2, .int .i64 r3]) ∧ Below w.heap.size w w' := by
 have hfd : ∀ (c : Int) (u : ByteArray) (t : Int) (p : ByteArray) (a b d e g : Int) (w : World), (Instr.field 44 (.agg #[.int .i64 c, .string u, .int .u64 t, .string p, .int .u64 a, .int .i64 b, .int .u64 d, .int .u64 e, .int .i64 g]) 0).run Try.prog w = .ok (.int .i64 c) w := fun _ _ _ _ _ _ _ _ _ _ => by kernel_rfl
 have hu47 := Try.underlying47
 have HR0 := Aside0.mk hr0
 have HC0 := Aside0.mk hc0
 clear hr0 hc0
 have HB := Aside0.mk (Below.refl w.heap.size w)
 have H : (screeref17_Counts.l0 k l0 (([0, 0, 0, 0] : List Int)) 0) = some (r1, r2, r3) := h
 clear h
 obtain ⟨y416, hy416⟩ : ∃ y_ : List Int, y_ = (([0, 0, 0, 0] : List Int)) := ⟨_, rfl⟩
 replace H : (screeref17_Counts.l0 k l0 y416 0) = some (r1, r2, r3) := by first | (rw [hy416]; with_reducible exact H) | (have H2_ := (Option.bind_some _ _).symm.trans H; rw [hy416]; with_reducible exact H2_) | (have H2_ := (Option.bind_some _ _).symm.trans H; with_reducible exact H2_) | with_reducible exact H | (rw [hy416]; exact H) | exact H
 have Ny416 := Aside0.mk hy416
 clear hy416
 have H' := Aside0.mk H
 clear H
 go_enter Try.func19, Try.ntmps19
 go_wp2_with (first | ((with_reducible refine gate_dst (N := 7) rfl ?_); refine Kd.R_lit (Kd.int .i64) _ 3 ?hg (N := 7) ?hd (xs := ([0, 0, 0, 0] : List Int)) (inner := [.int .i64 0, .int .i64 0, .int .i64 0, .int .i64 0]) (ok := fun _ => True) (okp := fun _ => True) ?hr ?hp (fun _ hk => hk) trivial (Below.refl _ _) (Nat.le_refl _) r34_ ?_; (case hd => rfl); (case hg => rfl); (case hr => first | (go_simp; done) | (go_simp; rfl)); (case hp => exact (Reps.one (show Kd.M (Kd.int .i64) _ _ _ 0 [.int .i64 0] from rfl) (Reps.one (show Kd.M (Kd.int .i64) _ _ _ 0 [.int .i64 0] from rfl) (Reps.one (show Kd.M (Kd.int .i64) _ _ _ 0 [.int .i64 0] from rfl) (Reps.one (show Kd.M (Kd.int .i64) _ _ _ 0 [.int .i64 0] from rfl) (Reps.none _ _)))))); intro v417 w2 ho3 hb hg_ hnew_; clear hg_ hnew_; (first | rw [← Ny416.out] at ho3 | (simp only [Int.reduceToNat] at ho3; rw [← Ny416.out] at ho3)); have HO418 := Aside0.mk (Kd.R_lower ho3 (below_size hB_)); replace HB := Aside0.mk (below_step hB_ hb); clear hb ho3))
 repeat (go_quiet (fail); try go_wp2_with (first | ((with_reducible refine gate_dst (N := 7) rfl ?_); refine Kd.R_lit (Kd.int .i64) _ 3 ?hg (N := 7) ?hd (xs := ([0, 0, 0, 0] : List Int)) (inner := [.int .i64 0, .int .i64 0, .int .i64 0, .int .i64 0]) (ok := fun _ => True) (okp := fun _ => True) ?hr ?hp (fun _ hk => hk) trivial (Below.refl _ _) (Nat.le_refl _) r34_ ?_; (case hd => rfl); (case hg => rfl); (case hr => first | (go_simp; done) | (go_simp; rfl)); (case hp => exact (Reps.one (show Kd.M (Kd.int .i64) _ _ _ 0 [.int .i64 0] from rfl) (Reps.one (show Kd.M (Kd.int .i64) _ _ _ 0 [.int .i64 0] from rfl) (Reps.one (show Kd.M (Kd.int .i64) _ _ _ 0 [.int .i64 0] from rfl) (Reps.one (show Kd.M (Kd.int .i64) _ _ _ 0 [.int .i64 0] from rfl) (Reps.none _ _)))))); intro v417 w2 ho3 hb hg_ hnew_; clear hg_ hnew_; (first | rw [← Ny416.out] at ho3 | (simp only [Int.reduceToNat] at ho3; rw [← Ny416.out] at ho3)); have HO418 := Aside0.mk (Kd.R_lower ho3 (below_size hB_)); replace HB := Aside0.mk (below_step hB_ hb); clear hb ho3)))
 go_loopg [6] k (fun kq v6 w' => ∃ (x5_1 : List Int) (x6_1 : Int), v6 = .int .i64 x6_1 ∧ Aside0 (screeref17_Counts.l0 kq l0 x5_1 x6_1 = some (r1, r2, r3)) ∧ Aside0 (kq ≤ k) ∧ Aside0 (Kd.R (Kd.int .i64) 3 w' w.heap.size (fun _ => True) v417 x5_1) ∧ Aside0 (Below w.heap.size w w'))
 case atStart => exact ⟨(y416), (0), rs_, H', ⟨Nat.le_refl _⟩, ⟨by (with_reducible repeat (first | apply Kd.R_alloc | apply Kd.R_drewN | apply Kd.R_drew)); exact HO418.out⟩, ⟨hB_⟩⟩
 case round =>
  clear H'
  obtain ⟨x5_1, x6_1, rfl, HA, HK1, HO_5, HB⟩ := hrel
  cases gk with
  | zero => exact absurd HA.out (by simp [screeref17_Counts.l0])
  | succ k1 =>
   have H := HA.out
   clear HA
   simp only [screeref17_Counts.l0] at H
   by_cases c4 : x6_1 < (l0.length : Int)
   ·rw [if_pos c4] at H
    have c4b0 := decide_eq_true c4
    clear c4
    by_cases c5 : 0 ≤ x6_1
    rotate_left
    ·rw [if_neg c5] at H
     exact absurd H r34_
    rw [if_pos c5] at H
    have c5b0 := decide_eq_true c5
    clear c5
    replace H := Option.bind_eq_some_iff.mp H
    obtain ⟨⟨t420, t421, t422, t423, t424, t425, t426, t427, t428⟩, A60, H⟩ := H
    try dsimp only at H
    have A6 := Aside0.mk A60
    clear A60
    by_cases c7 : 0 ≤ t420
    rotate_left
    ·rw [if_neg c7] at H
     exact absurd H r34_
    rw [if_pos c7] at H
    have c7b0 := decide_eq_true c7
    clear c7
    by_cases c8 : t420 < (x5_1.length : Int)
    rotate_left
    ·rw [if_neg c8] at H
     exact absurd H r34_
    rw [if_pos c8] at H
    have c8b0 := decide_eq_true c8
    clear c8
    obtain ⟨y430, hy430⟩ : ∃ y_ : List Int, y_ = (x5_1.set (t420 : Int).toNat (wrap64 ((rd x5_1 t420) + 1))) := ⟨_, rfl⟩
    replace H : (screeref17_Counts.l0 k1 l0 y430 (wrap64 (x6_1 + 1))) = some (r1, r2, r3) := by first | (rw [hy430]; with_reducible exact H) | (have H2_ := (Option.bind_some _ _).symm.trans H; rw [hy430]; with_reducible exact H2_) | (have H2_ := (Option.bind_some _ _).symm.trans H; with_reducible exact H2_) | with_reducible exact H | (rw [hy430]; exact H) | exact H
    have Ny430 := Aside0.mk hy430
    clear hy430
    have H' := Aside0.mk H
    clear H
    have p419 : 0 ≤ (x6_1 : Int) := of_decide_eq_true as_
    have q419 : x6_1 < (l0.length : Int) := of_decide_eq_true as_
    obtain ⟨ad419, e419, hx419_0, hx419_1, hx419_2, hx419_3⟩ := at_T47 HR0.out x6_1 p419 q419
    cases e419
    replace hx419_0 := (HB.out.cell (World.block_lt_of_cell? w _ hx419_0)).trans hx419_0
    replace hx419_1 := (HB.out.cell (World.block_lt_of_cell? w _ hx419_1)).trans hx419_1
    replace hx419_2 := (HB.out.cell (World.block_lt_of_cell? w _ hx419_2)).trans hx419_2
    replace hx419_3 := (HB.out.cell (World.block_lt_of_cell? w _ hx419_3)).trans hx419_3
    replace p419 := eq_true p419
    replace q419 := eq_true q419
    go_wp2_with (first | (go_at_call 21; (with_reducible refine (screeref17_Read.calls k1 ((rd_T47 l0 x6_1).f0) ((rd_T47 l0 x6_1).f1) ((rd_T47 l0 x6_1).f2) ((rd_T47 l0 x6_1).f3) t420 t421 t422 t423 t424 t425 t426 t427 t428 _ A6.out).mono ?_); rintro e w10 ⟨rfl, hb⟩; replace HO_5 := Aside0.mk (Kd.R_below r69_ hb); replace HB := Aside0.mk (below_step hB_ hb); clear hb A6; obtain ⟨Ao11, co11, eo11⟩ := Kd.R_slice HO_5.out; subst eo11; have p429 : 0 ≤ (t420 : Int) := of_decide_eq_true as_; have q429 : t420 < (x5_1.length : Int) := of_decide_eq_true as_; obtain ⟨ad429, e429, hx429_0⟩ := Kd.at_int (Kd.R_reads' HO_5.out).2.2 t420 p429 q429; cases e429; replace p429 := eq_true p429; replace q429 := eq_true q429; have p9 : 0 ≤ (t420 : Int) := of_decide_eq_true as_; have q9 : (t420 : Int) < ((x5_1.length : Int) : Int) := of_decide_eq_true as_; obtain ⟨go9, co9, eo9, gb9, gl9, cl9, HG9⟩ := Kd.R_form HO_5.out r37_; (first | cases eo9 | (injection eo9 with ea_ en_ ec_; (first | subst ea_ | (injection ea_ with ea_; subst ea_)); subst ec_; clear en_)); have GB9 := Aside0.mk gb9; have GG9 := Aside0.mk HG9; clear gb9 gl9 HG9; (first | simp only [add_plain] at hx429_0 | skip); obtain ⟨hx9_0, hf9_0⟩ := Kd.R_celln 0 HO_5.out (t420 : Int) p9 q9; replace p9 := eq_true p9; replace q9 := eq_true q9; obtain ⟨hy12_, hz12_⟩ := Kd.R_celln 0 HO_5.out (t420 : Int) (of_decide_eq_true as_) (of_decide_eq_true as_); have HP12 := Kd.R_putg HO_5.out (t420 : Int) (wrap64 ((rd x5_1 t420) + 1))) | ((with_reducible refine gate_store (t := 3) (p := 24) rfl ?_); (try (rw [drewN_self w10]; generalize hq_ : World.drewN w10 _ = w10; have n0_ := Aside0.mk (Kd.R_at hq_ HO_5.out); have n1_ := Aside0.mk (below_at hq_ HB.out); clear hq_ HO_5 HB; have HO_5 := n0_; have HB := n1_; clear n0_ n1_; (try (obtain ⟨hy12_, hz12_⟩ := Kd.R_celln 0 HO_5.out (t420 : Int) (of_decide_eq_true as_) (of_decide_eq_true as_))); (try (have HP12 := Kd.R_putg HO_5.out (t420 : Int) (wrap64 ((rd x5_1 t420) + 1)))))); refine store_event (t := 3) (p := 24) (v := ?vo_w13) (w1 := (w10.setCell ⟨go9, (t420 : Int).toNat, none⟩ (.int .i64 (wrap64 ((rd x5_1 t420) + 1))))) ?hg ?ho ?hn ?hr ?_; (case ho => rfl); (case hg => rfl); (case hn => rfl); (case hr => first | (go_simp; done) | (go_simp; rfl)); intro w13 hw; have hg : w10.grownBy w13 (some go9) := (by rw [hw]; exact HP12.2); have hp_ : Kd.R (Kd.int .i64) 3 w13 w.heap.size (fun _ => True) (.slice (some ⟨go9, 0, none⟩) x5_1.length co11) y430 := (by rw [hw, Ny430.out]; exact HP12.1); clear HP12; replace HO_5 := Aside0.mk (hp_); replace HB := Aside0.mk ((by rw [hw]; exact below_set (HB.out) GB9.out : Below w.heap.size w w13)); clear hg hw hp_))
    repeat (go_quiet (fail); try go_wp2_with (first | (go_at_call 21; (with_reducible refine (screeref17_Read.calls k1 ((rd_T47 l0 x6_1).f0) ((rd_T47 l0 x6_1).f1) ((rd_T47 l0 x6_1).f2) ((rd_T47 l0 x6_1).f3) t420 t421 t422 t423 t424 t425 t426 t427 t428 _ A6.out).mono ?_); rintro e w10 ⟨rfl, hb⟩; replace HO_5 := Aside0.mk (Kd.R_below r69_ hb); replace HB := Aside0.mk (below_step hB_ hb); clear hb A6; obtain ⟨Ao11, co11, eo11⟩ := Kd.R_slice HO_5.out; subst eo11; have p429 : 0 ≤ (t420 : Int) := of_decide_eq_true as_; have q429 : t420 < (x5_1.length : Int) := of_decide_eq_true as_; obtain ⟨ad429, e429, hx429_0⟩ := Kd.at_int (Kd.R_reads' HO_5.out).2.2 t420 p429 q429; cases e429; replace p429 := eq_true p429; replace q429 := eq_true q429; have p9 : 0 ≤ (t420 : Int) := of_decide_eq_true as_; have q9 : (t420 : Int) < ((x5_1.length : Int) : Int) := of_decide_eq_true as_; obtain ⟨go9, co9, eo9, gb9, gl9, cl9, HG9⟩ := Kd.R_form HO_5.out r37_; (first | cases eo9 | (injection eo9 with ea_ en_ ec_; (first | subst ea_ | (injection ea_ with ea_; subst ea_)); subst ec_; clear en_)); have GB9 := Aside0.mk gb9; have GG9 := Aside0.mk HG9; clear gb9 gl9 HG9; (first | simp only [add_plain] at hx429_0 | skip); obtain ⟨hx9_0, hf9_0⟩ := Kd.R_celln 0 HO_5.out (t420 : Int) p9 q9; replace p9 := eq_true p9; replace q9 := eq_true q9; obtain ⟨hy12_, hz12_⟩ := Kd.R_celln 0 HO_5.out (t420 : Int) (of_decide_eq_true as_) (of_decide_eq_true as_); have HP12 := Kd.R_putg HO_5.out (t420 : Int) (wrap64 ((rd x5_1 t420) + 1))) | ((with_reducible refine gate_store (t := 3) (p := 24) rfl ?_); (try (rw [drewN_self w10]; generalize hq_ : World.drewN w10 _ = w10; have n0_ := Aside0.mk (Kd.R_at hq_ HO_5.out); have n1_ := Aside0.mk (below_at hq_ HB.out); clear hq_ HO_5 HB; have HO_5 := n0_; have HB := n1_; clear n0_ n1_; (try (obtain ⟨hy12_, hz12_⟩ := Kd.R_celln 0 HO_5.out (t420 : Int) (of_decide_eq_true as_) (of_decide_eq_true as_))); (try (have HP12 := Kd.R_putg HO_5.out (t420 : Int) (wrap64 ((rd x5_1 t420) + 1)))))); refine store_event (t := 3) (p := 24) (v := ?vo_w13) (w1 := (w10.setCell ⟨go9, (t420 : Int).toNat, none⟩ (.int .i64 (wrap64 ((rd x5_1 t420) + 1))))) ?hg ?ho ?hn ?hr ?_; (case ho => rfl); (case hg => rfl); (case hn => rfl); (case hr => first | (go_simp; done) | (go_simp; rfl)); intro w13 hw; have hg : w10.grownBy w13 (some go9) := (by rw [hw]; exact HP12.2); have hp_ : Kd.R (Kd.int .i64) 3 w13 w.heap.size (fun _ => True) (.slice (some ⟨go9, 0, none⟩) x5_1.length co11) y430 := (by rw [hw, Ny430.out]; exact HP12.1); clear HP12; replace HO_5 := Aside0.mk (hp_); replace HB := Aside0.mk ((by rw [hw]; exact below_set (HB.out) GB9.out : Below w.heap.size w w13)); clear hg hw hp_)))
    go_roundg k1
    case measure => have := HK1.out; omega
    case rel => exact ⟨(y430), (wrap64 (x6_1 + 1)), rs_, hH_, ⟨by have := HK1.out; omega⟩, ⟨r69_⟩, ⟨hB_⟩⟩
   rw [if_neg c4] at H
   have c4b0 := decide_eq_false c4
   clear c4
   by_cases c14 : 1 < (x5_1.length : Int)
   rotate_left
   ·rw [if_neg c14] at H
    exact absurd H r34_
   rw [if_pos c14] at H
   have c14b0 := decide_eq_true c14
   have c14b1 : decide (1 < x5_1.length) = true := decide_eq_true r37_
   clear c14
   by_cases c15 : 2 < (x5_1.length : Int)
   rotate_left
   ·rw [if_neg c15] at H
    exact absurd H r34_
   rw [if_pos c15] at H
   have c15b0 := decide_eq_true c15
   have c15b1 : decide (2 < x5_1.length) = true := decide_eq_true r37_
   clear c15
   by_cases c16 : 3 < (x5_1.length : Int)
   rotate_left
   ·rw [if_neg c16] at H
    exact absurd H r34_
   rw [if_pos c16] at H
   have c16b0 := decide_eq_true c16
   have c16b1 : decide (3 < x5_1.length) = true := decide_eq_true r37_
   clear c16
   simp only [Option.some.injEq, Prod.mk.injEq] at H
   obtain ⟨rfl, rfl, rfl⟩ := H
   obtain ⟨Ao17, co17, eo17⟩ := Kd.R_slice HO_5.out
   subst eo17
   have p431 : 0 ≤ (1 : Int) := r37_
   have q431 : 1 < (x5_1.length : Int) := of_decide_eq_true as_
   obtain ⟨ad431, e431, hx431_0⟩ := Kd.at_int (Kd.R_reads' HO_5.out).2.2 1 p431 q431
   cases e431
   (try simp only [show (1 : Int).toNat = 1 from rfl, Nat.reduceMul, Nat.reduceEqDiff, Go.Addr.add, ↓reduceIte] at hx431_0)
   have qi431 : (1 < x5_1.length) = True := eq_true r37_
   (try rw [show ((1 : Int)).toNat = 1 from rfl] at hx431_0)
   replace p431 := eq_true p431
   replace q431 := eq_true q431
   have p432 : 0 ≤ (2 : Int) := r37_
   have q432 : 2 < (x5_1.length : Int) := of_decide_eq_true as_
   obtain ⟨ad432, e432, hx432_0⟩ := Kd.at_int (Kd.R_reads' HO_5.out).2.2 2 p432 q432
   obtain rfl : ad431 = ad432 := (by injection e432)
   (try simp only [show (2 : Int).toNat = 2 from rfl, Nat.reduceMul, Nat.reduceEqDiff, Go.Addr.add, ↓reduceIte] at hx432_0)
   have qi432 : (2 < x5_1.length) = True := eq_true r37_
   (try rw [show ((2 : Int)).toNat = 2 from rfl] at hx432_0)
   replace p432 := eq_true p432
   replace q432 := eq_true q432
   have p433 : 0 ≤ (3 : Int) := r37_
   have q433 : 3 < (x5_1.length : Int) := of_decide_eq_true as_
   obtain ⟨ad433, e433, hx433_0⟩ := Kd.at_int (Kd.R_reads' HO_5.out).2.2 3 p433 q433
   obtain rfl : ad431 = ad433 := (by injection e433)
   (try simp only [show (3 : Int).toNat = 3 from rfl, Nat.reduceMul, Nat.reduceEqDiff, Go.Addr.add, ↓reduceIte] at hx433_0)
   have qi433 : (3 < x5_1.length) = True := eq_true r37_
   (try rw [show ((3 : Int)).toNat = 3 from rfl] at hx433_0)
   replace p433 := eq_true p433
   replace q433 := eq_true q433
   go_wp2
   repeat (go_quiet (fail); try go_wp2)
   go_ret3
   exact ⟨rf_, hB_⟩

/-! ### screeref07_Same: function 20 -/
def screeref07_Same.l0 : Nat → List (S47) → List (S47) → Int → Option (Bool)
 | 0, _, _, _ => none
 | k + 1, x0, x1, x5 => if x5 < (x0.length : Int) then (if 0 ≤ x5 then (if x5 < (x1.length : Int) then (if (!((((rd_T47 x0 x5).f0).toList) == (((rd_T47 x1 x5).f0).toList)) || (!(((rd_T47 x0 x5).f1) == ((rd_T47 x1 x5).f1)) || (!(((rd_T47 x0 x5).f2) == ((rd_T47 x1 x5).f2)) || (!((((rd_T47 x0 x5).f3).toList) == (((rd_T47 x1 x5).f3).toList)))))) = true then (some false) else (screeref07_Same.l0 k x0 x1 (wrap64 (x5 + 1)))) else (none)) else (none)) else (some true)
def screeref07_Same.f (k : Nat) (l0 : List (S47)) (l1 : List (S47)) : Option (Bool) := if (l0.length : Int) = (l1.length : Int) then (screeref07_Same.l0 k l0 l1 0) else (some false)
theorem screeref07_Same.mono_l : ∀ k, (∀ y0 y1 y2, LeO (screeref07_Same.l0 k y0 y1 y2) (screeref07_Same.l0 (k + 1) y0 y1 y2))
 | 0 => fun _ _ _ r h => by simp [screeref07_Same.l0] at h
 | k + 1 => by
  have ih0 := screeref07_Same.mono_l k
  ·intro y0 y1 y2
   unfold screeref07_Same.l0
   repeat' first
   | (with_reducible exact ih0 _ _ _)
   | (with_reducible exact LeO.refl _)
   | (with_reducible exact LeO.none _)
   | (with_reducible refine LeO.ite ?_ ?_)
   | (with_reducible refine LeO.bind ?_ (fun _ => ?_))
   | exact ih0 _ _ _
   | exact LeO.none _
   | refine LeO.ite ?_ ?_
   | refine LeO.bind ?_ (fun _ => ?_)
theorem screeref07_Same.mono : ∀ a0 a1 k, LeO (screeref07_Same.f k a0 a1) (screeref07_Same.f (k + 1) a0 a1) := by
 intro a0 a1 k
 have ih0 := screeref07_Same.mono_l k
 unfold screeref07_Same.f
 repeat' first
   | (with_reducible exact ih0 _ _ _)
   | (with_reducible exact LeO.refl _)
   | (with_reducible exact LeO.none _)
   | (with_reducible refine LeO.ite ?_ ?_)
   | (with_reducible refine LeO.bind ?_ (fun _ => ?_))
   | exact ih0 _ _ _
   | exact LeO.none _
   | refine LeO.ite ?_ ?_
   | refine LeO.bind ?_ (fun _ => ?_)
set_option maxHeartbeats 8000000 in
set_option maxRecDepth 100000 in
theorem screeref07_Same.calls (k : Nat) (A0 : Option Addr) (c0 : Nat) (l0 : List (S47)) (A1 : Option Addr) (c1 : Nat) (l1 : List (S47)) (r : Bool) (w : World) (hr0 : Kd.C k47 w A0 l0.length l0) (hc0 : l0.length ≤ c0) (hr1 : Kd.C k47 w A1 l1.length l1) (hc1 : l1.length ≤ c1) (h : screeref07_Same.f k l0 l1 = some r) :
  Calls Try.prog 20 #[.slice A0 l0.length c0, .slice A1 l1.length c1] w fun e w' => e = .returned (.bool r) ∧ Drawn0 w w' := by
 have hu47 := Try.underlying47
 have HR0 := Aside0.mk hr0
 have HC0 := Aside0.mk hc0
 clear hr0 hc0
 have HR1 := Aside0.mk hr1
 have HC1 := Aside0.mk hc1
 clear hr1 hc1
 have H : (if (l0.length : Int) = (l1.length : Int) then (screeref07_Same.l0 k l0 l1 0) else (some false)) = some r := h
 clear h
 by_cases c3 : (l0.length : Int) = (l1.length : Int)
 rotate_left
 ·rw [if_neg c3] at H
  have c3b0 := beq_eq_false_iff_ne.mpr c3
  have c3b1 := bne_iff_ne.mpr c3
  have c3b2 : (l0.length == l1.length) = false := by first | simpa using c3 | (simp at c3 ⊢; omega)
  obtain rfl := Option.some.inj H
  go_enter Try.func20, Try.ntmps20
  go_wp2
  repeat (go_quiet (fail); try go_wp2)
  go_ret
  exact ⟨rs_, dR_⟩
 rw [if_pos c3] at H
 have c3b0 := beq_iff_eq.mpr c3
 have c3b1 := bne_eq_false_iff_eq.mpr c3
 have c3b2 : (l0.length == l1.length) = true := by first | simpa using c3 | (simp at c3 ⊢; omega)
 clear c3
 have H' := Aside0.mk H
 clear H
 go_enter Try.func20, Try.ntmps20
 go_wp2
 repeat (go_quiet (fail); try go_wp2)
 go_loopg [5] k (fun kq v5 w' => ∃ (x5_1 : Int), v5 = .int .i64 x5_1 ∧ Aside0 (screeref07_Same.l0 kq l0 l1 x5_1 = some r) ∧ Aside0 (kq ≤ k) ∧ Drawn0 w w')
 case atStart => exact ⟨(0), rs_, H', ⟨Nat.le_refl _⟩, dR_⟩
 case round =>
  clear H'
  try clear c1
  try clear c3
  try clear c3b0
  try clear c3b1
  try clear c3b2
  obtain ⟨x5_1, rfl, HA, HK1, ⟨m1, rfl⟩⟩ := hrel
  cases gk with
  | zero => exact absurd HA.out (by simp [screeref07_Same.l0])
  | succ k1 =>
   have H := HA.out
   clear HA
   simp only [screeref07_Same.l0] at H
   by_cases c4 : x5_1 < (l0.length : Int)
   rotate_left
   ·rw [if_neg c4] at H
    have c4b0 := decide_eq_false c4
    clear c4
    obtain rfl := Option.some.inj H
    go_wp2
    repeat (go_quiet (fail); try go_wp2)
    go_ret
    exact ⟨rs_, dR_⟩
   rw [if_pos c4] at H
   have c4b0 := decide_eq_true c4
   clear c4
   by_cases c5 : 0 ≤ x5_1
   rotate_left
   ·rw [if_neg c5] at H
    exact absurd H r34_
   rw [if_pos c5] at H
   have c5b0 := decide_eq_true c5
   clear c5
   by_cases c6 : x5_1 < (l1.length : Int)
   rotate_left
   ·rw [if_neg c6] at H
    exact absurd H r34_
   rw [if_pos c6] at H
   have c6b0 := decide_eq_true c6
   clear c6
   by_cases c7 : (!((((rd_T47 l0 x5_1).f0).toList) == (((rd_T47 l1 x5_1).f0).toList)) || (!(((rd_T47 l0 x5_1).f1) == ((rd_T47 l1 x5_1).f1)) || (!(((rd_T47 l0 x5_1).f2) == ((rd_T47 l1 x5_1).f2)) || (!((((rd_T47 l0 x5_1).f3).toList) == (((rd_T47 l1 x5_1).f3).toList)))))) = true
   ·rw [if_pos c7] at H
    have c7b0 : (!((((rd_T47 l0 x5_1).f0).toList) == (((rd_T47 l1 x5_1).f0).toList)) || (!(((rd_T47 l0 x5_1).f1) == ((rd_T47 l1 x5_1).f1)) || (!(((rd_T47 l0 x5_1).f2) == ((rd_T47 l1 x5_1).f2)) || (!((((rd_T47 l0 x5_1).f3).toList) == (((rd_T47 l1 x5_1).f3).toList)))))) = true := c7
    clear c7
    obtain rfl := Option.some.inj H
    have p434 : 0 ≤ (x5_1 : Int) := of_decide_eq_true as_
    have q434 : x5_1 < (l0.length : Int) := of_decide_eq_true as_
    obtain ⟨ad434, e434, hx434_0, hx434_1, hx434_2, hx434_3⟩ := at_T47 HR0.out x5_1 p434 q434
    cases e434
    replace p434 := eq_true p434
    replace q434 := eq_true q434
    have p435 : 0 ≤ (x5_1 : Int) := of_decide_eq_true as_
    have q435 : x5_1 < (l1.length : Int) := of_decide_eq_true as_
    obtain ⟨ad435, e435, hx435_0, hx435_1, hx435_2, hx435_3⟩ := at_T47 HR1.out x5_1 p435 q435
    cases e435
    replace p435 := eq_true p435
    replace q435 := eq_true q435
    go_wp2
    repeat (go_quiet (fail); try go_wp2)
    go_ret
    exact ⟨rs_, dR_⟩
   rw [if_neg c7] at H
   have c7b0 : (!((((rd_T47 l0 x5_1).f0).toList) == (((rd_T47 l1 x5_1).f0).toList)) || (!(((rd_T47 l0 x5_1).f1) == ((rd_T47 l1 x5_1).f1)) || (!(((rd_T47 l0 x5_1).f2) == ((rd_T47 l1 x5_1).f2)) || (!((((rd_T47 l0 x5_1).f3).toList) == (((rd_T47 l1 x5_1).f3).toList)))))) = false := by simpa using c7
   clear c7
   have H' := Aside0.mk H
   clear H
   have p434 : 0 ≤ (x5_1 : Int) := of_decide_eq_true as_
   have q434 : x5_1 < (l0.length : Int) := of_decide_eq_true as_
   obtain ⟨ad434, e434, hx434_0, hx434_1, hx434_2, hx434_3⟩ := at_T47 HR0.out x5_1 p434 q434
   cases e434
   replace p434 := eq_true p434
   replace q434 := eq_true q434
   have p435 : 0 ≤ (x5_1 : Int) := of_decide_eq_true as_
   have q435 : x5_1 < (l1.length : Int) := of_decide_eq_true as_
   obtain ⟨ad435, e435, hx435_0, hx435_1, hx435_2, hx435_3⟩ := at_T47 HR1.out x5_1 p435 q435
   cases e435
   replace p435 := eq_true p435
   replace q435 := eq_true q435
   go_wp2
   repeat (go_quiet (fail); try go_wp2)
   go_roundg k1
   case measure => have := HK1.out; omega
   case rel => exact ⟨(wrap64 (x5_1 + 1)), rs_, hH_, ⟨by have := HK1.out; omega⟩, dR_⟩

/-! ### screelaw17_GcTells: function 3 -/
mutual
def screelaw17_GcTells.j0 : Nat → List (S47) → Int → ByteArray → Int → Bool → Option (Bool)
 | 0, _, _, _, _, _ => none
 | k + 1, x0, x1, x2, x3, x37 => if x37 = true then (some true) else ((some (([] : List (S47)) : List (S47))).bind fun y438 => (if y438.length + x0.length < 2932031007402 then ((some (y438 ++ x0 : List (S47))).bind fun y441 => ((gc_Garbage.f k y441 x1).bind fun bt444 => ((screeref17_Garbage.f k x0 x1).bind fun bt448 => (if (bt444.1.length : Int) = (bt448.1.length : Int) then (screelaw17_GcTells.j1 k x0 x1 x2 x3 y441 bt444.1 bt448.1 (bt444.2 != bt448.2)) else (screelaw17_GcTells.j1 k x0 x1 x2 x3 y441 bt444.1 bt448.1 true))))) else (none)))
def screelaw17_GcTells.j1 : Nat → List (S47) → Int → ByteArray → Int → List (S47) → List ByteArray → List ByteArray → Bool → Option (Bool)
 | 0, _, _, _, _, _, _, _, _ => none
 | k + 1, x0, x1, x2, x3, x9, x10, x12, x62 => if x62 = true then (none) else (screelaw17_GcTells.l0 k x0 x1 x2 x3 x9 x10 x12 (x10.length : Int) 0)
def screelaw17_GcTells.l0 : Nat → List (S47) → Int → ByteArray → Int → List (S47) → List ByteArray → List ByteArray → Int → Int → Option (Bool)
 | 0, _, _, _, _, _, _, _, _, _ => none
 | k + 1, x0, x1, x2, x3, x9, x10, x12, x64, x65 => if x65 < x64 then (if 0 ≤ x65 then (if x65 < (x10.length : Int) then (if x65 < (x12.length : Int) then (if (rdOf ByteArray.empty x10 x65).toList = (rdOf ByteArray.empty x12 x65).toList then (screelaw17_GcTells.l0 k x0 x1 x2 x3 x9 x10 x12 x64 (wrap64 (x65 + 1))) else (none)) else (none)) else (none)) else (none)) else ((gc_Left.f k x9 x1).bind fun bt454 => ((screeref17_Left.f k x0 x1).bind fun bt458 => ((gc_Visible.f k x9 x2 x3).bind fun bt462 => ((screeref17_Visible.f k x0 x2 x3).bind fun bt464 => ((gc_Counts.f k x9).bind fun bt466 => ((screeref17_Counts.f k x0).bind fun bt469 => ((screeref07_Same.f k bt454.1 bt458.1).bind fun t472 => (if t472 = true then (if bt454.2 = bt458.2 then (if bt462.1.toList = bt464.1.toList then (if (bt462.2 == bt464.2) = true then (if bt466.1 = bt469.1 then (if bt466.2.1 = bt469.2.1 then (if bt466.2.2 = bt469.2.2 then ((screeref07_Same.f k x9 x0).bind fun t473 => (some t473)) else (none)) else (none)) else (none)) else (none)) else (none)) else (none)) else (none)))))))))
end
def screelaw17_GcTells.f (k : Nat) (l0 : List (S47)) (a1 : Int) (a2 : ByteArray) (a3 : Int) : Option (Bool) := (screelaw17_awake.f k).bind fun t436 => (if t436 = true then ((screelaw17_large.f k l0).bind fun t437 => (if t437 = true then (screelaw17_GcTells.j0 k l0 a1 a2 a3 true) else (screelaw17_GcTells.j0 k l0 a1 a2 a3 (decide ((a2.size : Int) > 300))))) else (none))
theorem screelaw17_GcTells.mono_l : ∀ k, (∀ y0 y1 y2 y3 y4, LeO (screelaw17_GcTells.j0 k y0 y1 y2 y3 y4) (screelaw17_GcTells.j0 (k + 1) y0 y1 y2 y3 y4)) ∧ (∀ y0 y1 y2 y3 y4 y5 y6 y7, LeO (screelaw17_GcTells.j1 k y0 y1 y2 y3 y4 y5 y6 y7) (screelaw17_GcTells.j1 (k + 1) y0 y1 y2 y3 y4 y5 y6 y7)) ∧ (∀ y0 y1 y2 y3 y4 y5 y6 y7 y8, LeO (screelaw17_GcTells.l0 k y0 y1 y2 y3 y4 y5 y6 y7 y8) (screelaw17_GcTells.l0 (k + 1) y0 y1 y2 y3 y4 y5 y6 y7 y8))
 | 0 => ⟨fun _ _ _ _ _ r h => by simp [screelaw17_GcTells.j0] at h, fun _ _ _ _ _ _ _ _ r h => by simp [screelaw17_GcTells.j1] at h, fun _ _ _ _ _ _ _ _ _ r h => by simp [screelaw17_GcTells.l0] at h⟩
 | k + 1 => by
  obtain ⟨ih0, ih1, ih2⟩ := screelaw17_GcTells.mono_l k
  refine ⟨?_, ?_, ?_⟩
  ·intro y0 y1 y2 y3 y4
   unfold screelaw17_GcTells.j0
   repeat' first
   | (with_reducible exact ih0 _ _ _ _ _)
   | (with_reducible exact ih1 _ _ _ _ _ _ _ _)
   | (with_reducible exact ih2 _ _ _ _ _ _ _ _ _)
   | (with_reducible exact gc_Counts.mono _ _)
   | (with_reducible exact gc_Garbage.mono _ _ _)
   | (with_reducible exact gc_Left.mono _ _ _)
   | (with_reducible exact gc_Visible.mono _ _ _ _)
   | (with_reducible exact screelaw17_awake.mono _)
   | (with_reducible exact screelaw17_large.mono _ _)
   | (with_reducible exact screeref07_Same.mono _ _ _)
   | (with_reducible exact screeref17_Counts.mono _ _)
   | (with_reducible exact screeref17_Garbage.mono _ _ _)
   | (with_reducible exact screeref17_Left.mono _ _ _)
   | (with_reducible exact screeref17_Visible.mono _ _ _ _)
   | (with_reducible exact LeO.refl _)
   | (with_reducible exact LeO.none _)
   | (with_reducible refine LeO.ite ?_ ?_)
   | (with_reducible refine LeO.bind ?_ (fun _ => ?_))
   | exact ih0 _ _ _ _ _
   | exact ih1 _ _ _ _ _ _ _ _
   | exact ih2 _ _ _ _ _ _ _ _ _
   | exact gc_Counts.mono _ _
   | exact gc_Garbage.mono _ _ _
   | exact gc_Left.mono _ _ _
   | exact gc_Visible.mono _ _ _ _
   | exact screelaw17_awake.mono _
   | exact screelaw17_large.mono _ _
   | exact screeref07_Same.mono _ _ _
   | exact screeref17_Counts.mono _ _
   | exact screeref17_Garbage.mono _ _ _
   | exact screeref17_Left.mono _ _ _
   | exact screeref17_Visible.mono _ _ _ _
   | exact LeO.none _
   | refine LeO.ite ?_ ?_
   | refine LeO.bind ?_ (fun _ => ?_)
  ·intro y0 y1 y2 y3 y4 y5 y6 y7
   unfold screelaw17_GcTells.j1
   repeat' first
   | (with_reducible exact ih0 _ _ _ _ _)
   | (with_reducible exact ih1 _ _ _ _ _ _ _ _)
   | (with_reducible exact ih2 _ _ _ _ _ _ _ _ _)
   | (with_reducible exact gc_Counts.mono _ _)
   | (with_reducible exact gc_Garbage.mono _ _ _)
   | (with_reducible exact gc_Left.mono _ _ _)
   | (with_reducible exact gc_Visible.mono _ _ _ _)
   | (with_reducible exact screelaw17_awake.mono _)
   | (with_reducible exact screelaw17_large.mono _ _)
   | (with_reducible exact screeref07_Same.mono _ _ _)
   | (with_reducible exact screeref17_Counts.mono _ _)
   | (with_reducible exact screeref17_Garbage.mono _ _ _)
   | (with_reducible exact screeref17_Left.mono _ _ _)
   | (with_reducible exact screeref17_Visible.mono _ _ _ _)
   | (with_reducible exact LeO.refl _)
   | (with_reducible exact LeO.none _)
   | (with_reducible refine LeO.ite ?_ ?_)
   | (with_reducible refine LeO.bind ?_ (fun _ => ?_))
   | exact ih0 _ _ _ _ _
   | exact ih1 _ _ _ _ _ _ _ _
   | exact ih2 _ _ _ _ _ _ _ _ _
   | exact gc_Counts.mono _ _
   | exact gc_Garbage.mono _ _ _
   | exact gc_Left.mono _ _ _
   | exact gc_Visible.mono _ _ _ _
   | exact screelaw17_awake.mono _
   | exact screelaw17_large.mono _ _
   | exact screeref07_Same.mono _ _ _
   | exact screeref17_Counts.mono _ _
   | exact screeref17_Garbage.mono _ _ _
   | exact screeref17_Left.mono _ _ _
   | exact screeref17_Visible.mono _ _ _ _
   | exact LeO.none _
   | refine LeO.ite ?_ ?_
   | refine LeO.bind ?_ (fun _ => ?_)
  ·intro y0 y1 y2 y3 y4 y5 y6 y7 y8
   unfold screelaw17_GcTells.l0
   repeat' first
   | (with_reducible exact ih0 _ _ _ _ _)
   | (with_reducible exact ih1 _ _ _ _ _ _ _ _)
   | (with_reducible exact ih2 _ _ _ _ _ _ _ _ _)
   | (with_reducible exact gc_Counts.mono _ _)
   | (with_reducible exact gc_Garbage.mono _ _ _)
   | (with_reducible exact gc_Left.mono _ _ _)
   | (with_reducible exact gc_Visible.mono _ _ _ _)
   | (with_reducible exact screelaw17_awake.mono _)
   | (with_reducible exact screelaw17_large.mono _ _)
   | (with_reducible exact screeref07_Same.mono _ _ _)
   | (with_reducible exact screeref17_Counts.mono _ _)
   | (with_reducible exact screeref17_Garbage.mono _ _ _)
   | (with_reducible exact screeref17_Left.mono _ _ _)
   | (with_reducible exact screeref17_Visible.mono _ _ _ _)
   | (with_reducible exact LeO.refl _)
   | (with_reducible exact LeO.none _)
   | (with_reducible refine LeO.ite ?_ ?_)
   | (with_reducible refine LeO.bind ?_ (fun _ => ?_))
   | exact ih0 _ _ _ _ _
   | exact ih1 _ _ _ _ _ _ _ _
   | exact ih2 _ _ _ _ _ _ _ _ _
   | exact gc_Counts.mono _ _
   | exact gc_Garbage.mono _ _ _
   | exact gc_Left.mono _ _ _
   | exact gc_Visible.mono _ _ _ _
   | exact screelaw17_awake.mono _
   | exact screelaw17_large.mono _ _
   | exact screeref07_Same.mono _ _ _
   | exact screeref17_Counts.mono _ _
   | exact screeref17_Garbage.mono _ _ _
   | exact screeref17_Left.mono _ _ _
   | exact screeref17_Visible.mono _ _ _ _
   | exact LeO.none _
   | refine LeO.ite ?_ ?_
   | refine LeO.bind ?_ (fun _ => ?_)
theorem screelaw17_GcTells.mono : ∀ a0 a1 a2 a3 k, LeO (screelaw17_GcTells.f k a0 a1 a2 a3) (screelaw17_GcTells.f (k + 1) a0 a1 a2 a3) := by
 intro a0 a1 a2 a3 k
 obtain ⟨ih0, ih1, ih2⟩ := screelaw17_GcTells.mono_l k
 unfold screelaw17_GcTells.f
 repeat' first
   | (with_reducible exact ih0 _ _ _ _ _)
   | (with_reducible exact ih1 _ _ _ _ _ _ _ _)
   | (with_reducible exact ih2 _ _ _ _ _ _ _ _ _)
   | (with_reducible exact gc_Counts.mono _ _)
   | (with_reducible exact gc_Garbage.mono _ _ _)
   | (with_reducible exact gc_Left.mono _ _ _)
   | (with_reducible exact gc_Visible.mono _ _ _ _)
   | (with_reducible exact screelaw17_awake.mono _)
   | (with_reducible exact screelaw17_large.mono _ _)
   | (with_reducible exact screeref07_Same.mono _ _ _)
   | (with_reducible exact screeref17_Counts.mono _ _)
   | (with_reducible exact screeref17_Garbage.mono _ _ _)
   | (with_reducible exact screeref17_Left.mono _ _ _)
   | (with_reducible exact screeref17_Visible.mono _ _ _ _)
   | (with_reducible exact LeO.refl _)
   | (with_reducible exact LeO.none _)
   | (with_reducible refine LeO.ite ?_ ?_)
   | (with_reducible refine LeO.bind ?_ (fun _ => ?_))
   | exact ih0 _ _ _ _ _
   | exact ih1 _ _ _ _ _ _ _ _
   | exact ih2 _ _ _ _ _ _ _ _ _
   | exact gc_Counts.mono _ _
   | exact gc_Garbage.mono _ _ _
   | exact gc_Left.mono _ _ _
   | exact gc_Visible.mono _ _ _ _
   | exact screelaw17_awake.mono _
   | exact screelaw17_large.mono _ _
   | exact screeref07_Same.mono _ _ _
   | exact screeref17_Counts.mono _ _
   | exact screeref17_Garbage.mono _ _ _
   | exact screeref17_Left.mono _ _ _
   | exact screeref17_Visible.mono _ _ _ _
   | exact LeO.none _
   | refine LeO.ite ?_ ?_
   | refine LeO.bind ?_ (fun _ => ?_)
set_option maxHeartbeats 8000000 in
set_option maxRecDepth 100000 in
theorem screelaw17_GcTells.calls (k : Nat) (A0 : Option Addr) (c0 : Nat) (l0 : List (S47)) (a1 : Int) (a2 : ByteArray) (a3 : Int) (r : Bool) (w : World) (hr0 : Kd.C k47 w A0 l0.length l0) (hc0 : l0.length ≤ c0) (h : screelaw17_GcTells.f k l0 a1 a2 a3 = some r) :
  Calls Try.prog 3 #[.slice A0 l0.length c0, .int .u64 a1, .string a2, .int .u64 a3] w fun e w' => e = .returned (.bool r) ∧ Below w.heap.size w w' := by
 have HR0 := Aside0.mk hr0
 have HC0 := Aside0.mk hc0
 clear hr0 hc0
 have HB := Aside0.mk (Below.refl w.heap.size w)
 have H : ((screelaw17_awake.f k).bind fun t436 => (if t436 = true then ((screelaw17_large.f k l0).bind fun t437 => (if t437 = true then (screelaw17_GcTells.j0 k l0 a1 a2 a3 true) else (screelaw17_GcTells.j0 k l0 a1 a2 a3 (decide ((a2.size : Int) > 300))))) else (none))) = some r := h
 clear h
 replace H := Option.bind_eq_some_iff.mp H
 obtain ⟨t436, A50, H⟩ := H
 try dsimp only at H
 have A5 := Aside0.mk A50
 clear A50
 by_cases c6 : t436 = true
 rotate_left
 ·replace c6 := Bool.eq_false_iff.mpr c6
  subst c6
  rw [if_neg ff_] at H
  exact absurd H r34_
 subst c6
 rw [if_pos rfl] at H
 have HC7 := Aside0.mk H
 clear H
 go_enter Try.func3, Try.ntmps3
 go_upto_region 3 with (first | (go_at_call 10; (with_reducible refine (screelaw17_awake.calls k  true _ A5.out).mono ?_); rintro e w8 ⟨rfl, hb⟩; replace HB := Aside0.mk (below_step hB_ hb); clear hb A5))
 repeat (go_quiet (fail); go_upto_region 3 with (first | (go_at_call 10; (with_reducible refine (screelaw17_awake.calls k  true _ A5.out).mono ?_); rintro e w8 ⟨rfl, hb⟩; replace HB := Aside0.mk (below_step hB_ hb); clear hb A5)))
 (try simp only [Act.put, sp_])
 go_cut [37] (fun v37 wc => ∃ (kq : Nat) (x37_6 : Bool), v37 = .bool x37_6 ∧ Aside0 (screelaw17_GcTells.j0 kq l0 a1 a2 a3 x37_6 = some r) ∧ Aside0 (kq ≤ k) ∧ Aside0 (Below w.heap.size w wc))
 case first =>
  have H := HC7.out
  clear HC7
  replace H := Option.bind_eq_some_iff.mp H
  obtain ⟨t437, A90, H⟩ := H
  try dsimp only at H
  have A9 := Aside0.mk A90
  clear A90
  by_cases c10 : t437 = true
  ·subst c10
   rw [if_pos rfl] at H
   have H' := Aside0.mk H
   clear H
   go_wp2_with (first | (go_at_call 11; (with_reducible refine (screelaw17_large.calls k _ _ l0 true _ ?side1 ?side2 A9.out).mono ?_); (case side1 => repeat (first | exact (Kd.C_below HR0.out HB.out) | (with_reducible refine Kd.C_alloc ?_ _) | (with_reducible refine Kd.C_drewN ?_ _) | (with_reducible refine Kd.C_drew ?_))); (case side2 => exact HC0.out); rintro e w' ⟨rfl, ⟨nd, rfl⟩⟩; (try first | exact ⟨rfl, _, World.drewN_drewN _ _ _⟩ | exact ⟨rfl, _, Eq.trans (World.drewN_drewN _ _ _) (congrArg (World.drewN _) (Nat.add_assoc _ _ _))⟩)))
   repeat (go_quiet (fail); try go_wp2_with (first | (go_at_call 11; (with_reducible refine (screelaw17_large.calls k _ _ l0 true _ ?side1 ?side2 A9.out).mono ?_); (case side1 => repeat (first | exact (Kd.C_below HR0.out HB.out) | (with_reducible refine Kd.C_alloc ?_ _) | (with_reducible refine Kd.C_drewN ?_ _) | (with_reducible refine Kd.C_drew ?_))); (case side2 => exact HC0.out); rintro e w' ⟨rfl, ⟨nd, rfl⟩⟩; (try first | exact ⟨rfl, _, World.drewN_drewN _ _ _⟩ | exact ⟨rfl, _, Eq.trans (World.drewN_drewN _ _ _) (congrArg (World.drewN _) (Nat.add_assoc _ _ _))⟩))))
   go_meet
   case rel => exact ⟨_, (true), rs_, hH_, ⟨by first | omega | exact Nat.le_refl _⟩, ⟨hB_⟩⟩
  replace c10 := Bool.eq_false_iff.mpr c10
  subst c10
  rw [if_neg ff_] at H
  have H' := Aside0.mk H
  clear H
  go_wp2_with (first | (go_at_call 11; (with_reducible refine (screelaw17_large.calls k _ _ l0 false _ ?side1 ?side2 A9.out).mono ?_); (case side1 => repeat (first | exact (Kd.C_below HR0.out HB.out) | (with_reducible refine Kd.C_alloc ?_ _) | (with_reducible refine Kd.C_drewN ?_ _) | (with_reducible refine Kd.C_drew ?_))); (case side2 => exact HC0.out); rintro e w' ⟨rfl, ⟨nd, rfl⟩⟩; (try first | exact ⟨rfl, _, World.drewN_drewN _ _ _⟩ | exact ⟨rfl, _, Eq.trans (World.drewN_drewN _ _ _) (congrArg (World.drewN _) (Nat.add_assoc _ _ _))⟩)))
  repeat (go_quiet (fail); try go_wp2_with (first | (go_at_call 11; (with_reducible refine (screelaw17_large.calls k _ _ l0 false _ ?side1 ?side2 A9.out).mono ?_); (case side1 => repeat (first | exact (Kd.C_below HR0.out HB.out) | (with_reducible refine Kd.C_alloc ?_ _) | (with_reducible refine Kd.C_drewN ?_ _) | (with_reducible refine Kd.C_drew ?_))); (case side2 => exact HC0.out); rintro e w' ⟨rfl, ⟨nd, rfl⟩⟩; (try first | exact ⟨rfl, _, World.drewN_drewN _ _ _⟩ | exact ⟨rfl, _, Eq.trans (World.drewN_drewN _ _ _) (congrArg (World.drewN _) (Nat.add_assoc _ _ _))⟩))))
  go_meet
  case rel => exact ⟨_, (decide ((a2.size : Int) > 300)), rs_, hH_, ⟨by first | omega | exact Nat.le_refl _⟩, ⟨hB_⟩⟩
 case rest =>
  clear HC7
  try clear c6
  obtain ⟨kq, x37_6, rfl, HA, HJ6, HB⟩ := hcut
  cases kq with
  | zero => exact absurd HA.out (by simp [screelaw17_GcTells.j0])
  | succ kj6 =>
   have H := HA.out
   clear HA
   simp only [screelaw17_GcTells.j0] at H
   by_cases c11 : x37_6 = true
   ·subst c11
    rw [if_pos rfl] at H
    obtain rfl := Option.some.inj H
    go_wp2
    repeat (go_quiet (fail); try go_wp2)
    go_ret
    exact ⟨rf_, hB_⟩
   replace c11 := Bool.eq_false_iff.mpr c11
   subst c11
   rw [if_neg ff_] at H
   obtain ⟨y438, hy438⟩ : ∃ y_ : List (S47), y_ = (([] : List (S47))) := ⟨_, rfl⟩
   replace H : (if y438.length + l0.length < 2932031007402 then ((some (y438 ++ l0 : List (S47))).bind fun y441 => ((gc_Garbage.f kj6 y441 a1).bind fun bt444 => ((screeref17_Garbage.f kj6 l0 a1).bind fun bt448 => (if (bt444.1.length : Int) = (bt448.1.length : Int) then (screelaw17_GcTells.j1 kj6 l0 a1 a2 a3 y441 bt444.1 bt448.1 (bt444.2 != bt448.2)) else (screelaw17_GcTells.j1 kj6 l0 a1 a2 a3 y441 bt444.1 bt448.1 true))))) else (none)) = some r := by first | (rw [hy438]; with_reducible exact H) | (have H2_ := (Option.bind_some _ _).symm.trans H; rw [hy438]; with_reducible exact H2_) | (have H2_ := (Option.bind_some _ _).symm.trans H; with_reducible exact H2_) | with_reducible exact H | (rw [hy438]; exact H) | exact H
   have Ny438 := Aside0.mk hy438
   clear hy438
   by_cases c12 : y438.length + l0.length < 2932031007402
   rotate_left
   ·rw [if_neg c12] at H
    exact absurd H r34_
   rw [if_pos c12] at H
   have LMc12 := Aside0.mk c12
   clear c12
   obtain ⟨y441, hy441⟩ : ∃ y_ : List (S47), y_ = (y438 ++ l0) := ⟨_, rfl⟩
   replace H : ((gc_Garbage.f kj6 y441 a1).bind fun bt444 => ((screeref17_Garbage.f kj6 l0 a1).bind fun bt448 => (if (bt444.1.length : Int) = (bt448.1.length : Int) then (screelaw17_GcTells.j1 kj6 l0 a1 a2 a3 y441 bt444.1 bt448.1 (bt444.2 != bt448.2)) else (screelaw17_GcTells.j1 kj6 l0 a1 a2 a3 y441 bt444.1 bt448.1 true)))) = some r := by first | (rw [hy441]; with_reducible exact H) | (have H2_ := (Option.bind_some _ _).symm.trans H; rw [hy441]; with_reducible exact H2_) | (have H2_ := (Option.bind_some _ _).symm.trans H; with_reducible exact H2_) | with_reducible exact H | (rw [hy441]; exact H) | exact H
   have Ny441 := Aside0.mk hy441
   clear hy441
   replace H := Option.bind_eq_some_iff.mp H
   obtain ⟨⟨t444, t445⟩, A130, H⟩ := H
   try dsimp only at H
   have A13 := Aside0.mk A130
   clear A130
   replace H := Option.bind_eq_some_iff.mp H
   obtain ⟨⟨t448, t449⟩, A140, H⟩ := H
   try dsimp only at H
   have A14 := Aside0.mk A140
   clear A140
   have HC15 := Aside0.mk H
   clear H
   go_upto_region 8 with (first | ((with_reducible refine gate_dst (N := 38) rfl ?_); (try (refine gate_guard (by rfl) ?_; dsimp only)); refine Kd.R_lit k47 _ 47 ?hg (N := 38) ?hd (xs := ([] : List (S47))) (inner := []) (ok := fun _ => True) (okp := fun _ => True) ?hr ?hp (fun _ hk => hk) trivial (Below.refl _ _) (Nat.le_refl _) r34_ ?_; (case hd => rfl); (case hg => rfl); (case hr => first | (go_simp; done) | (go_simp; rfl)); (case hp => exact (Reps.none _ _)); intro v439 w16 ho17 hb hg_ hnew_; clear hg_ hnew_; (first | rw [← Ny438.out] at ho17 | (simp only [Int.reduceToNat] at ho17; rw [← Ny438.out] at ho17)); have HO440 := Aside0.mk (Kd.R_lower ho17 (below_size hB_)); replace HB := Aside0.mk (below_step hB_ hb); clear hb ho17) | ((with_reducible refine gate_builtin (b := .append) (xs := #[.tmp 38, .tmp 39]) rfl ?_); (try (refine gate_guard (by rfl) ?_; dsimp only)); at_builtin; refine Kd.R_append_rows k47 (w0 := w) w.heap.size rfl (.tmp 38) (.tmp 39) 22 47 (.agg #[(.string ⟨#[]⟩), (.int .u64 0), (.bool false), (.string ⟨#[]⟩)]) 48 rfl Try.underlying22 info47 rfl r44_ r37_ v439 y438 l0 _ _ _ (fun _ => True) (fun _ => False) rfl rfl ?aO ?aR (fun _ _ h => h) (fun _ h => h.elim) ?aF ?aB ?aS ?aL ?_; (case aR => repeat (first | exact (Kd.C_below HR0.out HB.out) | (with_reducible refine Kd.C_alloc ?_ _) | (with_reducible refine Kd.C_drewN ?_ _) | (with_reducible refine Kd.C_drew ?_))); (case aB => exact hB_); (case aF => exact (fun _ _ => trivial)); (case aO => exact (by (with_reducible repeat (first | apply Kd.R_alloc | apply Kd.R_drewN | apply Kd.R_drew)); exact HO440.out)); (case aS => exact (below_size hB_)); (case aL => have := LMc12.out; omega); intro v442 w18 ho hb hg hat; rw [← Ny441.out] at ho; replace HB := Aside0.mk (hb); have HO443 := Aside0.mk (ho); clear HO440; clear ho hb hg hat; obtain ⟨Ao19, co19, eo19⟩ := Kd.R_slice HO443.out; subst eo19) | (go_at_call 12; (with_reducible refine (gc_Garbage.calls kj6 _ _ y441 a1 t444 t445 _ ?side1 ?side2 A13.out).mono ?_); (case side1 => repeat (first | exact (Kd.R_reads' HO443.out).2.2 | (with_reducible refine Kd.C_alloc ?_ _) | (with_reducible refine Kd.C_drewN ?_ _) | (with_reducible refine Kd.C_drew ?_))); (case side2 => exact (Kd.R_reads' HO443.out).2.1); rintro e w20 ⟨v446, rfl, ho0, hb⟩; replace HO443 := Aside0.mk (Kd.R_below r50_ hb); have HO447 := Aside0.mk (Kd.R_lower ho0 (below_size hB_)); replace HB := Aside0.mk (below_step hB_ hb); clear hb ho0 A13) | (go_at_call 13; (with_reducible refine (screeref17_Garbage.calls kj6 _ _ l0 a1 t448 t449 _ ?side1 ?side2 A14.out).mono ?_); (case side1 => repeat (first | exact (Kd.C_below HR0.out HB.out) | (with_reducible refine Kd.C_alloc ?_ _) | (with_reducible refine Kd.C_drewN ?_ _) | (with_reducible refine Kd.C_drew ?_))); (case side2 => exact HC0.out); rintro e w21 ⟨v450, rfl, ho0, hb⟩; replace HO443 := Aside0.mk (Kd.R_below r50_ hb); have HO451 := Aside0.mk (Kd.R_lower (Kd.R_new' ho0 (Kd.R_lt r65_)) (below_size hB_)); replace HO447 := Aside0.mk (Kd.R_elder' r65_ (Kd.R_base ho0) hb); replace HB := Aside0.mk (below_step hB_ hb); clear hb ho0 A14))
   repeat (go_quiet (fail); go_upto_region 8 with (first | ((with_reducible refine gate_dst (N := 38) rfl ?_); (try (refine gate_guard (by rfl) ?_; dsimp only)); refine Kd.R_lit k47 _ 47 ?hg (N := 38) ?hd (xs := ([] : List (S47))) (inner := []) (ok := fun _ => True) (okp := fun _ => True) ?hr ?hp (fun _ hk => hk) trivial (Below.refl _ _) (Nat.le_refl _) r34_ ?_; (case hd => rfl); (case hg => rfl); (case hr => first | (go_simp; done) | (go_simp; rfl)); (case hp => exact (Reps.none _ _)); intro v439 w16 ho17 hb hg_ hnew_; clear hg_ hnew_; (first | rw [← Ny438.out] at ho17 | (simp only [Int.reduceToNat] at ho17; rw [← Ny438.out] at ho17)); have HO440 := Aside0.mk (Kd.R_lower ho17 (below_size hB_)); replace HB := Aside0.mk (below_step hB_ hb); clear hb ho17) | ((with_reducible refine gate_builtin (b := .append) (xs := #[.tmp 38, .tmp 39]) rfl ?_); (try (refine gate_guard (by rfl) ?_; dsimp only)); at_builtin; refine Kd.R_append_rows k47 (w0 := w) w.heap.size rfl (.tmp 38) (.tmp 39) 22 47 (.agg #[(.string ⟨#[]⟩), (.int .u64 0), (.bool false), (.string ⟨#[]⟩)]) 48 rfl Try.underlying22 info47 rfl r44_ r37_ v439 y438 l0 _ _ _ (fun _ => True) (fun _ => False) rfl rfl ?aO ?aR (fun _ _ h => h) (fun _ h => h.elim) ?aF ?aB ?aS ?aL ?_; (case aR => repeat (first | exact (Kd.C_below HR0.out HB.out) | (with_reducible refine Kd.C_alloc ?_ _) | (with_reducible refine Kd.C_drewN ?_ _) | (with_reducible refine Kd.C_drew ?_))); (case aB => exact hB_); (case aF => exact (fun _ _ => trivial)); (case aO => exact (by (with_reducible repeat (first | apply Kd.R_alloc | apply Kd.R_drewN | apply Kd.R_drew)); exact HO440.out)); (case aS => exact (below_size hB_)); (case aL => have := LMc12.out; omega); intro v442 w18 ho hb hg hat; rw [← Ny441.out] at ho; replace HB := Aside0.mk (hb); have HO443 := Aside0.mk (ho); clear HO440; clear ho hb hg hat; obtain ⟨Ao19, co19, eo19⟩ := Kd.R_slice HO443.out; subst eo19) | (go_at_call 12; (with_reducible refine (gc_Garbage.calls kj6 _ _ y441 a1 t444 t445 _ ?side1 ?side2 A13.out).mono ?_); (case side1 => repeat (first | exact (Kd.R_reads' HO443.out).2.2 | (with_reducible refine Kd.C_alloc ?_ _) | (with_reducible refine Kd.C_drewN ?_ _) | (with_reducible refine Kd.C_drew ?_))); (case side2 => exact (Kd.R_reads' HO443.out).2.1); rintro e w20 ⟨v446, rfl, ho0, hb⟩; replace HO443 := Aside0.mk (Kd.R_below r50_ hb); have HO447 := Aside0.mk (Kd.R_lower ho0 (below_size hB_)); replace HB := Aside0.mk (below_step hB_ hb); clear hb ho0 A13) | (go_at_call 13; (with_reducible refine (screeref17_Garbage.calls kj6 _ _ l0 a1 t448 t449 _ ?side1 ?side2 A14.out).mono ?_); (case side1 => repeat (first | exact (Kd.C_below HR0.out HB.out) | (with_reducible refine Kd.C_alloc ?_ _) | (with_reducible refine Kd.C_drewN ?_ _) | (with_reducible refine Kd.C_drew ?_))); (case side2 => exact HC0.out); rintro e w21 ⟨v450, rfl, ho0, hb⟩; replace HO443 := Aside0.mk (Kd.R_below r50_ hb); have HO451 := Aside0.mk (Kd.R_lower (Kd.R_new' ho0 (Kd.R_lt r65_)) (below_size hB_)); replace HO447 := Aside0.mk (Kd.R_elder' r65_ (Kd.R_base ho0) hb); replace HB := Aside0.mk (below_step hB_ hb); clear hb ho0 A14)))
   (try simp only [Act.put, sp_])
   go_cut [62] (fun v62 wc => ∃ (kq : Nat) (x62_14 : Bool), v62 = .bool x62_14 ∧ Aside0 (screelaw17_GcTells.j1 kq l0 a1 a2 a3 y441 t444 t448 x62_14 = some r) ∧ Aside0 (kq ≤ kj6) ∧ Aside0 (Kd.R k47 47 wc w.heap.size (fun _ => True) (.slice Ao19 y441.length co19) y441) ∧ Aside0 (Kd.R Kd.string 9 wc w.heap.size (fun k_ => some k_ ≠ (v450 : Value).ownBlock) v446 t444) ∧ Aside0 (Kd.R Kd.string 9 wc w.heap.size (fun k_ => some k_ ≠ (v446 : Value).ownBlock) v450 t448) ∧ Aside0 (Below w.heap.size w wc))
   case first =>
    have H := HC15.out
    clear HC15
    by_cases c22 : (t444.length : Int) = (t448.length : Int)
    rotate_left
    ·rw [if_neg c22] at H
     have c22b0 := beq_eq_false_iff_ne.mpr c22
     have c22b1 := bne_iff_ne.mpr c22
     have c22b2 : (t444.length == t448.length) = false := by first | simpa using c22 | (simp at c22 ⊢; omega)
     (first | rw [c22b0] | (simp only [i64_w, i32_w]; rw [c22b0]) | skip)
     have H' := Aside0.mk H
     clear H
     obtain ⟨Ao25, co25, eo25⟩ := Kd.R_slice HO447.out
     subst eo25
     obtain ⟨Ao26, co26, eo26⟩ := Kd.R_slice HO451.out
     subst eo26
     go_wp2
     repeat (go_quiet (fail); try go_wp2)
     go_meet
     case rel => exact ⟨_, (true), rs_, hH_, ⟨by have := HJ6.out; first | omega | exact Nat.le_refl _⟩, ⟨r50_⟩, ⟨by (with_reducible repeat (first | apply Kd.R_alloc | apply Kd.R_drewN | apply Kd.R_drew)); exact Kd.R_mono HO447.out (fun _ hk => hk.2)⟩, ⟨by (with_reducible repeat (first | apply Kd.R_alloc | apply Kd.R_drewN | apply Kd.R_drew)); exact Kd.R_mono HO451.out (fun _ hk => hk.2)⟩, ⟨hB_⟩⟩
    rw [if_pos c22] at H
    have c22b0 := beq_iff_eq.mpr c22
    have c22b1 := bne_eq_false_iff_eq.mpr c22
    have c22b2 : (t444.length == t448.length) = true := by first | simpa using c22 | (simp at c22 ⊢; omega)
    clear c22
    (first | rw [c22b0] | (simp only [i64_w, i32_w]; rw [c22b0]) | skip)
    have H' := Aside0.mk H
    clear H
    obtain ⟨Ao23, co23, eo23⟩ := Kd.R_slice HO447.out
    subst eo23
    obtain ⟨Ao24, co24, eo24⟩ := Kd.R_slice HO451.out
    subst eo24
    go_wp2
    repeat (go_quiet (fail); try go_wp2)
    go_meet
    case rel => exact ⟨_, ((t445 != t449)), rs_, hH_, ⟨by have := HJ6.out; first | omega | exact Nat.le_refl _⟩, ⟨r50_⟩, ⟨by (with_reducible repeat (first | apply Kd.R_alloc | apply Kd.R_drewN | apply Kd.R_drew)); exact Kd.R_mono HO447.out (fun _ hk => hk.2)⟩, ⟨by (with_reducible repeat (first | apply Kd.R_alloc | apply Kd.R_drewN | apply Kd.R_drew)); exact Kd.R_mono HO451.out (fun _ hk => hk.2)⟩, ⟨hB_⟩⟩
   case rest =>
    clear HC15
    try clear c6
    try clear c11
    try clear c12
    obtain ⟨kq, x62_14, rfl, HA, HJ14, HO_9, HO_10, HO_12, HB⟩ := hcut
    cases kq with
    | zero => exact absurd HA.out (by simp [screelaw17_GcTells.j1])
    | succ kj14 =>
     have H := HA.out
     clear HA
     simp only [screelaw17_GcTells.j1] at H
     by_cases c27 : x62_14 = true
     ·subst c27
      rw [if_pos rfl] at H
      exact absurd H r34_
     replace c27 := Bool.eq_false_iff.mpr c27
     subst c27
     rw [if_neg ff_] at H
     have H' := Aside0.mk H
     clear H
     obtain ⟨Ao28, co28, eo28⟩ := Kd.R_slice HO_10.out
     subst eo28
     go_wp2
     repeat (go_quiet (fail); try go_wp2)
     go_loopg [65] kj14 (fun kq v65 w' => ∃ (x65_3 : Int), v65 = .int .i64 x65_3 ∧ Aside0 (screelaw17_GcTells.l0 kq l0 a1 a2 a3 y441 t444 t448 (t444.length : Int) x65_3 = some r) ∧ Aside0 (kq ≤ kj14) ∧ Aside0 (Kd.R k47 47 w' w.heap.size (fun _ => True) (.slice Ao19 y441.length co19) y441) ∧ Aside0 (Kd.R Kd.string 9 w' w.heap.size (fun k_ => some k_ ≠ (v450 : Value).ownBlock) (.slice Ao28 t444.length co28) t444) ∧ Aside0 (Kd.R Kd.string 9 w' w.heap.size (fun k_ => some k_ ≠ ((.slice Ao28 t444.length co28) : Value).ownBlock) v450 t448) ∧ Aside0 (Below w.heap.size w w'))
     case atStart => exact ⟨(0), rs_, H', ⟨Nat.le_refl _⟩, ⟨r18_⟩, ⟨r24_⟩, ⟨r25_⟩, ⟨hB_⟩⟩
     case round =>
      clear H'
      try clear c6
      try clear c11
      try clear c12
      try clear c27
      obtain ⟨x65_3, rfl, HA, HK3, HO_9, HO_10, HO_12, HB⟩ := hrel
      cases gk with
      | zero => exact absurd HA.out (by simp [screelaw17_GcTells.l0])
      | succ k3 =>
       have H := HA.out
       clear HA
       simp only [screelaw17_GcTells.l0] at H
       by_cases c29 : x65_3 < (t444.length : Int)
       ·rw [if_pos c29] at H
        have c29b0 := decide_eq_true c29
        clear c29
        by_cases c30 : 0 ≤ x65_3
        rotate_left
        ·rw [if_neg c30] at H
         exact absurd H r34_
        rw [if_pos c30] at H
        have c30b0 := decide_eq_true c30
        clear c30
        by_cases c31 : x65_3 < (t444.length : Int)
        rotate_left
        ·rw [if_neg c31] at H
         exact absurd H r34_
        rw [if_pos c31] at H
        have c31b0 := decide_eq_true c31
        clear c31
        by_cases c32 : x65_3 < (t448.length : Int)
        rotate_left
        ·rw [if_neg c32] at H
         exact absurd H r34_
        rw [if_pos c32] at H
        have c32b0 := decide_eq_true c32
        clear c32
        by_cases c33 : (rdOf ByteArray.empty t444 x65_3).toList = (rdOf ByteArray.empty t448 x65_3).toList
        rotate_left
        ·rw [if_neg c33] at H
         exact absurd H r34_
        rw [if_pos c33] at H
        have c33b0 := beq_iff_eq.mpr c33
        have c33b1 := bne_eq_false_iff_eq.mpr c33
        clear c33
        have H' := Aside0.mk H
        clear H
        have p452 : 0 ≤ (x65_3 : Int) := of_decide_eq_true as_
        have q452 : x65_3 < (t444.length : Int) := of_decide_eq_true as_
        obtain ⟨ad452, e452, hx452_0⟩ := Kd.at_string (Kd.R_reads' HO_10.out).2.2 x65_3 p452 q452
        cases e452
        replace p452 := eq_true p452
        replace q452 := eq_true q452
        obtain ⟨Ao34, co34, eo34⟩ := Kd.R_slice HO_12.out
        subst eo34
        have p453 : 0 ≤ (x65_3 : Int) := of_decide_eq_true as_
        have q453 : x65_3 < (t448.length : Int) := of_decide_eq_true as_
        obtain ⟨ad453, e453, hx453_0⟩ := Kd.at_string (Kd.R_reads' HO_12.out).2.2 x65_3 p453 q453
        cases e453
        replace p453 := eq_true p453
        replace q453 := eq_true q453
        go_wp2
        repeat (go_quiet (fail); try go_wp2)
        go_roundg k3
        case measure => have := HJ6.out; have := HJ14.out; have := HK3.out; omega
        case rel => exact ⟨(wrap64 (x65_3 + 1)), rs_, hH_, ⟨by have := HJ6.out; have := HJ14.out; have := HK3.out; omega⟩, ⟨r18_⟩, ⟨r24_⟩, ⟨r25_⟩, ⟨hB_⟩⟩
       rw [if_neg c29] at H
       have c29b0 := decide_eq_false c29
       clear c29
       replace H := Option.bind_eq_some_iff.mp H
       obtain ⟨⟨t454, t455⟩, A350, H⟩ := H
       try dsimp only at H
       have A35 := Aside0.mk A350
       clear A350
       replace H := Option.bind_eq_some_iff.mp H
       obtain ⟨⟨t458, t459⟩, A360, H⟩ := H
       try dsimp only at H
       have A36 := Aside0.mk A360
       clear A360
       replace H := Option.bind_eq_some_iff.mp H
       obtain ⟨⟨t462, t463⟩, A370, H⟩ := H
       try dsimp only at H
       have A37 := Aside0.mk A370
       clear A370
       replace H := Option.bind_eq_some_iff.mp H
       obtain ⟨⟨t464, t465⟩, A380, H⟩ := H
       try dsimp only at H
       have A38 := Aside0.mk A380
       clear A380
       replace H := Option.bind_eq_some_iff.mp H
       obtain ⟨⟨t466, t467, t468⟩, A390, H⟩ := H
       try dsimp only at H
       have A39 := Aside0.mk A390
       clear A390
       replace H := Option.bind_eq_some_iff.mp H
       obtain ⟨⟨t469, t470, t471⟩, A400, H⟩ := H
       try dsimp only at H
       have A40 := Aside0.mk A400
       clear A400
       replace H := Option.bind_eq_some_iff.mp H
       obtain ⟨t472, A410, H⟩ := H
       try dsimp only at H
       have A41 := Aside0.mk A410
       clear A410
       by_cases c42 : t472 = true
       rotate_left
       ·replace c42 := Bool.eq_false_iff.mpr c42
        subst c42
        rw [if_neg ff_] at H
        exact absurd H r34_
       subst c42
       rw [if_pos rfl] at H
       by_cases c43 : t455 = t459
       rotate_left
       ·rw [if_neg c43] at H
        exact absurd H r34_
       rw [if_pos c43] at H
       have c43b0 := beq_iff_eq.mpr c43
       have c43b1 := bne_eq_false_iff_eq.mpr c43
       clear c43
       by_cases c44 : t462.toList = t464.toList
       rotate_left
       ·rw [if_neg c44] at H
        exact absurd H r34_
       rw [if_pos c44] at H
       have c44b0 := beq_iff_eq.mpr c44
       have c44b1 := bne_eq_false_iff_eq.mpr c44
       clear c44
       by_cases c45 : (t463 == t465) = true
       rotate_left
       ·rw [if_neg c45] at H
        exact absurd H r34_
       rw [if_pos c45] at H
       have c45b0 : (t463 == t465) = true := c45
       (try (have c45b1 : decide (t463 = t465) = true := by simpa using c45))
       (try (have c45b2 : (t463 == t465) = true := by simpa using c45))
       clear c45
       by_cases c46 : t466 = t469
       rotate_left
       ·rw [if_neg c46] at H
        exact absurd H r34_
       rw [if_pos c46] at H
       have c46b0 := beq_iff_eq.mpr c46
       have c46b1 := bne_eq_false_iff_eq.mpr c46
       clear c46
       by_cases c47 : t467 = t470
       rotate_left
       ·rw [if_neg c47] at H
        exact absurd H r34_
       rw [if_pos c47] at H
       have c47b0 := beq_iff_eq.mpr c47
       have c47b1 := bne_eq_false_iff_eq.mpr c47
       clear c47
       by_cases c48 : t468 = t471
       rotate_left
       ·rw [if_neg c48] at H
        exact absurd H r34_
       rw [if_pos c48] at H
       have c48b0 := beq_iff_eq.mpr c48
       have c48b1 := bne_eq_false_iff_eq.mpr c48
       clear c48
       replace H := Option.bind_eq_some_iff.mp H
       obtain ⟨t473, A490, H⟩ := H
       try dsimp only at H
       have A49 := Aside0.mk A490
       clear A490
       obtain rfl := Option.some.inj H
       go_wp2_with (first | (go_at_call 14; (with_reducible refine (gc_Left.calls k3 _ _ y441 a1 t454 t455 _ ?side1 ?side2 A35.out).mono ?_); (case side1 => repeat (first | exact (Kd.R_reads' HO_9.out).2.2 | (with_reducible refine Kd.C_alloc ?_ _) | (with_reducible refine Kd.C_drewN ?_ _) | (with_reducible refine Kd.C_drew ?_))); (case side2 => exact (Kd.R_reads' HO_9.out).2.1); rintro e w50 ⟨v456, rfl, ho0, hb⟩; replace HO_10 := Aside0.mk (Kd.R_below r24_ hb); replace HO_12 := Aside0.mk (Kd.R_below r25_ hb); have HO457 := Aside0.mk (Kd.R_lower (Kd.R_new' ho0 (Kd.R_lt r18_)) (below_size hB_)); replace HO_9 := Aside0.mk (Kd.R_elder' r18_ (Kd.R_base ho0) hb); replace HB := Aside0.mk (below_step hB_ hb); clear hb ho0 A35) | (go_at_call 15; (with_reducible refine (screeref17_Left.calls k3 _ _ l0 a1 t458 t459 _ ?side1 ?side2 A36.out).mono ?_); (case side1 => repeat (first | exact (Kd.C_below HR0.out HB.out) | (with_reducible refine Kd.C_alloc ?_ _) | (with_reducible refine Kd.C_drewN ?_ _) | (with_reducible refine Kd.C_drew ?_))); (case side2 => exact HC0.out); rintro e w51 ⟨v460, rfl, ho0, hb⟩; replace HO_10 := Aside0.mk (Kd.R_below r24_ hb); replace HO_12 := Aside0.mk (Kd.R_below r25_ hb); have HO461 := Aside0.mk (Kd.R_lower (Kd.R_new' (Kd.R_new' ho0 (Kd.R_lt r18_)) (Kd.R_lt r29_)) (below_size hB_)); replace HO_9 := Aside0.mk (Kd.R_elder' r18_ (Kd.R_base ho0) hb); replace HO457 := Aside0.mk (Kd.R_elder' r29_ (Kd.R_base ho0) hb); replace HB := Aside0.mk (below_step hB_ hb); clear hb ho0 A36) | (go_at_call 16; (with_reducible refine (gc_Visible.calls k3 _ _ y441 a2 a3 t462 t463 _ ?side1 ?side2 A37.out).mono ?_); (case side1 => repeat (first | exact (Kd.R_reads' HO_9.out).2.2 | (with_reducible refine Kd.C_alloc ?_ _) | (with_reducible refine Kd.C_drewN ?_ _) | (with_reducible refine Kd.C_drew ?_))); (case side2 => exact (Kd.R_reads' HO_9.out).2.1); rintro e w52 ⟨rfl, hb⟩; replace HO_9 := Aside0.mk (Kd.R_below r18_ hb); replace HO_10 := Aside0.mk (Kd.R_below r24_ hb); replace HO_12 := Aside0.mk (Kd.R_below r25_ hb); replace HO457 := Aside0.mk (Kd.R_below r29_ hb); replace HO461 := Aside0.mk (Kd.R_below r41_ hb); replace HB := Aside0.mk (below_step hB_ hb); clear hb A37) | (go_at_call 17; (with_reducible refine (screeref17_Visible.calls k3 _ _ l0 a2 a3 t464 t465 _ ?side1 ?side2 A38.out).mono ?_); (case side1 => repeat (first | exact (Kd.C_below HR0.out HB.out) | (with_reducible refine Kd.C_alloc ?_ _) | (with_reducible refine Kd.C_drewN ?_ _) | (with_reducible refine Kd.C_drew ?_))); (case side2 => exact HC0.out); rintro e w53 ⟨rfl, hb⟩; replace HO_9 := Aside0.mk (Kd.R_below r18_ hb); replace HO_10 := Aside0.mk (Kd.R_below r24_ hb); replace HO_12 := Aside0.mk (Kd.R_below r25_ hb); replace HO457 := Aside0.mk (Kd.R_below r29_ hb); replace HO461 := Aside0.mk (Kd.R_below r41_ hb); replace HB := Aside0.mk (below_step hB_ hb); clear hb A38) | (go_at_call 18; (with_reducible refine (gc_Counts.calls k3 _ _ y441 t466 t467 t468 _ ?side1 ?side2 A39.out).mono ?_); (case side1 => repeat (first | exact (Kd.R_reads' HO_9.out).2.2 | (with_reducible refine Kd.C_alloc ?_ _) | (with_reducible refine Kd.C_drewN ?_ _) | (with_reducible refine Kd.C_drew ?_))); (case side2 => exact (Kd.R_reads' HO_9.out).2.1); rintro e w54 ⟨rfl, hb⟩; replace HO_9 := Aside0.mk (Kd.R_below r18_ hb); replace HO_10 := Aside0.mk (Kd.R_below r24_ hb); replace HO_12 := Aside0.mk (Kd.R_below r25_ hb); replace HO457 := Aside0.mk (Kd.R_below r29_ hb); replace HO461 := Aside0.mk (Kd.R_below r41_ hb); replace HB := Aside0.mk (below_step hB_ hb); clear hb A39) | (go_at_call 19; (with_reducible refine (screeref17_Counts.calls k3 _ _ l0 t469 t470 t471 _ ?side1 ?side2 A40.out).mono ?_); (case side1 => repeat (first | exact (Kd.C_below HR0.out HB.out) | (with_reducible refine Kd.C_alloc ?_ _) | (with_reducible refine Kd.C_drewN ?_ _) | (with_reducible refine Kd.C_drew ?_))); (case side2 => exact HC0.out); rintro e w55 ⟨rfl, hb⟩; replace HO_9 := Aside0.mk (Kd.R_below r18_ hb); replace HO_10 := Aside0.mk (Kd.R_below r24_ hb); replace HO_12 := Aside0.mk (Kd.R_below r25_ hb); replace HO457 := Aside0.mk (Kd.R_below r29_ hb); replace HO461 := Aside0.mk (Kd.R_below r41_ hb); replace HB := Aside0.mk (below_step hB_ hb); clear hb A40; obtain ⟨Ao56, co56, eo56⟩ := Kd.R_slice HO457.out; subst eo56; obtain ⟨Ao57, co57, eo57⟩ := Kd.R_slice HO461.out; subst eo57) | (go_at_call 20; (with_reducible refine (screeref07_Same.calls k3 _ _ t454 _ _ t458 true _ ?side1 ?side2 ?side3 ?side4 A41.out).mono ?_); (case side1 => repeat (first | exact (Kd.R_reads' HO457.out).2.2 | (with_reducible refine Kd.C_alloc ?_ _) | (with_reducible refine Kd.C_drewN ?_ _) | (with_reducible refine Kd.C_drew ?_))); (case side2 => exact (Kd.R_reads' HO457.out).2.1); (case side3 => repeat (first | exact (Kd.R_reads' HO461.out).2.2 | (with_reducible refine Kd.C_alloc ?_ _) | (with_reducible refine Kd.C_drewN ?_ _) | (with_reducible refine Kd.C_drew ?_))); (case side4 => exact (Kd.R_reads' HO461.out).2.1); rintro e w' ⟨rfl, ⟨nd, rfl⟩⟩; (try first | exact ⟨rfl, _, World.drewN_drewN _ _ _⟩ | exact ⟨rfl, _, Eq.trans (World.drewN_drewN _ _ _) (congrArg (World.drewN _) (Nat.add_assoc _ _ _))⟩)) | (go_at_call 20; (with_reducible refine (screeref07_Same.calls k3 _ _ y441 _ _ l0 t473 _ ?side1 ?side2 ?side3 ?side4 A49.out).mono ?_); (case side1 => repeat (first | exact (Kd.R_reads' HO_9.out).2.2 | (with_reducible refine Kd.C_alloc ?_ _) | (with_reducible refine Kd.C_drewN ?_ _) | (with_reducible refine Kd.C_drew ?_))); (case side2 => exact (Kd.R_reads' HO_9.out).2.1); (case side3 => repeat (first | exact (Kd.C_below HR0.out hB_) | (with_reducible refine Kd.C_alloc ?_ _) | (with_reducible refine Kd.C_drewN ?_ _) | (with_reducible refine Kd.C_drew ?_))); (case side4 => exact HC0.out); rintro e w' ⟨rfl, ⟨nd, rfl⟩⟩; (try first | exact ⟨rfl, _, World.drewN_drewN _ _ _⟩ | exact ⟨rfl, _, Eq.trans (World.drewN_drewN _ _ _) (congrArg (World.drewN _) (Nat.add_assoc _ _ _))⟩)))
       repeat (go_quiet (fail); try go_wp2_with (first | (go_at_call 14; (with_reducible refine (gc_Left.calls k3 _ _ y441 a1 t454 t455 _ ?side1 ?side2 A35.out).mono ?_); (case side1 => repeat (first | exact (Kd.R_reads' HO_9.out).2.2 | (with_reducible refine Kd.C_alloc ?_ _) | (with_reducible refine Kd.C_drewN ?_ _) | (with_reducible refine Kd.C_drew ?_))); (case side2 => exact (Kd.R_reads' HO_9.out).2.1); rintro e w50 ⟨v456, rfl, ho0, hb⟩; replace HO_10 := Aside0.mk (Kd.R_below r24_ hb); replace HO_12 := Aside0.mk (Kd.R_below r25_ hb); have HO457 := Aside0.mk (Kd.R_lower (Kd.R_new' ho0 (Kd.R_lt r18_)) (below_size hB_)); replace HO_9 := Aside0.mk (Kd.R_elder' r18_ (Kd.R_base ho0) hb); replace HB := Aside0.mk (below_step hB_ hb); clear hb ho0 A35) | (go_at_call 15; (with_reducible refine (screeref17_Left.calls k3 _ _ l0 a1 t458 t459 _ ?side1 ?side2 A36.out).mono ?_); (case side1 => repeat (first | exact (Kd.C_below HR0.out HB.out) | (with_reducible refine Kd.C_alloc ?_ _) | (with_reducible refine Kd.C_drewN ?_ _) | (with_reducible refine Kd.C_drew ?_))); (case side2 => exact HC0.out); rintro e w51 ⟨v460, rfl, ho0, hb⟩; replace HO_10 := Aside0.mk (Kd.R_below r24_ hb); replace HO_12 := Aside0.mk (Kd.R_below r25_ hb); have HO461 := Aside0.mk (Kd.R_lower (Kd.R_new' (Kd.R_new' ho0 (Kd.R_lt r18_)) (Kd.R_lt r29_)) (below_size hB_)); replace HO_9 := Aside0.mk (Kd.R_elder' r18_ (Kd.R_base ho0) hb); replace HO457 := Aside0.mk (Kd.R_elder' r29_ (Kd.R_base ho0) hb); replace HB := Aside0.mk (below_step hB_ hb); clear hb ho0 A36) | (go_at_call 16; (with_reducible refine (gc_Visible.calls k3 _ _ y441 a2 a3 t462 t463 _ ?side1 ?side2 A37.out).mono ?_); (case side1 => repeat (first | exact (Kd.R_reads' HO_9.out).2.2 | (with_reducible refine Kd.C_alloc ?_ _) | (with_reducible refine Kd.C_drewN ?_ _) | (with_reducible refine Kd.C_drew ?_))); (case side2 => exact (Kd.R_reads' HO_9.out).2.1); rintro e w52 ⟨rfl, hb⟩; replace HO_9 := Aside0.mk (Kd.R_below r18_ hb); replace HO_10 := Aside0.mk (Kd.R_below r24_ hb); replace HO_12 := Aside0.mk (Kd.R_below r25_ hb); replace HO457 := Aside0.mk (Kd.R_below r29_ hb); replace HO461 := Aside0.mk (Kd.R_below r41_ hb); replace HB := Aside0.mk (below_step hB_ hb); clear hb A37) | (go_at_call 17; (with_reducible refine (screeref17_Visible.calls k3 _ _ l0 a2 a3 t464 t465 _ ?side1 ?side2 A38.out).mono ?_); (case side1 => repeat (first | exact (Kd.C_below HR0.out HB.out) | (with_reducible refine Kd.C_alloc ?_ _) | (with_reducible refine Kd.C_drewN ?_ _) | (with_reducible refine Kd.C_drew ?_))); (case side2 => exact HC0.out); rintro e w53 ⟨rfl, hb⟩; replace HO_9 := Aside0.mk (Kd.R_below r18_ hb); replace HO_10 := Aside0.mk (Kd.R_below r24_ hb); replace HO_12 := Aside0.mk (Kd.R_below r25_ hb); replace HO457 := Aside0.mk (Kd.R_below r29_ hb); replace HO461 := Aside0.mk (Kd.R_below r41_ hb); replace HB := Aside0.mk (below_step hB_ hb); clear hb A38) | (go_at_call 18; (with_reducible refine (gc_Counts.calls k3 _ _ y441 t466 t467 t468 _ ?side1 ?side2 A39.out).mono ?_); (case side1 => repeat (first | exact (Kd.R_reads' HO_9.out).2.2 | (with_reducible refine Kd.C_alloc ?_ _) | (with_reducible refine Kd.C_drewN ?_ _) | (with_reducible refine Kd.C_drew ?_))); (case side2 => exact (Kd.R_reads' HO_9.out).2.1); rintro e w54 ⟨rfl, hb⟩; replace HO_9 := Aside0.mk (Kd.R_below r18_ hb); replace HO_10 := Aside0.mk (Kd.R_below r24_ hb); replace HO_12 := Aside0.mk (Kd.R_below r25_ hb); replace HO457 := Aside0.mk (Kd.R_below r29_ hb); replace HO461 := Aside0.mk (Kd.R_below r41_ hb); replace HB := Aside0.mk (below_step hB_ hb); clear hb A39) | (go_at_call 19; (with_reducible refine (screeref17_Counts.calls k3 _ _ l0 t469 t470 t471 _ ?side1 ?side2 A40.out).mono ?_); (case side1 => repeat (first | exact (Kd.C_below HR0.out HB.out) | (with_reducible refine Kd.C_alloc ?_ _) | (with_reducible refine Kd.C_drewN ?_ _) | (with_reducible refine Kd.C_drew ?_))); (case side2 => exact HC0.out); rintro e w55 ⟨rfl, hb⟩; replace HO_9 := Aside0.mk (Kd.R_below r18_ hb); replace HO_10 := Aside0.mk (Kd.R_below r24_ hb); replace HO_12 := Aside0.mk (Kd.R_below r25_ hb); replace HO457 := Aside0.mk (Kd.R_below r29_ hb); replace HO461 := Aside0.mk (Kd.R_below r41_ hb); replace HB := Aside0.mk (below_step hB_ hb); clear hb A40; obtain ⟨Ao56, co56, eo56⟩ := Kd.R_slice HO457.out; subst eo56; obtain ⟨Ao57, co57, eo57⟩ := Kd.R_slice HO461.out; subst eo57) | (go_at_call 20; (with_reducible refine (screeref07_Same.calls k3 _ _ t454 _ _ t458 true _ ?side1 ?side2 ?side3 ?side4 A41.out).mono ?_); (case side1 => repeat (first | exact (Kd.R_reads' HO457.out).2.2 | (with_reducible refine Kd.C_alloc ?_ _) | (with_reducible refine Kd.C_drewN ?_ _) | (with_reducible refine Kd.C_drew ?_))); (case side2 => exact (Kd.R_reads' HO457.out).2.1); (case side3 => repeat (first | exact (Kd.R_reads' HO461.out).2.2 | (with_reducible refine Kd.C_alloc ?_ _) | (with_reducible refine Kd.C_drewN ?_ _) | (with_reducible refine Kd.C_drew ?_))); (case side4 => exact (Kd.R_reads' HO461.out).2.1); rintro e w' ⟨rfl, ⟨nd, rfl⟩⟩; (try first | exact ⟨rfl, _, World.drewN_drewN _ _ _⟩ | exact ⟨rfl, _, Eq.trans (World.drewN_drewN _ _ _) (congrArg (World.drewN _) (Nat.add_assoc _ _ _))⟩)) | (go_at_call 20; (with_reducible refine (screeref07_Same.calls k3 _ _ y441 _ _ l0 t473 _ ?side1 ?side2 ?side3 ?side4 A49.out).mono ?_); (case side1 => repeat (first | exact (Kd.R_reads' HO_9.out).2.2 | (with_reducible refine Kd.C_alloc ?_ _) | (with_reducible refine Kd.C_drewN ?_ _) | (with_reducible refine Kd.C_drew ?_))); (case side2 => exact (Kd.R_reads' HO_9.out).2.1); (case side3 => repeat (first | exact (Kd.C_below HR0.out hB_) | (with_reducible refine Kd.C_alloc ?_ _) | (with_reducible refine Kd.C_drewN ?_ _) | (with_reducible refine Kd.C_drew ?_))); (case side4 => exact HC0.out); rintro e w' ⟨rfl, ⟨nd, rfl⟩⟩; (try first | exact ⟨rfl, _, World.drewN_drewN _ _ _⟩ | exact ⟨rfl, _, Eq.trans (World.drewN_drewN _ _ _) (congrArg (World.drewN _) (Nat.add_assoc _ _ _))⟩))))
       go_ret
       exact ⟨rf_, hB_⟩

end Go.Proofs.Ytcdadhgcjkgnoaa.P
