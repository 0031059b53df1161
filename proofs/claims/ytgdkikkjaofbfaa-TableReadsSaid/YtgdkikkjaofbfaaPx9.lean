-- Printed by a program of this session's own (wip/tools/pprint.sh, over the kit's print, with given contracts): not typed by hand.
import Derived.Test.YtgdkikkjaofbfaaPx0
import Derived.Test.YtgdkikkjaofbfaaPx7
import Derived.Test.YtgdkikkjaofbfaaPx8
namespace Go.Proofs.Ytgdkikkjaofbfaa.P
open Go.RowKit Go.Proofs.YtgdkikkjaofbfaaW.PrintWords Go.Proofs.YtgdkikkjaofbfaaW.PrintLast Go.Proofs.YtgdkikkjaofbfaaW.PrintMore
attribute [local go_sem] max2_int min2_int max_two min_two max_three min_three max_four min_four   -- for this text's walks alone
set_option linter.unusedVariables false
set_option linter.unusedSimpArgs false
-- SQUEEZED4
-- SQUEEZED3

/-! ### qy: function 52 -/
def qy.l0 : Nat → Int → List (S37) → ByteArray → List (S80) → ByteArray → Int → Option ((List (S37)) × ByteArray × ByteArray × Int)
 | 0, _, _, _, _, _, _ => none
 | k + 1, x1, x5, x1000, x1001, x1002, x1003 => if x1 < (x1001.length : Int) then ((qf1.f x1000 x1001 x1002 x1003 x1).bind fun bt134 => ((qe.f k bt134.1).bind fun bt138 => (if x5.length + bt138.1.length < 2932031007402 then (qy.l0 k (wrap64 (x1 + 1)) (x5 ++ bt138.1) bt134.2.1 x1001 bt134.2.2.1 bt134.2.2.2) else (none)))) else (some (x5, x1000, x1002, x1003))
def qy.f (k : Nat) (s0_0 : ByteArray) (s0_1 : List (S80)) (s0_2 : ByteArray) (s0_3 : Int) (a1 : Int) : Option ((List (S37)) × ByteArray × ByteArray × Int) := qy.l0 k a1 ([] : List (S37)) s0_0 s0_1 s0_2 s0_3
theorem qy.mono_l : ∀ k, (∀ y0 y1 y2 y3 y4 y5, LeO (qy.l0 k y0 y1 y2 y3 y4 y5) (qy.l0 (k + 1) y0 y1 y2 y3 y4 y5))
 | 0 => fun _ _ _ _ _ _ r h => by simp [qy.l0] at h
 | k + 1 => by
  have ih0 := qy.mono_l k
  ·intro y0 y1 y2 y3 y4 y5
   unfold qy.l0
   repeat' first
   | (with_reducible exact ih0 _ _ _ _ _ _)
   | (with_reducible exact LeO.refl _)
   | (with_reducible exact LeO.none _)
   | (with_reducible refine LeO.ite ?_ ?_)
   | (with_reducible refine LeO.bind ?_ (fun _ => ?_))
   | exact ih0 _ _ _ _ _ _
   | exact qe.mono _ _
   | exact LeO.none _
   | refine LeO.ite ?_ ?_
   | refine LeO.bind ?_ (fun _ => ?_)
theorem qy.mono : ∀ a0 a1 a2 a3 a4 k, LeO (qy.f k a0 a1 a2 a3 a4) (qy.f (k + 1) a0 a1 a2 a3 a4) := by
 intro a0 a1 a2 a3 a4 k
 have ih0 := qy.mono_l k
 unfold qy.f
 repeat' first
   | (with_reducible exact ih0 _ _ _ _ _ _)
   | (with_reducible exact LeO.refl _)
   | (with_reducible exact LeO.none _)
   | (with_reducible refine LeO.ite ?_ ?_)
   | (with_reducible refine LeO.bind ?_ (fun _ => ?_))
   | exact ih0 _ _ _ _ _ _
   | exact qe.mono _ _
   | exact LeO.none _
   | refine LeO.ite ?_ ?_
   | refine LeO.bind ?_ (fun _ => ?_)
set_option maxHeartbeats 8000000 in
set_option maxRecDepth 100000 in
theorem qy.calls (k : Nat) (g : Nat) (s0_0 : ByteArray) (s0_1 : List (S80)) (s0_2 : ByteArray) (s0_3 : Int) (a1 : Int) (r1 : List (S37)) (r2 : ByteArray) (r3 : ByteArray) (r4 : Int) (w0 w : World) (hI : IsS82 w0 w g s0_0 s0_1 s0_2 s0_3) (hB : Below w0.heap.size w0 w) (h : qy.f k s0_0 s0_1 s0_2 s0_3 a1 = some (r1, r2, r3, r4)) :
  Calls Try.prog 52 #[.pointer (some ⟨g, 0, none⟩), .int .i64 a1] w fun e w' => ∃ v0_ : Value, e = .returned (v0_) ∧ Kd.R k37 37 w' w.heap.size (fun _ => True) v0_ r1 ∧ IsS82 w0 w' g r2 s0_1 r3 r4 ∧ Below w0.heap.size w0 w' ∧ KeepBut w w' g none := by
 have HI0 := Aside0.mk hI
 have HK := Aside0.mk (KeepBut.refl w g none)
 have HL := Aside0.mk hB.size
 clear hI
 have HW0 := Aside0.mk hB.size
 have HB := Aside0.mk hB
 clear hB
 have H : (qy.l0 k a1 ([] : List (S37)) s0_0 s0_1 s0_2 s0_3) = some (r1, r2, r3, r4) := h
 clear h
 have H' := Aside0.mk H
 clear H
 go_enter Try.func52, Try.ntmps52
 go_wp2
 go_loopg [1, 5] k (fun kq v1 v5 w' => ∃ (x1_1 : Int) (x5_1 : List (S37)) (x1000_1 : ByteArray) (x1002_1 : ByteArray) (x1003_1 : Int), v1 = .int .i64 x1_1 ∧ Aside0 (qy.l0 kq x1_1 x5_1 x1000_1 s0_1 x1002_1 x1003_1 = some (r1, r2, r3, r4)) ∧ Aside0 (kq ≤ k) ∧ Aside0 (Kd.R k37 37 w' w.heap.size (fun _ => True) v5 x5_1) ∧ Aside0 (IsS82 w0 w' g x1000_1 s0_1 x1002_1 x1003_1) ∧ Aside0 (KeepBut w w' g none) ∧ Aside0 (Below w0.heap.size w0 w'))
 case atStart => exact ⟨(a1), (([] : List (S37))), (s0_0), (s0_2), (s0_3), rs_, H', ⟨Nat.le_refl _⟩, ⟨by first | exact Kd.R_nil _ _ _ _ _ | exact Kd.N_nil _ _ _ _ _ | exact Kd.V_nil _ _ _ _ _ | exact Kd.Q_nil _ _ _ _ _ | exact Kd.S_nil _ _ _ _ _⟩, ⟨r6_⟩, ⟨r3_⟩, ⟨r8_⟩⟩
 case round =>
  clear H'
  obtain ⟨x1_1, x5_1, x1000_1, x1002_1, x1003_1, rfl, HA, HK1, HO_5, HI0, HK, HB⟩ := hrel
  cases gk with
  | zero => exact absurd HA.out (by simp [qy.l0])
  | succ k1 =>
   have H := HA.out
   clear HA
   simp only [qy.l0] at H
   by_cases c3 : x1_1 < (s0_1.length : Int)
   rotate_left
   ·rw [if_neg c3] at H
    have c3b0 := decide_eq_false c3
    clear c3
    simp only [Option.some.injEq, Prod.mk.injEq] at H
    obtain ⟨rfl, rfl, rfl, rfl⟩ := H
    obtain ⟨ASz12_1, cSz12_1, HGz12, hgz12, HSz12_1⟩ := HI0.out
    have hcz12_0 := cellS82_0 HGz12
    have hcz12_1 := cellS82_1 HGz12
    have hcz12_2 := cellS82_2 HGz12
    have hcz12_3 := cellS82_3 HGz12
    have hfz12_0 := blk_frozen HGz12 0
    have hfz12_2 := blk_frozen HGz12 2
    have hfz12_3 := blk_frozen HGz12 3
    clear HGz12 hgz12
    go_wp2
    go_ret
    exact ⟨_, rf_, r4_, r6_, r8_, r3_⟩
   rw [if_pos c3] at H
   have c3b0 := decide_eq_true c3
   clear c3
   replace H := bs_ H
   obtain ⟨⟨t134, t135, t136, t137⟩, A40, H⟩ := H
   try dsimp only at H
   have A4 := Aside0.mk A40
   clear A40
   replace H := bs_ H
   obtain ⟨⟨t138, t139⟩, A50, H⟩ := H
   try dsimp only at H
   have A5 := Aside0.mk A50
   clear A50
   by_cases c6 : x5_1.length + t138.length < 2932031007402
   rotate_left
   ·rw [if_neg c6] at H
    exact absurd H r17_
   rw [if_pos c6] at H
   have LMc6 := Aside0.mk c6
   clear c6
   obtain ⟨y142, hy142⟩ : ∃ y_ : List (S37), y_ = (x5_1 ++ t138) := ⟨_, rfl⟩
   replace H : (qy.l0 k1 (wrap64 (x1_1 + 1)) y142 t135 s0_1 t136 t137) = some (r1, r2, r3, r4) := by first | (rw [hy142]; with_reducible exact H) | (have H2_ := (Option.bind_some _ _).symm.trans H; rw [hy142]; with_reducible exact H2_) | (have H2_ := (Option.bind_some _ _).symm.trans H; with_reducible exact H2_) | with_reducible exact H | (rw [hy142]; exact H) | exact H
   have Ny142 := Aside0.mk hy142
   clear hy142
   have H' := Aside0.mk H
   clear H
   obtain ⟨ASz7_1, cSz7_1, HGz7, hgz7, HSz7_1⟩ := HI0.out
   have hcz7_0 := cellS82_0 HGz7
   have hcz7_1 := cellS82_1 HGz7
   have hcz7_2 := cellS82_2 HGz7
   have hcz7_3 := cellS82_3 HGz7
   have hfz7_0 := blk_frozen HGz7 0
   have hfz7_2 := blk_frozen HGz7 2
   have hfz7_3 := blk_frozen HGz7 3
   clear HGz7 hgz7
   go_wp2_with (first | ((with_reducible refine gate_callee (f := 46) rfl ?_); refine goesL_ (some 20) rfl rfl Try.func46 r2_ rfl #[.pointer (some ⟨g, 0, none⟩), .int .i64 x1_1] rfl hA_ ?_; (with_reducible refine (qf1.calls g x1000_1 s0_1 x1002_1 x1003_1 x1_1 t134 t135 t136 t137 w0 _ ?side1 ?side2 A4.out).mono ?_); (case side1 => repeat (first | (with_reducible first | exact HI0.out | apply IsS82.alloc | apply IsS82.drewN | apply IsS82.drew | apply IsS82.set_0 | apply IsS82.set_2 | apply IsS82.set_3) | exact HI0.out)); (case side2 => repeat (first | (with_reducible first | exact HB.out | apply below_alloc | apply pw_below_drewN | apply below_drew1 | refine below_set ?_ (IsS82.ge HI0.out)) | exact HB.out)); rintro e w8 ⟨rfl, hi, hb, hk⟩; refine ⟨_, rfl, ?_⟩; replace HO_5 := Aside0.mk (Kd.R_mono (Kd.R_keep (IsS82.apart (show IsS82 w0 _ g x1000_1 s0_1 x1002_1 x1003_1 from by repeat (first | (with_reducible first | exact HI0.out | apply IsS82.alloc | apply IsS82.drewN | apply IsS82.drew | apply IsS82.set_0 | apply IsS82.set_2 | apply IsS82.set_3) | exact HI0.out)) r4_ r24_) hk (fun _ h => h.2)) (fun _ h => h.1)); replace HK := Aside0.mk (KeepBut.trans r3_ hk (.inl rfl)); replace HB := Aside0.mk (hb); replace HI0 := Aside0.mk (hi); clear hb hk hi A4) | ((with_reducible refine gate_callee (f := 70) rfl ?_); refine goesL_ (some 21) rfl rfl Try.func70 r2_ rfl #[.string t134] rfl hA_ ?_; (with_reducible refine (qe.calls k1 t134 t138 t139 _ A5.out).mono ?_); rintro e w9 ⟨v140, rfl, ho0, hb⟩; refine ⟨_, rfl, ?_⟩; have HO141 := Aside0.mk (Kd.R_lower (Kd.R_new' ho0 (Kd.R_lt r4_)) (keep_size (w := w) (g := g) (row := none) r3_)); replace HO_5 := Aside0.mk (Kd.R_elder' r4_ (Kd.R_base ho0) hb); replace HK := Aside0.mk (KeepBut.trans r3_ (KeepBut.of_below hb g none) (.inl rfl)); replace HB := Aside0.mk (below_step r8_ hb); replace HI0 := Aside0.mk (IsS82.below r6_ hb); clear hb ho0 A5; obtain ⟨Ao11, co11, eo11⟩ := Kd.R_slice HO141.out; subst eo11) | ((with_reducible refine gate_builtin (b := .append) (xs := #[.tmp 24, .tmp 25]) rfl ?_); at_builtin; refine Kd.R_append_rows k37 w.heap.size rfl (.tmp 24) (.tmp 25) 22 37 (.agg #[(.string ⟨#[]⟩), (.int .u64 0), (.bool false), (.string ⟨#[]⟩)]) 48 rfl Try.underlying22 info37 rfl r24_ r18_ u5 x5_1 t138 _ _ _ (fun k_ => some k_ ≠ (.slice Ao11 t138.length co11 : Value).ownBlock) (fun _ => False) rfl rfl ?aO ?aR (fun _ _ h => h) (fun _ h => h.elim) ?aF (Below.refl _ _) ?aS ?aL ?_; (case aR => repeat (first | exact (Kd.R_reads' HO141.out).2.2 | (with_reducible refine Kd.C_alloc ?_ _) | (with_reducible refine Kd.C_drewN ?_ _) | (with_reducible refine Kd.C_drew ?_))); (case aF => exact (fun k_ hk => Kd.fresh' (Kd.R_lt (by (with_reducible repeat (first | apply Kd.R_alloc | apply Kd.R_drewN | apply Kd.R_drew)); exact HO141.out)) k_ hk)); (case aO => exact (by (with_reducible repeat (first | apply Kd.R_alloc | apply Kd.R_drewN | apply Kd.R_drew)); exact Kd.R_mono HO_5.out (fun _ hk => hk.2))); (case aS => exact (keep_size (w := w) (g := g) (row := none) r3_)); (case aL => have := LMc6.out; omega); intro v143 w10 ho hb hg hat; rw [← Ny142.out] at ho; replace HO141 := Aside0.mk (Kd.R_after (ok := (fun _ => True)) (by (with_reducible repeat (first | apply Kd.R_alloc | apply Kd.R_drewN | apply Kd.R_drew)); exact HO141.out) hg hat); replace HB := Aside0.mk (below_weaken r8_ HL.out hb); replace HI0 := Aside0.mk (IsS82.grown r6_ hg (IsS82.own_ne HI0.out HO_5.out r24_)); replace HK := Aside0.mk (KeepBut.trans r3_ (KeepBut.of_grown hg g) (Kd.R_base2 HO_5.out)); have HO144 := Aside0.mk (ho); clear HO_5; clear ho hb hg hat))
   go_roundg k1
   case measure => have := HK1.out; omega
   case rel => exact ⟨(wrap64 (x1_1 + 1)), (y142), (t135), (t136), (t137), rs_, hH_, ⟨by have := HK1.out; omega⟩, ⟨by (with_reducible repeat (first | apply Kd.R_alloc | apply Kd.R_drewN | apply Kd.R_drew)); exact Kd.R_mono HO144.out (fun _ hk => trivial)⟩, ⟨r6_⟩, ⟨r3_⟩, ⟨r8_⟩⟩

/-! ### qa1: function 22 -/
def qa1.f (k : Nat) (s0_0 : ByteArray) (s0_1 : List (S80)) (s0_2 : ByteArray) (s0_3 : Int) : Option ((List (S37)) × ByteArray × ByteArray × Int) := (qy.f k s0_0 s0_1 s0_2 s0_3 0).bind fun bt145 => (some (bt145.1, bt145.2.1, bt145.2.2.1, bt145.2.2.2))
theorem qa1.mono : ∀ a0 a1 a2 a3 k, LeO (qa1.f k a0 a1 a2 a3) (qa1.f (k + 1) a0 a1 a2 a3) := by
 intro a0 a1 a2 a3 k
 unfold qa1.f
 repeat' first
   | (with_reducible exact LeO.refl _)
   | (with_reducible exact LeO.none _)
   | (with_reducible refine LeO.ite ?_ ?_)
   | (with_reducible refine LeO.bind ?_ (fun _ => ?_))
   | exact qy.mono _ _ _ _ _ _
   | exact LeO.none _
   | refine LeO.ite ?_ ?_
   | refine LeO.bind ?_ (fun _ => ?_)
set_option maxHeartbeats 8000000 in
set_option maxRecDepth 100000 in
theorem qa1.calls (k : Nat) (g : Nat) (s0_0 : ByteArray) (s0_1 : List (S80)) (s0_2 : ByteArray) (s0_3 : Int) (r1 : List (S37)) (r2 : ByteArray) (r3 : ByteArray) (r4 : Int) (w0 w : World) (hI : IsS82 w0 w g s0_0 s0_1 s0_2 s0_3) (hB : Below w0.heap.size w0 w) (h : qa1.f k s0_0 s0_1 s0_2 s0_3 = some (r1, r2, r3, r4)) :
  Calls Try.prog 22 #[.pointer (some ⟨g, 0, none⟩)] w fun e w' => ∃ v0_ : Value, e = .returned (v0_) ∧ Kd.R k37 37 w' w.heap.size (fun _ => True) v0_ r1 ∧ IsS82 w0 w' g r2 s0_1 r3 r4 ∧ Below w0.heap.size w0 w' ∧ KeepBut w w' g none := by
 have HI0 := Aside0.mk hI
 have HK := Aside0.mk (KeepBut.refl w g none)
 have HL := Aside0.mk hB.size
 clear hI
 have HW0 := Aside0.mk hB.size
 have HB := Aside0.mk hB
 clear hB
 have H : ((qy.f k s0_0 s0_1 s0_2 s0_3 0).bind fun bt145 => (some (bt145.1, bt145.2.1, bt145.2.2.1, bt145.2.2.2))) = some (r1, r2, r3, r4) := h
 clear h
 replace H := bs_ H
 obtain ⟨⟨t145, t148, t149, t150⟩, A20, H⟩ := H
 try dsimp only at H
 have A2 := Aside0.mk A20
 clear A20
 simp only [Option.some.injEq, Prod.mk.injEq] at H
 obtain ⟨rfl, rfl, rfl, rfl⟩ := H
 go_enter Try.func22, Try.ntmps22
 go_wp2_with (first | ((with_reducible refine gate_callee (f := 52) rfl ?_); refine goesL_ (some 4) rfl rfl Try.func52 r2_ rfl #[.pointer (some ⟨g, 0, none⟩), .int .i64 0] rfl hA_ ?_; (with_reducible refine (qy.calls k g s0_0 s0_1 s0_2 s0_3 0 t145 t148 t149 t150 w0 _ ?side1 ?side2 A2.out).mono ?_); (case side1 => repeat (first | (with_reducible first | exact HI0.out | apply IsS82.alloc | apply IsS82.drewN | apply IsS82.drew | apply IsS82.set_0 | apply IsS82.set_2 | apply IsS82.set_3) | exact HI0.out)); (case side2 => repeat (first | (with_reducible first | exact HB.out | apply below_alloc | apply pw_below_drewN | apply below_drew1 | refine below_set ?_ (IsS82.ge HI0.out)) | exact HB.out)); rintro e w3 ⟨v146, rfl, ho0, hi, hb, hk⟩; refine ⟨_, rfl, ?_⟩; have HO147 := Aside0.mk (Kd.R_lower ho0 (keep_size (w := w) (g := g) (row := none) r3_)); replace HK := Aside0.mk (KeepBut.trans r3_ hk (.inl rfl)); replace HB := Aside0.mk (hb); replace HI0 := Aside0.mk (hi); clear hb hk hi ho0 A2))
 go_ret
 exact ⟨_, rf_, by (with_reducible repeat (first | apply Kd.R_alloc | apply Kd.R_drewN | apply Kd.R_drew)); exact HO147.out, r6_, r8_, r3_⟩

/-! ### ql1: function 86 -/
def ql1.f (a0 : ByteArray) (a1 : ByteArray) : Option (Bool) := if (a0.size : Int) ≥ (a1.size : Int) then (if 0 ≤ (wrap64 ((a0.size : Int) - (a1.size : Int))) then (if (wrap64 ((a0.size : Int) - (a1.size : Int))) ≤ (a0.size : Int) then (some ((a0.extract ((wrap64 ((a0.size : Int) - (a1.size : Int))) : Int).toNat a0.size).toList == a1.toList)) else (none)) else (none)) else (some false)
set_option maxHeartbeats 8000000 in
set_option maxRecDepth 100000 in
theorem ql1.calls (a0 : ByteArray) (a1 : ByteArray) (r : Bool) (w : World) (h : ql1.f a0 a1 = some r) :
  Calls Try.prog 86 #[.string a0, .string a1] w fun e w' => e = .returned (.bool r) ∧ Drawn0 w w' := by
 have H : (if (a0.size : Int) ≥ (a1.size : Int) then (if 0 ≤ (wrap64 ((a0.size : Int) - (a1.size : Int))) then (if (wrap64 ((a0.size : Int) - (a1.size : Int))) ≤ (a0.size : Int) then (some ((a0.extract ((wrap64 ((a0.size : Int) - (a1.size : Int))) : Int).toNat a0.size).toList == a1.toList)) else (none)) else (none)) else (some false)) = some r := h
 clear h
 by_cases c3 : (a0.size : Int) ≥ (a1.size : Int)
 rotate_left
 ·rw [if_neg c3] at H
  have c3b0 : decide ((a1.size : Int) ≤ (a0.size : Int)) = false := decide_eq_false c3
  have c3b1 : decide (a1.size ≤ a0.size) = false := decide_eq_false (fun h => c3 (Int.ofNat_le.mpr h))
  clear c3
  obtain rfl := Option.some.inj H
  go_enter Try.func86, Try.ntmps86
  go_wp2
  go_ret
  exact ⟨rs_, dR_⟩
 rw [if_pos c3] at H
 have c3b0 : decide ((a1.size : Int) ≤ (a0.size : Int)) = true := decide_eq_true c3
 have c3b1 : decide (a1.size ≤ a0.size) = true := decide_eq_true (Int.ofNat_le.mp c3)
 clear c3
 obtain ⟨ji4, hji4⟩ : ∃ j_ : Int, (wrap64 ((a0.size : Int) - (a1.size : Int))) = j_ := ⟨_, rfl⟩
 replace H : (if 0 ≤ (ji4) then (if (ji4) ≤ (a0.size : Int) then (some ((a0.extract ((ji4) : Int).toNat a0.size).toList == a1.toList)) else (none)) else (none)) = some r := by first | (rw [hji4] at H; exact H) | (simp only [hji4] at H ⊢; exact H)
 (try rw [hji4])
 have hji4w : (IntKind.i64.wrap ((a0.size : Int) - (a1.size : Int))) = ji4 := (i64_w _).trans hji4
 by_cases c5 : 0 ≤ (ji4)
 rotate_left
 ·rw [if_neg c5] at H
  exact absurd H r17_
 rw [if_pos c5] at H
 have c5b0 := eq_true c5
 have c5b1 : decide (0 ≤ (ji4)) = true := decide_eq_true c5
 clear c5
 by_cases c6 : (ji4) ≤ (a0.size : Int)
 rotate_left
 ·rw [if_neg c6] at H
  exact absurd H r17_
 rw [if_pos c6] at H
 have c6b0 := eq_true c6
 have c6b1 : decide ((ji4) ≤ (a0.size : Int)) = true := decide_eq_true c6
 clear c6
 obtain rfl := Option.some.inj H
 go_enter Try.func86, Try.ntmps86
 go_wp2
 go_ret
 exact ⟨by first | rfl | (simp; done) | (simp only [← hji4] <;> (first | rfl | simp)) | (simp [*]; done), dR_⟩

/-! ### qm1: function 64 -/
def qm1.f (a0 : ByteArray) (a1 : ByteArray) : Option (Bool) := (ql1.f a0 a1).bind fun t151 => (some t151)
set_option maxHeartbeats 8000000 in
set_option maxRecDepth 100000 in
theorem qm1.calls (a0 : ByteArray) (a1 : ByteArray) (r : Bool) (w : World) (h : qm1.f a0 a1 = some r) :
  Calls Try.prog 64 #[.string a0, .string a1] w fun e w' => e = .returned (.bool r) ∧ Drawn0 w w' := by
 have H : ((ql1.f a0 a1).bind fun t151 => (some t151)) = some r := h
 clear h
 replace H := bs_ H
 obtain ⟨t151, A30, H⟩ := H
 try dsimp only at H
 have A3 := Aside0.mk A30
 clear A30
 obtain rfl := Option.some.inj H
 go_enter Try.func64, Try.ntmps64
 go_wp2_with (first | ((with_reducible refine gate_callee (f := 86) rfl ?_); refine goesL_ (some 7) rfl rfl Try.func86 r2_ rfl #[.string a0, .string a1] rfl hA_ ?_; (with_reducible refine (ql1.calls a0 a1 t151 _ A3.out).mono ?_); rintro e w' ⟨rfl, ⟨nd, rfl⟩⟩; refine ⟨_, rfl, ?_⟩))
 go_ret
 exact ⟨rs_, dR_⟩

/-! ### qF: function 41 -/
def qF.no : Int × Int × Int × Bool := (0, 0, 0, false)
def qF.one (k : Nat) (s : ByteArray) (i : Nat) : Option Int := (qN.f k (s.extract (s.size - 32 + 8 * i) (s.size - 32 + 8 * i + 8))).bind fun a => if 0 ≤ a.1 then some a.1 else none
def qF.f (k : Nat) (s : ByteArray) : Option (Int × Int × Int × Bool) :=
 if s.size < 32 then some qF.no else if s.size ≤ 140737488351232 then (qm1.f s ⟨#[115, 99, 114, 101, 101, 48, 48, 49]⟩).bind fun t => if t = true then
  (qF.one k s 0).bind fun a => if ((s.size - 32 : Nat) : Int) < a then some qF.no else (qF.one k s 1).bind fun b => if ((s.size - 32 : Nat) : Int) < b then some qF.no else (qF.one k s 2).bind fun c => if ((s.size - 32 : Nat) : Int) < c then some qF.no else some (a, b, c, decide (a + b ≤ ((s.size - 32 : Nat) : Int)))
 else some qF.no else none
theorem qF.one_mono (k : Nat) (s : ByteArray) (i : Nat) : LeO (qF.one k s i) (qF.one (k + 1) s i) := LeO.bind (qN.mono _ _) (fun _ => LeO.refl _)
theorem qF.mono : ∀ a0 k, LeO (qF.f k a0) (qF.f (k + 1) a0) := by
 intro s k
 unfold qF.f
 exact LeO.ite (LeO.refl _) (LeO.ite (LeO.bind (LeO.refl _) (fun _ => LeO.ite (LeO.bind (qF.one_mono _ _ _) (fun _ => LeO.ite (LeO.refl _) (LeO.bind (qF.one_mono _ _ _) (fun _ => LeO.ite (LeO.refl _) (LeO.bind (qF.one_mono _ _ _) (fun _ => LeO.refl _)))))) (LeO.refl _))) (LeO.refl _))
set_option maxHeartbeats 6400000 in
set_option maxRecDepth 100000 in
theorem qF.calls (k : Nat) (a0 : ByteArray) (r1 r2 r3 : Int) (r4 : Bool) (w : World) (h : qF.f k a0 = some (r1, r2, r3, r4)) :
  Calls Try.prog 41 #[.string a0] w fun e w' => e = .returned (.tuple #[.int .i64 r1, .int .i64 r2, .int .i64 r3, .bool r4]) ∧ Below w.heap.size w w' := by
 have hu_ := Try.underlying68
 have hu9_ := Try.underlying9
 unfold qF.f at h
 by_cases h0 : a0.size < 32
 ·rw [if_pos h0] at h
  obtain ⟨rfl, rfl, rfl, rfl⟩ : 0 = r1 ∧ 0 = r2 ∧ 0 = r3 ∧ false = r4 := by simpa [qF.no] using h
  have d1 : decide ((a0.size : Int) < 32) = true := decide_eq_true r18_
  go_enter Try.func41, Try.ntmps41
  go_wp2
  exact bodyPost_ret (v := .tuple #[.int .i64 0, .int .i64 0, .int .i64 0, .bool false]) (by simp [results, Try.results41, go_sem]) rfl ⟨rfl, Below.refl _ _⟩
 rw [if_neg h0] at h
 have d1 : decide ((a0.size : Int) < 32) = false := decide_eq_false r18_
 by_cases hmx : a0.size ≤ 140737488351232
 case neg => rw [if_neg hmx] at h; exact absurd h r17_
 rw [if_pos hmx] at h
 replace h := bs_ h
 obtain ⟨t, hT, h⟩ := h
 have HT := Lib.hid hT
 clear hT
 cases t with
 | false =>
  rw [if_neg r17_] at h
  obtain ⟨rfl, rfl, rfl, rfl⟩ : 0 = r1 ∧ 0 = r2 ∧ 0 = r3 ∧ false = r4 := by simpa [qF.no] using h
  go_enter Try.func41, Try.ntmps41
  go_wp2_with (fail)
  refine (qm1.calls a0 ⟨#[115, 99, 114, 101, 101, 48, 48, 49]⟩ false _ HT.out).mono ?_
  rintro e x1 ⟨rfl, hb⟩
  have HB1 := Aside0.mk hb.below; clear hb
  go_wp2
  exact bodyPost_ret (v := .tuple #[.int .i64 0, .int .i64 0, .int .i64 0, .bool false]) (by simp [results, Try.results41, go_sem]) rfl ⟨rfl, HB1.out⟩
 | true =>
 rw [if_pos rfl] at h
 replace h := bs_ h
 obtain ⟨a, hA, h⟩ := h
 have HA := Lib.hid hA
 have HH := Lib.hid h
 clear hA h
 go_enter Try.func41, Try.ntmps41
 go_wp2_with (fail)
 refine (qm1.calls a0 ⟨#[115, 99, 114, 101, 101, 48, 48, 49]⟩ true _ HT.out).mono ?_
 rintro e x1 ⟨rfl, hb⟩
 have HB1 := Aside0.mk hb.below; clear hb
 go_upto_region 4 with (fail)
 have BK2 : Aside0 ((x1.alloc (.cells #[.int .i64 0, .int .i64 0, .int .i64 0] 68)).heap[x1.heap.size]? = some (.cells #[.int .i64 0, .int .i64 0, .int .i64 0] 68 (0, 0))) := ⟨blk_new _ _⟩
 have HB2 := Aside0.mk (below_alloc HB1.out (.cells #[.int .i64 0, .int .i64 0, .int .i64 0] 68))
 have HGE : Hid (w.heap.size ≤ x1.heap.size) := Lib.hid HB1.out.size
 clear HB1
 generalize (x1.alloc (.cells #[.int .i64 0, .int .i64 0, .int .i64 0] 68)) = x2 at BK2 HB2 ⊢
 obtain ⟨g, hgg⟩ : ∃ g, x1.heap.size = g := ⟨_, rfl⟩
 rw [hgg] at BK2 HGE ⊢
 clear hgg
 have h32 : 32 ≤ a0.size := by omega
 have slw : ∀ (lo hi : Int), 0 ≤ lo → lo ≤ hi → hi ≤ (a0.size : Int) → ∀ W, (Instr.slice 9 (.string a0) (some (.int .i64 lo)) (some (.int .i64 hi)) none).run Try.prog W = .ok (.string (a0.extract lo.toNat hi.toNat)) W := fun lo hi h0 h1 h2 W => run_slice_string W 9 a0 .i64 .i64 lo hi hu9_ h0 h1 h2
 have tn : ∀ (m : Nat), ((a0.size : Int) - 32 + (m : Int)).toNat = a0.size - 32 + m := fun m => by omega
 have sl0 := slw ((a0.size : Int) - 32) ((a0.size : Int) - 32 + 8) r18_ r18_ r18_
 have sl1 := slw ((a0.size : Int) - 32 + 8) ((a0.size : Int) - 32 + 8 + 8) r18_ r18_ r18_
 have sl2 := slw ((a0.size : Int) - 32 + 16) ((a0.size : Int) - 32 + 16 + 8) r18_ r18_ r18_
 rw [show ((a0.size : Int) - 32).toNat = a0.size - 32 + 8 * 0 by omega, show ((a0.size : Int) - 32 + 8).toNat = a0.size - 32 + 8 * 0 + 8 by omega] at sl0
 rw [show ((a0.size : Int) - 32 + 8).toNat = a0.size - 32 + 8 * 1 by omega, show ((a0.size : Int) - 32 + 8 + 8).toNat = a0.size - 32 + 8 * 1 + 8 by omega] at sl1
 rw [show ((a0.size : Int) - 32 + 16).toNat = a0.size - 32 + 8 * 2 by omega, show ((a0.size : Int) - 32 + 16 + 8).toNat = a0.size - 32 + 8 * 2 + 8 by omega] at sl2
 obtain ⟨t0, ht0⟩ : ∃ t, a0.extract (a0.size - 32 + 8 * 0) (a0.size - 32 + 8 * 0 + 8) = t := ⟨_, rfl⟩
 obtain ⟨t1, ht1⟩ : ∃ t, a0.extract (a0.size - 32 + 8 * 1) (a0.size - 32 + 8 * 1 + 8) = t := ⟨_, rfl⟩
 obtain ⟨t2, ht2⟩ : ∃ t, a0.extract (a0.size - 32 + 8 * 2) (a0.size - 32 + 8 * 2 + 8) = t := ⟨_, rfl⟩
 rw [ht0] at sl0
 rw [ht1] at sl1
 rw [ht2] at sl2
 clear slw tn
 have hA0 := HA.out
 unfold qF.one at hA0
 rw [ht0] at hA0
 have O1 : Hid (qF.one k a0 1 = (qN.f k t1).bind fun a => if 0 ≤ a.1 then some a.1 else none) := Lib.hid (by unfold qF.one; rw [ht1])
 have O2 : Hid (qF.one k a0 2 = (qN.f k t2).bind fun a => if 0 ≤ a.1 then some a.1 else none) := Lib.hid (by unfold qF.one; rw [ht2])
 clear ht0 ht1 ht2 HA
 obtain ⟨rm, hrm⟩ : ∃ rm : Nat, a0.size - 32 = rm := ⟨_, rfl⟩
 have hrm2 : (a0.size : Int) - 32 = (rm : Int) := by omega
 rw [hrm] at HH
 have hrmx : rm ≤ 140737488351232 := by omega
 clear hrm
 have HRM := Lib.hid hrm2
 clear hrm2
 replace hA0 := bs_ hA0
 obtain ⟨⟨a', ok0⟩, u0, hA0⟩ := hA0
 by_cases hp0 : 0 ≤ (a', ok0).1
 case neg => rw [if_neg hp0] at hA0; exact absurd hA0 r17_
 rw [if_pos hp0] at hA0
 obtain rfl := Option.some.inj hA0
 have U0 := Lib.hid u0
 have P0 : Hid (0 ≤ a') := Lib.hid hp0
 clear u0 hA0 hp0
 clear hu9_
 clear h0 d1
 go_wp2_with (fail)
 refine wp_loop_rounds 4 ?_
 rw [rounds_succ]
 go_wp2_with (fail)
 refine (qN.calls k t0 a' ok0 _ U0.out).mono ?_
 rintro e x3 ⟨rfl, hb⟩
 have HB3 := Aside0.mk (below_step HB2.out hb.below)
 have BK3 := Aside0.mk (blk_below BK2.out hb.below)
 clear hb HB2 BK2
 have hh := HH.out
 clear HH
 by_cases hc : (rm : Int) < a'
 case pos =>
  rw [if_pos hc] at hh
  obtain ⟨rfl, rfl, rfl, rfl⟩ : 0 = r1 ∧ 0 = r2 ∧ 0 = r3 ∧ false = r4 := by simpa [qF.no] using hh
  have dc : decide ((a0.size : Int) - 32 < a') = true := decide_eq_true (by have := HRM.out; omega)
  clear hc
  go_wp2
  exact bodyPost_ret (v := .tuple #[.int .i64 0, .int .i64 0, .int .i64 0, .bool false]) (by simp [results, Try.results41, go_sem]) rfl ⟨rfl, HB3.out⟩
 rw [if_neg hc] at hh
 have HH := Lib.hid hh
 have dc : decide ((a0.size : Int) - 32 < a') = false := decide_eq_false (by have := HRM.out; omega)
 have hcv : IntKind.i64.wrap a' = a' := by have := P0.out; rw [i64_w]; unfold wrap64; omega
 have PM0 : Hid (a' ≤ (rm : Int)) := Lib.hid r18_
 clear hc hh
 have c_ : x3.cell? ⟨g, 0, none⟩ = some (.int .i64 0) := (blk_cell BK3.out 0).trans rfl
 have f_ := blk_frozen BK3.out 0
 go_wp2
 clear c_ f_ dc hcv
 have BK4 := Aside0.mk (blk_put (cs' := #[.int .i64 a', .int .i64 0, .int .i64 0]) BK3.out 0 (.int .i64 a') rfl)
 have HB4 := Aside0.mk (HB3.out.setCell (p := ⟨g, 0, none⟩) HGE.out (.int .i64 a'))
 clear BK3 HB3
 generalize (x3.setCell ⟨g, 0, none⟩ (.int .i64 a')) = x4 at BK4 HB4 ⊢
 rw [rounds_succ]
 have hh := HH.out
 clear HH
 replace hh := bs_ hh
 obtain ⟨b', hA0, hh⟩ := hh
 have HH := Lib.hid hh
 clear hh
 rw [O1.out] at hA0
 replace hA0 := bs_ hA0
 obtain ⟨⟨b'_, ok1⟩, u0, hA0⟩ := hA0
 by_cases hp0 : 0 ≤ (b'_, ok1).1
 case neg => rw [if_neg hp0] at hA0; exact absurd hA0 r17_
 rw [if_pos hp0] at hA0
 obtain rfl := Option.some.inj hA0
 have U1 := Lib.hid u0
 have P1 : Hid (0 ≤ b'_) := Lib.hid hp0
 clear u0 hA0 hp0
 go_wp2_with (fail)
 refine (qN.calls k t1 b'_ ok1 _ U1.out).mono ?_
 rintro e x5 ⟨rfl, hb⟩
 have HB5 := Aside0.mk (below_step HB4.out hb.below)
 have BK5 := Aside0.mk (blk_below BK4.out hb.below)
 clear hb HB4 BK4
 have hh := HH.out
 clear HH
 by_cases hc : (rm : Int) < b'_
 case pos =>
  rw [if_pos hc] at hh
  obtain ⟨rfl, rfl, rfl, rfl⟩ : 0 = r1 ∧ 0 = r2 ∧ 0 = r3 ∧ false = r4 := by simpa [qF.no] using hh
  have dc : decide ((a0.size : Int) - 32 < b'_) = true := decide_eq_true (by have := HRM.out; omega)
  clear hc
  go_wp2
  exact bodyPost_ret (v := .tuple #[.int .i64 0, .int .i64 0, .int .i64 0, .bool false]) (by simp [results, Try.results41, go_sem]) rfl ⟨rfl, HB5.out⟩
 rw [if_neg hc] at hh
 have HH := Lib.hid hh
 have dc : decide ((a0.size : Int) - 32 < b'_) = false := decide_eq_false (by have := HRM.out; omega)
 have hcv : IntKind.i64.wrap b'_ = b'_ := by have := P1.out; rw [i64_w]; unfold wrap64; omega
 have PM1 : Hid (b'_ ≤ (rm : Int)) := Lib.hid r18_
 clear hc hh
 have c_ : x5.cell? ⟨g, 1, none⟩ = some (.int .i64 0) := (blk_cell BK5.out 1).trans rfl
 have f_ := blk_frozen BK5.out 1
 go_wp2
 clear c_ f_ dc hcv
 have BK6 := Aside0.mk (blk_put (cs' := #[.int .i64 a', .int .i64 b'_, .int .i64 0]) BK5.out 1 (.int .i64 b'_) rfl)
 have HB6 := Aside0.mk (HB5.out.setCell (p := ⟨g, 1, none⟩) HGE.out (.int .i64 b'_))
 clear BK5 HB5
 generalize (x5.setCell ⟨g, 1, none⟩ (.int .i64 b'_)) = x6 at BK6 HB6 ⊢
 rw [rounds_succ]
 have hh := HH.out
 clear HH
 replace hh := bs_ hh
 obtain ⟨c', hA0, hh⟩ := hh
 have HH := Lib.hid hh
 clear hh
 rw [O2.out] at hA0
 replace hA0 := bs_ hA0
 obtain ⟨⟨c'_, ok2⟩, u0, hA0⟩ := hA0
 by_cases hp0 : 0 ≤ (c'_, ok2).1
 case neg => rw [if_neg hp0] at hA0; exact absurd hA0 r17_
 rw [if_pos hp0] at hA0
 obtain rfl := Option.some.inj hA0
 have U2 := Lib.hid u0
 have P2 : Hid (0 ≤ c'_) := Lib.hid hp0
 clear u0 hA0 hp0
 go_wp2_with (fail)
 refine (qN.calls k t2 c'_ ok2 _ U2.out).mono ?_
 rintro e x7 ⟨rfl, hb⟩
 have HB7 := Aside0.mk (below_step HB6.out hb.below)
 have BK7 := Aside0.mk (blk_below BK6.out hb.below)
 clear hb HB6 BK6
 have hh := HH.out
 clear HH
 by_cases hc : (rm : Int) < c'_
 case pos =>
  rw [if_pos hc] at hh
  obtain ⟨rfl, rfl, rfl, rfl⟩ : 0 = r1 ∧ 0 = r2 ∧ 0 = r3 ∧ false = r4 := by simpa [qF.no] using hh
  have dc : decide ((a0.size : Int) - 32 < c'_) = true := decide_eq_true (by have := HRM.out; omega)
  clear hc
  go_wp2
  exact bodyPost_ret (v := .tuple #[.int .i64 0, .int .i64 0, .int .i64 0, .bool false]) (by simp [results, Try.results41, go_sem]) rfl ⟨rfl, HB7.out⟩
 rw [if_neg hc] at hh
 have HH := Lib.hid hh
 have dc : decide ((a0.size : Int) - 32 < c'_) = false := decide_eq_false (by have := HRM.out; omega)
 have hcv : IntKind.i64.wrap c'_ = c'_ := by have := P2.out; rw [i64_w]; unfold wrap64; omega
 have PM2 : Hid (c'_ ≤ (rm : Int)) := Lib.hid r18_
 clear hc hh
 have c_ : x7.cell? ⟨g, 2, none⟩ = some (.int .i64 0) := (blk_cell BK7.out 2).trans rfl
 have f_ := blk_frozen BK7.out 2
 go_wp2
 clear c_ f_ dc hcv
 have BK8 := Aside0.mk (blk_put (cs' := #[.int .i64 a', .int .i64 b'_, .int .i64 c'_]) BK7.out 2 (.int .i64 c'_) rfl)
 have HB8 := Aside0.mk (HB7.out.setCell (p := ⟨g, 2, none⟩) HGE.out (.int .i64 c'_))
 clear BK7 HB7
 generalize (x7.setCell ⟨g, 2, none⟩ (.int .i64 c'_)) = x8 at BK8 HB8 ⊢
 rw [rounds_succ]
 have c0_ : x8.cell? ⟨g, 0, none⟩ = some (.int .i64 a') := (blk_cell BK8.out 0).trans rfl
 have c1_ : x8.cell? ⟨g, 1, none⟩ = some (.int .i64 b'_) := (blk_cell BK8.out 1).trans rfl
 have c2_ : x8.cell? ⟨g, 2, none⟩ = some (.int .i64 c'_) := (blk_cell BK8.out 2).trans rfl
 have hh := HH.out
 clear HH
 simp only [Option.some.injEq, Prod.mk.injEq] at hh
 obtain ⟨rfl, rfl, rfl, rfl⟩ := hh
 have b0 := P0.out
 have b1 := P1.out
 have m0 := PM0.out
 have m1 := PM1.out
 have hrm2 := HRM.out
 go_wp2_with (fail)
 go_quiet (fail)
 go_wp2
 rw [← HRM.out]
 exact bodyPost_ret (v := .tuple #[.int .i64 a', .int .i64 b'_, .int .i64 c'_, .bool (decide (a' + b'_ ≤ (a0.size : Int) - 32))]) (by simp [results, Try.results41, go_sem]) rfl ⟨rfl, pw_below_drewN HB8.out _⟩

-- NOT PRINTED: function 66 (table_handles_1)

/-! ### qk: function 42 -/
-- needs 67
structure qk.Mv (p q : Nat) (w w' : World) : Prop where
 size : w.heap.size ≤ w'.heap.size
 keep : ∀ k, k < w.heap.size → k ≠ p → k ≠ q → w'.heap[k]? = w.heap[k]?
 bel : ∀ B, B ≤ p → B ≤ q → B ≤ w.heap.size → Below B w w'
theorem qk.Mv.refl (p q : Nat) (w : World) : qk.Mv p q w w := ⟨Nat.le_refl _, fun _ _ _ _ => rfl, fun B _ _ _ => Below.refl B w⟩
theorem qk.Mv.trans {p q : Nat} {w w1 w2 : World} (h : qk.Mv p q w w1) (h2 : qk.Mv p q w1 w2) : qk.Mv p q w w2 :=
 ⟨Nat.le_trans h.size h2.size, fun k hk hp hq => (h2.keep k (Nat.lt_of_lt_of_le hk h.size) hp hq).trans (h.keep k hk hp hq), fun B hp hq hB => (h.bel B hp hq hB).trans (h2.bel B hp hq (Nat.le_trans hB h.size))⟩
theorem qk.Mv.below {p q : Nat} {w w1 : World} (h : Below w.heap.size w w1) : qk.Mv p q w w1 := ⟨h.size, fun k hk _ _ => h.block k hk, fun B _ _ hB => h.mono hB⟩
theorem qk.Mv.setp (p q i : Nat) (w : World) (v : Value) : qk.Mv p q w (w.setCell ⟨p, i, none⟩ v) :=
 ⟨by rw [World.size_setCell]; exact Nat.le_refl _, fun k _ hp _ => Below.heap_setCell w ⟨p, i, none⟩ v k hp, fun B hp _ _ => (Below.refl B w).setCell (p := ⟨p, i, none⟩) hp v⟩
theorem qk.Mv.setq (p q i : Nat) (w : World) (v : Value) : qk.Mv p q w (w.setCell ⟨q, i, none⟩ v) :=
 ⟨by rw [World.size_setCell]; exact Nat.le_refl _, fun k _ _ hq => Below.heap_setCell w ⟨q, i, none⟩ v k hq, fun B _ hq _ => (Below.refl B w).setCell (p := ⟨q, i, none⟩) hq v⟩
theorem qk.Mv.blk {p q g : Nat} {w w' : World} {o : Obj} (h : qk.Mv p q w w') (hb : w.heap[g]? = some o) (hp : g ≠ p) (hq : g ≠ q) : w'.heap[g]? = some o := (h.keep g (blk_lt hb) hp hq).trans hb
/-- The two variables that the literals share: what is left, and whether all was good. -/
def qk.St (w : World) (p q : Nat) (s : ByteArray) (g : Bool) : Prop := p ≠ q ∧ w.heap[p]? = some (.cells #[.string s] 9 (0, 0)) ∧ w.heap[q]? = some (.cells #[.bool g] 4 (0, 0))
theorem qk.St.put {w : World} {p q : Nat} {s s' : ByteArray} {g g' : Bool} (h : qk.St w p q s g) : qk.St ((w.setCell ⟨q, 0, none⟩ (.bool g')).setCell ⟨p, 0, none⟩ (.string s')) p q s' g' :=
 ⟨h.1, blk_put (cs' := #[.string s']) (blk_far (p := ⟨q, 0, none⟩) h.2.1 h.1 (.bool g')) 0 (.string s') rfl, blk_far (p := ⟨p, 0, none⟩) (blk_put (cs' := #[.bool g']) h.2.2 0 (.bool g') rfl) (Ne.symm h.1) (.string s')⟩
theorem qk.St.putq {w : World} {p q : Nat} {s : ByteArray} {g g' : Bool} (h : qk.St w p q s g) : qk.St (w.setCell ⟨q, 0, none⟩ (.bool g')) p q s g' :=
 ⟨h.1, blk_far (p := ⟨q, 0, none⟩) h.2.1 h.1 (.bool g'), blk_put (cs' := #[.bool g']) h.2.2 0 (.bool g') rfl⟩
theorem qk.St.putp {w : World} {p q : Nat} {s s' : ByteArray} {g : Bool} (h : qk.St w p q s g) : qk.St (w.setCell ⟨p, 0, none⟩ (.string s')) p q s' g :=
 ⟨h.1, blk_put (cs' := #[.string s']) h.2.1 0 (.string s') rfl, blk_far (p := ⟨p, 0, none⟩) h.2.2 (Ne.symm h.1) (.string s')⟩
theorem qk.St.below {w w' : World} {p q : Nat} {s : ByteArray} {g : Bool} (h : qk.St w p q s g) (hb : Below w.heap.size w w') : qk.St w' p q s g := ⟨h.1, blk_below h.2.1 hb, blk_below h.2.2 hb⟩
theorem qk.St.drewN {w : World} {p q : Nat} {s : ByteArray} {g : Bool} (h : qk.St w p q s g) (n : Nat) : qk.St (w.drewN n) p q s g := h
def qk.nv (n : Int) : Int := wrap64 (Go.bits .and .u64 n 2199023255551)
def qk.num (k : Nat) (s : ByteArray) (g : Bool) : Option (Int × ByteArray × Bool) := (qV.f k s).bind fun t => some (qk.nv t.1, t.2.1, g && (t.2.2 && decide (t.1 ≤ 1099511627776)))
def qk.go (k : Nat) : Nat → ByteArray → Bool → List (S80) → Option (List (S80) × Bool)
 | 0, s, g, l => some (l, g && (s.toList == ([] : List UInt8)))
 | n + 1, s, g, l => (qk.num k s g).bind fun a => if a.2.2 = false ∨ (a.2.1.size : Int) < a.1 then some ([], false) else if 0 ≤ a.1 then (qk.num k (a.2.1.extract a.1.toNat a.2.1.size) a.2.2).bind fun b => (qk.num k b.2.1 b.2.2).bind fun c => (qk.num k c.2.1 c.2.2).bind fun d => qk.go k n d.2.1 d.2.2 (l ++ [⟨a.2.1.extract 0 a.1.toNat, IntKind.u64.wrap b.1, c.1, d.1⟩]) else none
def qk.f (k : Nat) (a0 : ByteArray) : Option (List (S80) × Bool) := (qk.num k a0 true).bind fun a => if 0 ≤ a.1 then qk.go k (min a.1.toNat 500) a.2.1 a.2.2 [] else none
theorem qk.num_mono (k : Nat) (s : ByteArray) (g : Bool) : LeO (qk.num k s g) (qk.num (k + 1) s g) := LeO.bind (qV.mono _ _) (fun _ => LeO.refl _)
theorem qk.go_mono (k : Nat) : ∀ n s g l, LeO (qk.go k n s g l) (qk.go (k + 1) n s g l)
 | 0, _, _, _ => LeO.refl _
 | n + 1, s, g, l => LeO.bind (qk.num_mono _ _ _) (fun _ => LeO.ite (LeO.refl _) (LeO.ite (LeO.bind (qk.num_mono _ _ _) (fun _ => LeO.bind (qk.num_mono _ _ _) (fun _ => LeO.bind (qk.num_mono _ _ _) (fun _ => qk.go_mono k n _ _ _)))) (LeO.refl _)))
theorem qk.mono : ∀ a0 k, LeO (qk.f k a0) (qk.f (k + 1) a0) := fun _ _ => LeO.bind (qk.num_mono _ _ _) (fun _ => LeO.ite (qk.go_mono _ _ _ _ _) (LeO.refl _))
theorem qk.info : (Try.prog.info? 80).map (fun i => (i.zero, i.size, i.bytes)) = some (some (.agg #[(.string ⟨#[]⟩), (.int .u64 0), (.int .i64 0), (.int .i64 0)]), 4, 40) := by kernel_rfl
set_option maxHeartbeats 1600000 in
set_option maxRecDepth 100000 in
theorem qk.numC (k : Nat) (p q : Nat) (s s' : ByteArray) (g g' : Bool) (n : Int) (w : World) (hs : qk.St w p q s g) (h : qk.num k s g = some (n, s', g')) :
  Calls Try.prog 66 #[.pointer (some ⟨p, 0, none⟩), .pointer (some ⟨q, 0, none⟩)] w fun e w' => e = .returned (.int .i64 n) ∧ qk.St w' p q s' g' ∧ qk.Mv p q w w' := by
 unfold qk.num at h
 replace h := bs_ h
 obtain ⟨⟨n1, s1, b1⟩, hn, h⟩ := h
 simp only [Option.some.injEq, Prod.mk.injEq] at h
 obtain ⟨rfl, rfl, rfl⟩ := h
 have HN := Lib.hid hn
 have HS := Aside0.mk hs
 clear hn hs
 obtain ⟨d, hd⟩ : ∃ d, decide (n1 ≤ 1099511627776) = d := ⟨_, rfl⟩
 rw [hd]
 have c_ : w.cell? ⟨p, 0, none⟩ = some (.string s) := (blk_cell HS.out.2.1 0).trans rfl
 go_enter Try.func66, Try.ntmps66
 go_wp2_with (fail)
 clear c_
 refine (qV.calls k s n1 s1 b1 _ HN.out).mono ?_
 rintro e w1 ⟨rfl, ⟨nd, rfl⟩⟩
 have HS1 := Aside0.mk (HS.out.drewN nd)
 have HM1 : Aside0 (qk.Mv p q w (w.drewN nd)) := ⟨qk.Mv.below (pw_below_drewN (Below.refl _ _) nd)⟩
 clear HS
 generalize w.drewN nd = w1 at HS1 HM1 ⊢
 have c1_ : w1.cell? ⟨q, 0, none⟩ = some (.bool g) := (blk_cell HS1.out.2.2 0).trans rfl
 have f1_ := blk_frozen HS1.out.2.2 0
 have f2_ := blk_frozen (blk_far (p := ⟨q, 0, none⟩) HS1.out.2.1 HS1.out.1 (.bool (g && (b1 && d)))) 0
 have HF := Aside0.mk (HS1.out.put (s' := s1) (g' := g && (b1 && d)))
 have HMF := Aside0.mk (HM1.out.trans ((qk.Mv.setq p q 0 w1 (.bool (g && (b1 && d)))).trans (qk.Mv.setp p q 0 _ (.string s1))))
 have c2_ : (w1.setCell ⟨q, 0, none⟩ (.bool (g && (b1 && d)))).cell? ⟨p, 0, none⟩ = some (.string s) := (blk_cell (blk_far (p := ⟨q, 0, none⟩) HS1.out.2.1 HS1.out.1 (.bool (g && (b1 && d)))) 0).trans rfl
 clear HS1 HM1
 cases g <;> cases b1 <;> cases d <;> simp only [Bool.true_and, Bool.false_and] at HF HMF f2_ c2_ ⊢ <;> (go_wp2; go_ret; exact ⟨rfl, HF.out, HMF.out⟩)
set_option maxHeartbeats 3200000 in
set_option maxRecDepth 100000 in
theorem qk.calls (k : Nat) (a0 : ByteArray) (r1 : List (S80)) (r2 : Bool) (w : World) (h : qk.f k a0 = some (r1, r2)) :
  Calls Try.prog 42 #[.string a0] w fun e w' => ∃ v0_ : Value, e = .returned (.tuple #[v0_, .bool r2]) ∧ Kd.R k80 80 w' w.heap.size (fun _ => True) v0_ r1 ∧ Below w.heap.size w w' := by
 have hmf : ∀ (fn : Fn) (first cap : Array Value) (w : World), (Instr.makeFunc fn first cap).run Try.prog w = .ok (.func fn first cap) w := fun _ _ _ _ => rfl
 unfold qk.f at h
 replace h := bs_ h
 obtain ⟨⟨n1, s1, g1⟩, h1, h⟩ := h
 by_cases h0 : 0 ≤ (n1, s1, g1).1
 case neg => rw [if_neg h0] at h; exact absurd h r17_
 rw [if_pos h0] at h
 have h0' : 0 ≤ n1 := h0
 have H1 := Lib.hid h1
 have H3 : Hid (qk.go k (min n1.toNat 500) s1 g1 [] = some (r1, r2)) := Lib.hid h
 clear h h1 h0
 go_enter Try.func42, Try.ntmps42
 go_upto_region 4 with (fail)
 obtain ⟨p, hp⟩ : ∃ p, p = w.heap.size := ⟨_, rfl⟩
 obtain ⟨q, hq⟩ : ∃ q, q = w.heap.size + 1 := ⟨_, rfl⟩
 have HG : Hid (w.heap.size ≤ p ∧ w.heap.size ≤ q ∧ p ≠ q) := Lib.hid ⟨r18_, r18_, r18_⟩
 have HS : Aside0 (qk.St ((w.alloc (.cells #[.string a0] 9)).alloc (.cells #[.bool true] 4)) p q a0 true) := by
  refine ⟨⟨HG.out.2.2, ?_, ?_⟩⟩
  ·rw [hp]; exact blk_alloc (blk_new w _) _
  ·rw [hq]
   have := blk_new (w.alloc (.cells #[.string a0] 9)) (.cells #[.bool true] 4)
   rwa [World.size_alloc] at this
 have HB : Aside0 (Below w.heap.size w ((w.alloc (.cells #[.string a0] 9)).alloc (.cells #[.bool true] 4))) := ⟨below_alloc (below_alloc (Below.refl _ _) _) _⟩
 rw [← hq, ← hp]
 clear hmf hp hq
 generalize ((w.alloc (.cells #[.string a0] 9)).alloc (.cells #[.bool true] 4)) = W1 at HS HB ⊢
 go_wp2_with (fail)
 refine (qk.numC k p q a0 s1 true g1 n1 _ HS.out H1.out).mono ?_
 rintro e x1 ⟨rfl, hs, hm⟩
 have HS1 := Aside0.mk hs
 have HB1 := Aside0.mk (HB.out.trans (hm.bel w.heap.size HG.out.1 HG.out.2.1 HB.out.size))
 clear hs hm HS HB H1
 obtain ⟨N, hN⟩ : ∃ N, min n1.toNat 500 = N := ⟨_, rfl⟩
 rw [hN] at H3
 have em : (if (500 : Int) < n1 then (500 : Int) else n1) = (N : Int) := by split <;> omega
 have HNN : Hid (N ≤ 500) := Lib.hid r18_
 clear hN h0'
 go_wp2_with (fail)
 try rw [em]
 clear em
 have HO1 : Aside0 (Kd.R k80 80 x1 w.heap.size (fun k_ => k_ ≠ p ∧ k_ ≠ q) (.slice none 0 0) ([] : List (S80))) := ⟨Kd.R_nil _ _ _ _ _⟩
 go_loopg [6, 13] N (fun kq v6 v13 w' => ∃ (i : Nat) (s : ByteArray) (g : Bool) (l : List (S80)), v13 = .int .i64 (i : Int) ∧ Aside0 (kq + i = N) ∧ Aside0 (qk.go k kq s g l = some (r1, r2)) ∧ Hid (l.length = i) ∧ Aside0 (qk.St w' p q s g) ∧ Aside0 (Kd.R k80 80 w' w.heap.size (fun k_ => k_ ≠ p ∧ k_ ≠ q) v6 l) ∧ Aside0 (Below w.heap.size w w'))
 case atStart => exact ⟨0, s1, g1, [], rfl, ⟨r18_⟩, ⟨H3.out⟩, Lib.hid rfl, HS1, HO1, HB1⟩
 case round =>
  clear HS1 HO1 HB1 H3
  obtain ⟨i, s, g, l, rfl, HI, HGO, HLN, HS0, HO0, HB0⟩ := hrel
  by_cases hlt : i < N
  case neg =>
   have hi : gk = 0 := by have := HI.out; omega
   subst hi
   have hg := HGO.out
   unfold qk.go at hg
   simp only [Option.some.injEq, Prod.mk.injEq] at hg
   obtain ⟨rfl, rfl⟩ := hg
   have dl : decide ((i : Int) < (N : Int)) = false := decide_eq_false r18_
   have c_ : wr.cell? ⟨q, 0, none⟩ = some (.bool g) := (blk_cell HS0.out.2.2 0).trans rfl
   have c2_ : wr.cell? ⟨p, 0, none⟩ = some (.string s) := (blk_cell HS0.out.2.1 0).trans rfl
   clear HGO HI
   cases g with
   | false =>
    go_wp2_with (fail)
    go_quiet (fail)
    go_wp2
    exact bodyPost_ret (v := .tuple #[u6, .bool false]) (by simp [results, Try.results42, go_sem]) rfl ⟨_, rfl, Kd.R_mono (Kd.R_drewN HO0.out _) (fun _ _ => trivial), pw_below_drewN HB0.out _⟩
   | true =>
    obtain ⟨e, he⟩ : ∃ e, (s.toList == ([] : List UInt8)) = e := ⟨_, rfl⟩
    go_wp2_with (fail)
    go_quiet (fail)
    go_wp2
    exact bodyPost_ret (v := .tuple #[u6, .bool e]) (by simp [results, Try.results42, go_sem]) rfl ⟨u6, by rw [Bool.true_and, he], Kd.R_mono (Kd.R_drewN HO0.out _) (fun _ _ => trivial), pw_below_drewN HB0.out _⟩
  have hkg : ∃ k1, gk = k1 + 1 := ⟨gk - 1, by have := HI.out; omega⟩
  obtain ⟨k1, rfl⟩ := hkg
  have hnn := HNN.out
  have dl : decide ((i : Int) < (N : Int)) = true := decide_eq_true r18_
  have hg := HGO.out
  unfold qk.go at hg
  clear HGO
  replace hg := bs_ hg
  obtain ⟨⟨n, sA, gA⟩, hA, hg⟩ := hg
  have HA := Lib.hid hA
  have HGG := Lib.hid hg
  clear hA hg
  go_wp2_with (fail)
  refine (qk.numC k p q s sA g gA n _ HS0.out HA.out).mono ?_
  rintro e y1 ⟨rfl, hs, hm⟩
  have HS1 := Aside0.mk hs
  have HB1 := Aside0.mk (HB0.out.trans (hm.bel w.heap.size HG.out.1 HG.out.2.1 HB0.out.size))
  have HO1 := Aside0.mk (Kd.R_step HO0.out (fun k_ hk_ hl_ => hm.keep k_ hl_ hk_.1 hk_.2))
  clear hs hm HS0 HB0 HO0 HA dl
  have hgg := HGG.out
  clear HGG
  have c_ : y1.cell? ⟨q, 0, none⟩ = some (.bool gA) := (blk_cell HS1.out.2.2 0).trans rfl
  have c2_ : y1.cell? ⟨p, 0, none⟩ = some (.string sA) := (blk_cell HS1.out.2.1 0).trans rfl
  cases gA with
  | false =>
   rw [if_pos (Or.inl rfl)] at hgg
   simp only [Option.some.injEq, Prod.mk.injEq] at hgg
   obtain ⟨rfl, rfl⟩ := hgg
   go_wp2
   exact bodyPost_ret (v := .tuple #[.slice none 0 0, .bool false]) (by simp [results, Try.results42, go_sem]) rfl ⟨_, rfl, Kd.R_nil _ _ _ _ _, HB1.out⟩
  | true =>
  by_cases hsz : (sA.size : Int) < n
  ·rw [if_pos (Or.inr hsz)] at hgg
   simp only [Option.some.injEq, Prod.mk.injEq] at hgg
   obtain ⟨rfl, rfl⟩ := hgg
   have ds : decide ((sA.size : Int) < n) = true := decide_eq_true hsz
   clear hsz
   go_wp2
   exact bodyPost_ret (v := .tuple #[.slice none 0 0, .bool false]) (by simp [results, Try.results42, go_sem]) rfl ⟨_, rfl, Kd.R_nil _ _ _ _ _, HB1.out⟩
  rw [if_neg (fun e => e.elim r17_ hsz)] at hgg
  have ds : decide ((sA.size : Int) < n) = false := decide_eq_false hsz
  by_cases hn0 : 0 ≤ n
  case neg => rw [if_neg hn0] at hgg; exact absurd hgg r17_
  rw [if_pos hn0] at hgg
  have hn1 : n ≤ (sA.size : Int) := by omega
  replace hgg := bs_ hgg
  obtain ⟨⟨n2, s2, g2⟩, hb2, hgg⟩ := hgg
  replace hgg := bs_ hgg
  obtain ⟨⟨n3, s3, g3⟩, hb3, hgg⟩ := hgg
  replace hgg := bs_ hgg
  obtain ⟨⟨n4, s4, g4⟩, hb4, hgg⟩ := hgg
  have H2 := Lib.hid hb2
  have H3 := Lib.hid hb3
  have H4 := Lib.hid hb4
  have HGN := Lib.hid hgg
  clear hgg hb2 hb3 hb4 hsz
  go_upto_region 10 with (fail)
  clear ds c_ c2_
  obtain ⟨ky, hky⟩ : ∃ t, sA.extract 0 n.toNat = t := ⟨_, rfl⟩
  rw [hky] at HGN ⊢
  clear hky
  have BK2 : Aside0 ((y1.alloc (.cells #[.string ky, .int .u64 0, .int .i64 0, .int .i64 0] 80)).heap[y1.heap.size]? = some (.cells #[.string ky, .int .u64 0, .int .i64 0, .int .i64 0] 80 (0, 0))) := ⟨blk_new _ _⟩
  have HS2 := Aside0.mk (HS1.out.below (below_alloc (Below.refl y1.heap.size y1) (.cells #[.string ky, .int .u64 0, .int .i64 0, .int .i64 0] 80)))
  have HB2 := Aside0.mk (below_alloc HB1.out (.cells #[.string ky, .int .u64 0, .int .i64 0, .int .i64 0] 80))
  have HO2 := Aside0.mk (Kd.R_mono (ok' := fun k_ => (k_ ≠ p ∧ k_ ≠ q) ∧ k_ ≠ y1.heap.size) (Kd.R_alloc (Kd.R_bound HO1.out) (.cells #[.string ky, .int .u64 0, .int .i64 0, .int .i64 0] 80)) (fun k_ hk_ => ⟨hk_.1, Nat.ne_of_lt hk_.2.2.1⟩))
  have HX : Hid (w.heap.size ≤ y1.heap.size ∧ y1.heap.size ≠ p ∧ y1.heap.size ≠ q) := Lib.hid ⟨HB1.out.size, by have := blk_lt HS1.out.2.1; omega, by have := blk_lt HS1.out.2.2; omega⟩
  clear HS1 HB1 HO1
  generalize (y1.alloc (.cells #[.string ky, .int .u64 0, .int .i64 0, .int .i64 0] 80)) = y2 at BK2 HS2 HB2 HO2 ⊢
  obtain ⟨gx, hgx⟩ : ∃ g_, y1.heap.size = g_ := ⟨_, rfl⟩
  rw [hgx] at BK2 HO2 HX ⊢
  clear hgx
  have c_ : y2.cell? ⟨p, 0, none⟩ = some (.string sA) := (blk_cell HS2.out.2.1 0).trans rfl
  have f_ := blk_frozen HS2.out.2.1 0
  go_upto_region 11 with (fail)
  clear c_ f_ hn0 hn1
  obtain ⟨sB, hsB⟩ : ∃ t, sA.extract n.toNat sA.size = t := ⟨_, rfl⟩
  have H2b : Hid (qk.num k sB true = some (n2, s2, g2)) := by have := H2.out; rw [hsB] at this; exact Lib.hid this
  rw [hsB]
  clear hsB H2
  have HS3 := Aside0.mk (HS2.out.putp (s' := sB))
  have BK3 := Aside0.mk (blk_far (p := ⟨p, 0, none⟩) BK2.out HX.out.2.1 (.string sB))
  have HB3 := Aside0.mk (HB2.out.setCell (p := ⟨p, 0, none⟩) HG.out.1 (.string sB))
  have HO3 := Aside0.mk (Kd.R_step HO2.out (w1 := y2.setCell ⟨p, 0, none⟩ (.string sB)) (fun k_ hk_ _ => Below.heap_setCell y2 ⟨p, 0, none⟩ (.string sB) k_ hk_.1.1))
  clear HS2 BK2 HB2 HO2
  generalize (y2.setCell ⟨p, 0, none⟩ (.string sB)) = y3 at HS3 BK3 HB3 HO3 ⊢
  go_wp2_with (fail)
  refine (qk.numC k p q sB s2 true g2 n2 _ HS3.out H2b.out).mono ?_
  rintro e y4 ⟨rfl, hs, hm⟩
  have HS4 := Aside0.mk hs
  have BK4 := Aside0.mk (hm.blk BK3.out HX.out.2.1 HX.out.2.2)
  have HB4 := Aside0.mk (HB3.out.trans (hm.bel w.heap.size HG.out.1 HG.out.2.1 HB3.out.size))
  have HO4 := Aside0.mk (Kd.R_step HO3.out (fun k_ hk_ hl_ => hm.keep k_ hl_ hk_.1.1 hk_.1.2))
  clear hs hm HS3 BK3 HB3 HO3
  have c_ : y4.cell? ⟨gx, 1, none⟩ = some (.int .u64 0) := (blk_cell BK4.out 1).trans rfl
  have f_ := blk_frozen BK4.out 1
  go_upto_region 12 with (fail)
  clear c_ f_
  have HS5 : Aside0 (qk.St (y4.setCell ⟨gx, 1, none⟩ (.int .u64 (IntKind.u64.wrap n2))) p q s2 g2) := ⟨⟨HG.out.2.2, blk_far (p := ⟨gx, 1, none⟩) HS4.out.2.1 (Ne.symm HX.out.2.1) (.int .u64 (IntKind.u64.wrap n2)), blk_far (p := ⟨gx, 1, none⟩) HS4.out.2.2 (Ne.symm HX.out.2.2) (.int .u64 (IntKind.u64.wrap n2))⟩⟩
  have BK5 := Aside0.mk (blk_put (cs' := #[.string ky, .int .u64 (IntKind.u64.wrap n2), .int .i64 0, .int .i64 0]) BK4.out 1 (.int .u64 (IntKind.u64.wrap n2)) rfl)
  have HB5 := Aside0.mk (HB4.out.setCell (p := ⟨gx, 1, none⟩) HX.out.1 (.int .u64 (IntKind.u64.wrap n2)))
  have HO5 := Aside0.mk (Kd.R_step HO4.out (w1 := y4.setCell ⟨gx, 1, none⟩ (.int .u64 (IntKind.u64.wrap n2))) (fun k_ hk_ _ => Below.heap_setCell y4 ⟨gx, 1, none⟩ (.int .u64 (IntKind.u64.wrap n2)) k_ hk_.2))
  clear HS4 BK4 HB4 HO4
  generalize (y4.setCell ⟨gx, 1, none⟩ (.int .u64 (IntKind.u64.wrap n2))) = y5 at HS5 BK5 HB5 HO5 ⊢
  go_wp2_with (fail)
  refine (qk.numC k p q s2 s3 g2 g3 n3 _ HS5.out H3.out).mono ?_
  rintro e y6 ⟨rfl, hs, hm⟩
  have HS6 := Aside0.mk hs
  have BK6 := Aside0.mk (hm.blk BK5.out HX.out.2.1 HX.out.2.2)
  have HB6 := Aside0.mk (HB5.out.trans (hm.bel w.heap.size HG.out.1 HG.out.2.1 HB5.out.size))
  have HO6 := Aside0.mk (Kd.R_step HO5.out (fun k_ hk_ hl_ => hm.keep k_ hl_ hk_.1.1 hk_.1.2))
  clear hs hm HS5 BK5 HB5 HO5
  go_wp2_with (fail)
  refine (qk.numC k p q s3 s4 g3 g4 n4 _ HS6.out H4.out).mono ?_
  rintro e y7 ⟨rfl, hs, hm⟩
  have HS7 := Aside0.mk hs
  have BK7 := Aside0.mk (hm.blk BK6.out HX.out.2.1 HX.out.2.2)
  have HB7 := Aside0.mk (HB6.out.trans (hm.bel w.heap.size HG.out.1 HG.out.2.1 HB6.out.size))
  have HO7 := Aside0.mk (Kd.R_step HO6.out (fun k_ hk_ hl_ => hm.keep k_ hl_ hk_.1.1 hk_.1.2))
  clear hs hm HS6 BK6 HB6 HO6
  have c2_ : y7.cell? ⟨gx, 2, none⟩ = some (.int .i64 0) := (blk_cell BK7.out 2).trans rfl
  have f2_ := blk_frozen BK7.out 2
  have c3_ : (y7.setCell ⟨gx, 2, none⟩ (.int .i64 n3)).cell? ⟨gx, 3, none⟩ = some (.int .i64 0) := (blk_cell (blk_put (cs' := #[.string ky, .int .u64 (IntKind.u64.wrap n2), .int .i64 n3, .int .i64 0]) BK7.out 2 (.int .i64 n3) rfl) 3).trans rfl
  have f3_ := blk_frozen (blk_put (cs' := #[.string ky, .int .u64 (IntKind.u64.wrap n2), .int .i64 n3, .int .i64 0]) BK7.out 2 (.int .i64 n3) rfl) 3
  go_upto_region 13 with (fail)
  clear c2_ f2_ c3_ f3_
  have HS8 : Aside0 (qk.St (y7.setCell ⟨gx, 2, none⟩ (.int .i64 n3)) p q s4 g4) := ⟨⟨HG.out.2.2, blk_far (p := ⟨gx, 2, none⟩) HS7.out.2.1 (Ne.symm HX.out.2.1) (.int .i64 n3), blk_far (p := ⟨gx, 2, none⟩) HS7.out.2.2 (Ne.symm HX.out.2.2) (.int .i64 n3)⟩⟩
  have BK8 := Aside0.mk (blk_put (cs' := #[.string ky, .int .u64 (IntKind.u64.wrap n2), .int .i64 n3, .int .i64 0]) BK7.out 2 (.int .i64 n3) rfl)
  have HB8 := Aside0.mk (HB7.out.setCell (p := ⟨gx, 2, none⟩) HX.out.1 (.int .i64 n3))
  have HO8 := Aside0.mk (Kd.R_step HO7.out (w1 := y7.setCell ⟨gx, 2, none⟩ (.int .i64 n3)) (fun k_ hk_ _ => Below.heap_setCell y7 ⟨gx, 2, none⟩ (.int .i64 n3) k_ hk_.2))
  clear HS7 BK7 HB7 HO7
  generalize (y7.setCell ⟨gx, 2, none⟩ (.int .i64 n3)) = y8 at HS8 BK8 HB8 HO8 ⊢
  have HS9 : Aside0 (qk.St (y8.setCell ⟨gx, 3, none⟩ (.int .i64 n4)) p q s4 g4) := ⟨⟨HG.out.2.2, blk_far (p := ⟨gx, 3, none⟩) HS8.out.2.1 (Ne.symm HX.out.2.1) (.int .i64 n4), blk_far (p := ⟨gx, 3, none⟩) HS8.out.2.2 (Ne.symm HX.out.2.2) (.int .i64 n4)⟩⟩
  have BK9 := Aside0.mk (blk_put (cs' := #[.string ky, .int .u64 (IntKind.u64.wrap n2), .int .i64 n3, .int .i64 n4]) BK8.out 3 (.int .i64 n4) rfl)
  have HB9 := Aside0.mk (HB8.out.setCell (p := ⟨gx, 3, none⟩) HX.out.1 (.int .i64 n4))
  have HO9 := Aside0.mk (Kd.R_step HO8.out (w1 := y8.setCell ⟨gx, 3, none⟩ (.int .i64 n4)) (fun k_ hk_ _ => Below.heap_setCell y8 ⟨gx, 3, none⟩ (.int .i64 n4) k_ hk_.2))
  clear HS8 BK8 HB8 HO8
  generalize (y8.setCell ⟨gx, 3, none⟩ (.int .i64 n4)) = y9 at HS9 BK9 HB9 HO9 ⊢
  have d0_ : y9.cell? ⟨gx, 0, none⟩ = some (.string ky) := (blk_cell BK9.out 0).trans rfl
  have d1_ : y9.cell? ⟨gx, 1, none⟩ = some (.int .u64 (IntKind.u64.wrap n2)) := (blk_cell BK9.out 1).trans rfl
  have d2_ : y9.cell? ⟨gx, 2, none⟩ = some (.int .i64 n3) := (blk_cell BK9.out 2).trans rfl
  have d3_ : y9.cell? ⟨gx, 3, none⟩ = some (.int .i64 n4) := (blk_cell BK9.out 3).trans rfl
  have HO := Aside0.mk (Kd.R_mono (ok' := fun k_ => k_ ≠ p ∧ k_ ≠ q) HO9.out (fun _ h_ => h_.1))
  have HPL : Hid (p < y9.heap.size ∧ q < y9.heap.size) := Lib.hid ⟨blk_lt HS9.out.2.1, blk_lt HS9.out.2.2⟩
  clear HO9 BK9
  go_wp2_with (first | ((with_reducible refine gate_builtin (b := .append) (xs := #[.tmp 42, .tmp 44]) rfl ?_); at_builtin; refine Kd.R_append k80 (w0 := w) w.heap.size rfl (.tmp 42) (.tmp 44) 59 80 (.agg #[(.string ⟨#[]⟩), (.int .u64 0), (.int .i64 0), (.int .i64 0)]) 40 rfl Try.underlying59 qk.info rfl r24_ r18_ u6 l (⟨ky, IntKind.u64.wrap n2, n3, n4⟩ : S80) [.string ky, .int .u64 (IntKind.u64.wrap n2), .int .i64 n3, .int .i64 n4] (fun k_ => k_ ≠ p ∧ k_ ≠ q) (fun _ => False) rfl r25_ ?aP (fun _ hk => hk.elim) ?aF ?aO ?aB ?aS ?aL ?_; (case aP => exact k80_mkM _ _ _ (⟨ky, IntKind.u64.wrap n2, n3, n4⟩ : S80)); (case aB => exact HB9.out); (case aF => exact (fun k_ hk_ => by have := HPL.out; exact ⟨r18_, r18_⟩)); (case aO => exact HO.out); (case aS => exact HB9.out.size); (case aL => have := HLN.out; have := HNN.out; omega); intro v1 z1 ho hb hg hat; have HSg : Aside0 (qk.St z1 p q s4 g4) := ⟨⟨HG.out.2.2, blk_grown HS9.out.2.1 hg (fun e_ => (HO.out.1 p e_.symm).1 rfl), blk_grown HS9.out.2.2 hg (fun e_ => (HO.out.1 q e_.symm).2 rfl)⟩⟩; have HOg := Aside0.mk ho; have HBg := Aside0.mk hb; clear ho hb hg hat HO HB9 HS9 d0_ d1_ d2_ d3_))
  go_roundg k1
  case measure => omega
  case rel => exact ⟨i + 1, s4, g4, l ++ [(⟨ky, IntKind.u64.wrap n2, n3, n4⟩ : S80)], by go_num, ⟨by have := HI.out; omega⟩, ⟨HGN.out⟩, Lib.hid (by have := HLN.out; simp; omega), HSg, HOg, HBg⟩

end Go.Proofs.Ytgdkikkjaofbfaa.P
