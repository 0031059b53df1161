-- Printed by a program of this session's own (wip/tools/pprint.sh, over the kit's print, with given contracts): not typed by hand.
import Derived.Test.YtgdkikkjaofbfaaPx0
import Derived.Test.YtgdkikkjaofbfaaPx6
import Derived.Test.YtgdkikkjaofbfaaPx10
import Derived.Test.YtgdkikkjaofbfaaPx14
import Derived.Test.YtgdkikkjaofbfaaPx15
namespace Go.Proofs.Ytgdkikkjaofbfaa.P
open Go.RowKit Go.Proofs.YtgdkikkjaofbfaaW.PrintWords Go.Proofs.YtgdkikkjaofbfaaW.PrintLast Go.Proofs.YtgdkikkjaofbfaaW.PrintMore
attribute [local go_sem] max2_int min2_int max_two min_two max_three min_three max_four min_four   -- for this text's walks alone
set_option linter.unusedVariables false
set_option linter.unusedSimpArgs false
-- SQUEEZED3

/-! ### screelaw11_TableCut: function 9 -/
-- needs NS37DS
def screelaw11_TableCut.no (k : Nat) (s : ByteArray) (T : Option Bool) : Option Bool := (table_Open.f k s).bind fun o => match o with
 | (none, e) => if e = 2 then T else none
 | _ => none
def screelaw11_TableCut.zs (n : Int) : ByteArray := strOfNums (List.replicate n.toNat 0)
def screelaw11_TableCut.K (k : Nat) (s : ByteArray) (fr bk : Int) : Option Bool :=
 if 0 ≤ fr ∧ fr < 256 ∧ 0 ≤ bk ∧ bk < 256 ∧ s.size ≤ 1000000000 then
  if bk < (s.size : Int) ∧ 0 < bk then screelaw11_TableCut.no k (s.extract 0 ((s.size : Int) - bk).toNat) (screelaw11_TableCut.no k (screelaw11_TableCut.zs (fr + 1) ++ s) (some true)) else screelaw11_TableCut.no k (screelaw11_TableCut.zs (fr + 1) ++ s) (some true)
 else none
def screelaw11_TableCut.f (k : Nat) (l0 : List (S37)) (a1 a2 : Int) : Option Bool :=
 (screelaw11_awake.f k).bind fun t => if t = true then (screelaw11_large.f k l0).bind fun g => if g = true ∨ decide (a1 = 0 ∧ a2 = 0) = true then some true else
  (table_Build.f k l0).bind fun b => if b.2 = 0 then screelaw11_TableCut.K k b.1 a1 a2 else some true else none
theorem screelaw11_TableCut.info : (Try.prog.info? 5).map (fun i => (i.zero, i.size, i.bytes)) = some (some (.int .u8 0), 1, 1) := by kernel_rfl
set_option maxHeartbeats 6400000 in
set_option maxRecDepth 100000 in
theorem screelaw11_TableCut.calls (k : Nat) (A0 : Option Addr) (c0 : Nat) (l0 : List (S37)) (a1 a2 : Int) (r : Bool) (w : World) (hr0 : Kd.C k37 w A0 l0.length l0) (hc0 : l0.length ≤ c0) (h : screelaw11_TableCut.f k l0 a1 a2 = some r) :
  Calls Try.prog 9 #[.slice A0 l0.length c0, .int .u8 a1, .int .u8 a2] w fun e w' => e = .returned (.bool r) ∧ Below w.heap.size w w' := by
 have hus_ := Try.underlying54
 have hu5_ := Try.underlying5
 have hu9_ := Try.underlying9
 have HR0 := Aside0.mk hr0
 have HC0 := Aside0.mk hc0
 clear hr0 hc0
 unfold screelaw11_TableCut.f at h
 replace h := Option.bind_eq_some_iff.mp h
 obtain ⟨aw, ha, h⟩ := h
 by_cases he : aw = true
 case neg => rw [if_neg he] at h; exact absurd h r19_
 rw [if_pos he] at h
 subst he
 have HA := Lib.hid ha
 clear ha
 replace h := Option.bind_eq_some_iff.mp h
 obtain ⟨g, hg, h⟩ := h
 have HG := Lib.hid hg
 clear hg
 cases g with
 | true =>
  rw [if_pos (Or.inl rfl)] at h
  obtain rfl := Option.some.inj h
  clear h
  go_enter Try.func9, Try.ntmps9
  go_wp2_with (fail)
  refine (screelaw11_awake.calls k true _ HA.out).mono ?_
  rintro e w1 ⟨rfl, hb⟩
  have HB1 := Aside0.mk hb
  clear hb
  go_wp2_with (fail)
  refine (screelaw11_large.calls k A0 c0 l0 true _ (Kd.C_below HR0.out HB1.out) HC0.out HG.out).mono ?_
  rintro e w2 ⟨rfl, hb⟩
  have HB2 := Aside0.mk (below_step HB1.out hb.below)
  clear HB1 hb
  go_wp2
  go_ret
  exact ⟨rfl, HB2.out⟩
 | false =>
 obtain ⟨X, hX⟩ : ∃ X, decide (a1 = 0 ∧ a2 = 0) = X := ⟨_, rfl⟩
 rw [hX] at h
 cases X with
 | true =>
  rw [if_pos (Or.inr rfl)] at h
  obtain rfl := Option.some.inj h
  clear h
  obtain ⟨hx1, hx2⟩ := of_decide_eq_true hX
  clear hX
  have dx1 : (a1 == 0) = true := beq_iff_eq.mpr hx1
  have dx2 : (a2 == 0) = true := beq_iff_eq.mpr hx2
  clear hx1 hx2
  go_enter Try.func9, Try.ntmps9
  go_wp2_with (fail)
  refine (screelaw11_awake.calls k true _ HA.out).mono ?_
  rintro e w1 ⟨rfl, hb⟩
  have HB1 := Aside0.mk hb
  clear hb
  go_wp2_with (fail)
  refine (screelaw11_large.calls k A0 c0 l0 false _ (Kd.C_below HR0.out HB1.out) HC0.out HG.out).mono ?_
  rintro e w2 ⟨rfl, hb⟩
  have HB2 := Aside0.mk (below_step HB1.out hb.below)
  clear HB1 hb
  go_wp2
  go_ret
  exact ⟨rfl, HB2.out⟩
 | false =>
 rw [if_neg r19_] at h
 have hx0 : ¬ (a1 = 0 ∧ a2 = 0) := of_decide_eq_false hX
 clear hX
 replace h := Option.bind_eq_some_iff.mp h
 obtain ⟨⟨s, e⟩, hb, h⟩ := h
 simp only at h
 have HBD := Lib.hid hb
 have HK := Lib.hid h
 clear hb h
 by_cases hx1 : a1 = 0
 rotate_left
 ·have dx1 : (a1 == 0) = false := beq_eq_false_iff_ne.mpr hx1
  clear hx0 hx1
  by_cases he : e = 0
  case neg =>
   have h := HK.out
   rw [if_neg he] at h
   obtain rfl := Option.some.inj h
   clear h HK
   have d1 : (e == 0) = false := beq_eq_false_iff_ne.mpr he
   have d2 : (e != 0) = true := bne_iff_ne.mpr he
   go_enter Try.func9, Try.ntmps9
   go_wp2_with (fail)
   refine (screelaw11_awake.calls k true _ HA.out).mono ?_
   rintro e w1 ⟨rfl, hb⟩
   have HB1 := Aside0.mk hb
   clear hb
   go_wp2_with (fail)
   refine (screelaw11_large.calls k A0 c0 l0 false _ (Kd.C_below HR0.out HB1.out) HC0.out HG.out).mono ?_
   rintro e w2 ⟨rfl, hb⟩
   have HB2 := Aside0.mk (below_step HB1.out hb.below)
   clear HB1 hb
   go_wp2_with (fail)
   refine (table_Build.calls k A0 c0 l0 s e _ (Kd.C_below HR0.out HB2.out) HC0.out HBD.out).mono ?_
   rintro e_ x1 ⟨rfl, hb⟩
   have HX1 := Aside0.mk (below_step HB2.out hb)
   clear hb HBD
   go_wp2
   go_ret
   exact ⟨rfl, HX1.out⟩
  subst he
  have h := HK.out
  clear HK
  rw [if_pos rfl] at h
  unfold screelaw11_TableCut.K at h
  by_cases hc : 0 ≤ a1 ∧ a1 < 256 ∧ 0 ≤ a2 ∧ a2 < 256 ∧ s.size ≤ 1000000000
  case neg => rw [if_neg hc] at h; exact absurd h r19_
  rw [if_pos hc] at h
  obtain ⟨p1_, p2_, p3_, p4_, p5_⟩ := hc
  have hwa_ : wrap64 a2 = a2 := by unfold wrap64; omega
  by_cases hc : a2 < (s.size : Int) ∧ 0 < a2
  case neg =>
   rw [if_neg hc] at h
   obtain ⟨y1_, hy1_⟩ : ∃ b, decide (a2 < (s.size : Int)) = b := ⟨_, rfl⟩
   have hy2_ : y1_ = true → decide (a2 > 0) = false := fun e_ => decide_eq_false (fun h_ => hc ⟨of_decide_eq_true (hy1_.trans e_), h_⟩)
   cases y1_ with
   | false =>
    clear hy2_ hc
    go_enter Try.func9, Try.ntmps9
    go_wp2_with (fail)
    refine (screelaw11_awake.calls k true _ HA.out).mono ?_
    rintro e w1 ⟨rfl, hb⟩
    have HB1 := Aside0.mk hb
    clear hb
    go_wp2_with (fail)
    refine (screelaw11_large.calls k A0 c0 l0 false _ (Kd.C_below HR0.out HB1.out) HC0.out HG.out).mono ?_
    rintro e w2 ⟨rfl, hb⟩
    have HB2 := Aside0.mk (below_step HB1.out hb.below)
    clear HB1 hb
    go_wp2_with (fail)
    refine (table_Build.calls k A0 c0 l0 s 0 _ (Kd.C_below HR0.out HB2.out) HC0.out HBD.out).mono ?_
    rintro e_ x1 ⟨rfl, hb⟩
    have HX := Aside0.mk (below_step HB2.out hb)
    clear hb HBD HB2
    unfold screelaw11_TableCut.no at h
    replace h := Option.bind_eq_some_iff.mp h
    obtain ⟨⟨o_, e2⟩, ho2, h⟩ := h
    cases o_ with
    | some t => exact absurd h r19_
    | none =>
    simp only at h
    by_cases he2 : e2 = 2
    case neg => rw [if_neg he2] at h; exact absurd h r19_
    rw [if_pos he2] at h
    obtain rfl := Option.some.inj h
    subst he2
    unfold screelaw11_TableCut.zs at ho2
    obtain ⟨zs, hzs⟩ : ∃ zs : List Int, List.replicate (a1 + 1).toNat (0 : Int) = zs := ⟨_, rfl⟩
    rw [hzs] at ho2
    obtain ⟨zb, hzb⟩ : ∃ zb, strOfNums zs = zb := ⟨_, rfl⟩
    rw [hzb] at ho2
    have zz_ : zb.size ≤ 256 := by rw [← hzb, ← hzs]; simp [strOfNums, ByteArray.size]; omega
    have z0_ : (9223372036854775807 < zb.size + s.size) = False := eq_false r18_
    have HZS := Lib.hid hzs
    have HZB := Lib.hid hzb
    clear hzs hzb zz_
    have HO2 := Lib.hid ho2
    clear ho2 h
    have hw1_ : wrap64 a1 = a1 := by unfold wrap64; omega
    have hw2_ : wrap64 (a1 + 1) = a1 + 1 := by unfold wrap64; omega
    go_wp2_with (first | ((with_reducible refine gate_dst (N := 62) rfl ?_); refine Kd.R_make (Kd.int .u8) _ 5 rfl (N := 62) rfl 54 _ _ rfl (a1 + 1) rfl rfl Try.underlying54 (.int .u8 0) 1 screelaw11_TableCut.info rfl r20_ r18_ 0 (ok := fun _ => True) (okp := fun _ => True) rfl (fun _ hk => hk) trivial r18_ r18_ (Below.refl _ _) (Nat.le_refl _) ?_; intro v62 w62 ho hb hg_ hnew_; rw [HZS.out] at ho; obtain ⟨A62, c62, ev62⟩ := Kd.R_slice ho; subst ev62; have hcv : (convert 54 9 (.slice A62 zs.length c62)).run Try.prog w62 = .ok (.string zb) w62 := r28_; have HX7 := Aside0.mk (below_step HX.out hb); clear ho hb hg_ hnew_ HX))
    refine (table_Open.calls k _ none 2 _ HO2.out).mono ?_
    rintro e x8 ⟨rfl, hb⟩
    have HX8 := Aside0.mk (below_step HX7.out hb)
    clear hb HX7
    go_wp2
    go_ret
    exact ⟨rfl, HX8.out⟩
   | true =>
    have hy3_ := hy2_ rfl
    clear hy2_ hc
    go_enter Try.func9, Try.ntmps9
    go_wp2_with (fail)
    refine (screelaw11_awake.calls k true _ HA.out).mono ?_
    rintro e w1 ⟨rfl, hb⟩
    have HB1 := Aside0.mk hb
    clear hb
    go_wp2_with (fail)
    refine (screelaw11_large.calls k A0 c0 l0 false _ (Kd.C_below HR0.out HB1.out) HC0.out HG.out).mono ?_
    rintro e w2 ⟨rfl, hb⟩
    have HB2 := Aside0.mk (below_step HB1.out hb.below)
    clear HB1 hb
    go_wp2_with (fail)
    refine (table_Build.calls k A0 c0 l0 s 0 _ (Kd.C_below HR0.out HB2.out) HC0.out HBD.out).mono ?_
    rintro e_ x1 ⟨rfl, hb⟩
    have HX := Aside0.mk (below_step HB2.out hb)
    clear hb HBD HB2
    unfold screelaw11_TableCut.no at h
    replace h := Option.bind_eq_some_iff.mp h
    obtain ⟨⟨o_, e2⟩, ho2, h⟩ := h
    cases o_ with
    | some t => exact absurd h r19_
    | none =>
    simp only at h
    by_cases he2 : e2 = 2
    case neg => rw [if_neg he2] at h; exact absurd h r19_
    rw [if_pos he2] at h
    obtain rfl := Option.some.inj h
    subst he2
    unfold screelaw11_TableCut.zs at ho2
    obtain ⟨zs, hzs⟩ : ∃ zs : List Int, List.replicate (a1 + 1).toNat (0 : Int) = zs := ⟨_, rfl⟩
    rw [hzs] at ho2
    obtain ⟨zb, hzb⟩ : ∃ zb, strOfNums zs = zb := ⟨_, rfl⟩
    rw [hzb] at ho2
    have zz_ : zb.size ≤ 256 := by rw [← hzb, ← hzs]; simp [strOfNums, ByteArray.size]; omega
    have z0_ : (9223372036854775807 < zb.size + s.size) = False := eq_false r18_
    have HZS := Lib.hid hzs
    have HZB := Lib.hid hzb
    clear hzs hzb zz_
    have HO2 := Lib.hid ho2
    clear ho2 h
    have hw1_ : wrap64 a1 = a1 := by unfold wrap64; omega
    have hw2_ : wrap64 (a1 + 1) = a1 + 1 := by unfold wrap64; omega
    go_wp2_with (first | ((with_reducible refine gate_dst (N := 62) rfl ?_); refine Kd.R_make (Kd.int .u8) _ 5 rfl (N := 62) rfl 54 _ _ rfl (a1 + 1) rfl rfl Try.underlying54 (.int .u8 0) 1 screelaw11_TableCut.info rfl r20_ r18_ 0 (ok := fun _ => True) (okp := fun _ => True) rfl (fun _ hk => hk) trivial r18_ r18_ (Below.refl _ _) (Nat.le_refl _) ?_; intro v62 w62 ho hb hg_ hnew_; rw [HZS.out] at ho; obtain ⟨A62, c62, ev62⟩ := Kd.R_slice ho; subst ev62; have hcv : (convert 54 9 (.slice A62 zs.length c62)).run Try.prog w62 = .ok (.string zb) w62 := r28_; have HX7 := Aside0.mk (below_step HX.out hb); clear ho hb hg_ hnew_ HX))
    refine (table_Open.calls k _ none 2 _ HO2.out).mono ?_
    rintro e x8 ⟨rfl, hb⟩
    have HX8 := Aside0.mk (below_step HX7.out hb)
    clear hb HX7
    go_wp2
    go_ret
    exact ⟨rfl, HX8.out⟩
  rw [if_pos hc] at h
  have y1_ : decide (a2 < (s.size : Int)) = true := decide_eq_true hc.1
  have y2_ : decide (a2 > 0) = true := decide_eq_true hc.2
  have hws_ : wrap64 ((s.size : Int) - a2) = (s.size : Int) - a2 := by unfold wrap64; omega
  have sl1 : ∀ W, (Instr.slice 9 (.string s) none (some (.int .i64 ((s.size : Int) - a2))) none).run Try.prog W = .ok (.string (s.extract 0 ((s.size : Int) - a2).toNat)) W := fun W => run_slice_string_h W 9 s hu9_ .i64 _ r18_ r18_
  clear hc
  rw [screelaw11_TableCut.no] at h
  replace h := Option.bind_eq_some_iff.mp h
  obtain ⟨⟨o_, e2⟩, ho2, h⟩ := h
  cases o_ with
  | some t => exact absurd h r19_
  | none =>
  simp only at h
  by_cases he2 : e2 = 2
  case neg => rw [if_neg he2] at h; exact absurd h r19_
  rw [if_pos he2] at h
  subst he2
  obtain ⟨sc, hsc⟩ : ∃ t, s.extract 0 ((s.size : Int) - a2).toNat = t := ⟨_, rfl⟩
  rw [hsc] at sl1 ho2
  have HO1 := Lib.hid ho2
  clear ho2 hsc
  go_enter Try.func9, Try.ntmps9
  go_wp2_with (fail)
  refine (screelaw11_awake.calls k true _ HA.out).mono ?_
  rintro e w1 ⟨rfl, hb⟩
  have HB1 := Aside0.mk hb
  clear hb
  go_wp2_with (fail)
  refine (screelaw11_large.calls k A0 c0 l0 false _ (Kd.C_below HR0.out HB1.out) HC0.out HG.out).mono ?_
  rintro e w2 ⟨rfl, hb⟩
  have HB2 := Aside0.mk (below_step HB1.out hb.below)
  clear HB1 hb
  go_wp2_with (fail)
  refine (table_Build.calls k A0 c0 l0 s 0 _ (Kd.C_below HR0.out HB2.out) HC0.out HBD.out).mono ?_
  rintro e_ x1 ⟨rfl, hb⟩
  have HX := Aside0.mk (below_step HB2.out hb)
  clear hb HBD HB2
  go_wp2_with (fail)
  refine (table_Open.calls k sc none 2 _ HO1.out).mono ?_
  rintro e x2 ⟨rfl, hb⟩
  have HX2 := Aside0.mk (below_step HX.out hb)
  clear hb HX HO1
  rename Aside0 (Below w.heap.size w x2) => HX
  unfold screelaw11_TableCut.no at h
  replace h := Option.bind_eq_some_iff.mp h
  obtain ⟨⟨o_, e2⟩, ho2, h⟩ := h
  cases o_ with
  | some t => exact absurd h r19_
  | none =>
  simp only at h
  by_cases he2 : e2 = 2
  case neg => rw [if_neg he2] at h; exact absurd h r19_
  rw [if_pos he2] at h
  obtain rfl := Option.some.inj h
  subst he2
  unfold screelaw11_TableCut.zs at ho2
  obtain ⟨zs, hzs⟩ : ∃ zs : List Int, List.replicate (a1 + 1).toNat (0 : Int) = zs := ⟨_, rfl⟩
  rw [hzs] at ho2
  obtain ⟨zb, hzb⟩ : ∃ zb, strOfNums zs = zb := ⟨_, rfl⟩
  rw [hzb] at ho2
  have zz_ : zb.size ≤ 256 := by rw [← hzb, ← hzs]; simp [strOfNums, ByteArray.size]; omega
  have z0_ : (9223372036854775807 < zb.size + s.size) = False := eq_false r18_
  have HZS := Lib.hid hzs
  have HZB := Lib.hid hzb
  clear hzs hzb zz_
  have HO2 := Lib.hid ho2
  clear ho2 h
  have hw1_ : wrap64 a1 = a1 := by unfold wrap64; omega
  have hw2_ : wrap64 (a1 + 1) = a1 + 1 := by unfold wrap64; omega
  go_wp2_with (first | ((with_reducible refine gate_dst (N := 62) rfl ?_); refine Kd.R_make (Kd.int .u8) _ 5 rfl (N := 62) rfl 54 _ _ rfl (a1 + 1) rfl rfl Try.underlying54 (.int .u8 0) 1 screelaw11_TableCut.info rfl r20_ r18_ 0 (ok := fun _ => True) (okp := fun _ => True) rfl (fun _ hk => hk) trivial r18_ r18_ (Below.refl _ _) (Nat.le_refl _) ?_; intro v62 w62 ho hb hg_ hnew_; rw [HZS.out] at ho; obtain ⟨A62, c62, ev62⟩ := Kd.R_slice ho; subst ev62; have hcv : (convert 54 9 (.slice A62 zs.length c62)).run Try.prog w62 = .ok (.string zb) w62 := r28_; have HX7 := Aside0.mk (below_step HX.out hb); clear ho hb hg_ hnew_ HX))
  refine (table_Open.calls k _ none 2 _ HO2.out).mono ?_
  rintro e x8 ⟨rfl, hb⟩
  have HX8 := Aside0.mk (below_step HX7.out hb)
  clear hb HX7
  go_wp2
  go_ret
  exact ⟨rfl, HX8.out⟩
 have hx2 : a2 ≠ 0 := fun e_ => hx0 ⟨hx1, e_⟩
 have dx1 : (a1 == 0) = true := beq_iff_eq.mpr hx1
 have dx2 : (a2 == 0) = false := beq_eq_false_iff_ne.mpr hx2
 clear hx0 hx1 hx2
 by_cases he : e = 0
 case neg =>
  have h := HK.out
  rw [if_neg he] at h
  obtain rfl := Option.some.inj h
  clear h HK
  have d1 : (e == 0) = false := beq_eq_false_iff_ne.mpr he
  have d2 : (e != 0) = true := bne_iff_ne.mpr he
  go_enter Try.func9, Try.ntmps9
  go_wp2_with (fail)
  refine (screelaw11_awake.calls k true _ HA.out).mono ?_
  rintro e w1 ⟨rfl, hb⟩
  have HB1 := Aside0.mk hb
  clear hb
  go_wp2_with (fail)
  refine (screelaw11_large.calls k A0 c0 l0 false _ (Kd.C_below HR0.out HB1.out) HC0.out HG.out).mono ?_
  rintro e w2 ⟨rfl, hb⟩
  have HB2 := Aside0.mk (below_step HB1.out hb.below)
  clear HB1 hb
  go_wp2_with (fail)
  refine (table_Build.calls k A0 c0 l0 s e _ (Kd.C_below HR0.out HB2.out) HC0.out HBD.out).mono ?_
  rintro e_ x1 ⟨rfl, hb⟩
  have HX1 := Aside0.mk (below_step HB2.out hb)
  clear hb HBD
  go_wp2
  go_ret
  exact ⟨rfl, HX1.out⟩
 subst he
 have h := HK.out
 clear HK
 rw [if_pos rfl] at h
 unfold screelaw11_TableCut.K at h
 by_cases hc : 0 ≤ a1 ∧ a1 < 256 ∧ 0 ≤ a2 ∧ a2 < 256 ∧ s.size ≤ 1000000000
 case neg => rw [if_neg hc] at h; exact absurd h r19_
 rw [if_pos hc] at h
 obtain ⟨p1_, p2_, p3_, p4_, p5_⟩ := hc
 have hwa_ : wrap64 a2 = a2 := by unfold wrap64; omega
 by_cases hc : a2 < (s.size : Int) ∧ 0 < a2
 case neg =>
  rw [if_neg hc] at h
  obtain ⟨y1_, hy1_⟩ : ∃ b, decide (a2 < (s.size : Int)) = b := ⟨_, rfl⟩
  have hy2_ : y1_ = true → decide (a2 > 0) = false := fun e_ => decide_eq_false (fun h_ => hc ⟨of_decide_eq_true (hy1_.trans e_), h_⟩)
  cases y1_ with
  | false =>
   clear hy2_ hc
   go_enter Try.func9, Try.ntmps9
   go_wp2_with (fail)
   refine (screelaw11_awake.calls k true _ HA.out).mono ?_
   rintro e w1 ⟨rfl, hb⟩
   have HB1 := Aside0.mk hb
   clear hb
   go_wp2_with (fail)
   refine (screelaw11_large.calls k A0 c0 l0 false _ (Kd.C_below HR0.out HB1.out) HC0.out HG.out).mono ?_
   rintro e w2 ⟨rfl, hb⟩
   have HB2 := Aside0.mk (below_step HB1.out hb.below)
   clear HB1 hb
   go_wp2_with (fail)
   refine (table_Build.calls k A0 c0 l0 s 0 _ (Kd.C_below HR0.out HB2.out) HC0.out HBD.out).mono ?_
   rintro e_ x1 ⟨rfl, hb⟩
   have HX := Aside0.mk (below_step HB2.out hb)
   clear hb HBD HB2
   unfold screelaw11_TableCut.no at h
   replace h := Option.bind_eq_some_iff.mp h
   obtain ⟨⟨o_, e2⟩, ho2, h⟩ := h
   cases o_ with
   | some t => exact absurd h r19_
   | none =>
   simp only at h
   by_cases he2 : e2 = 2
   case neg => rw [if_neg he2] at h; exact absurd h r19_
   rw [if_pos he2] at h
   obtain rfl := Option.some.inj h
   subst he2
   unfold screelaw11_TableCut.zs at ho2
   obtain ⟨zs, hzs⟩ : ∃ zs : List Int, List.replicate (a1 + 1).toNat (0 : Int) = zs := ⟨_, rfl⟩
   rw [hzs] at ho2
   obtain ⟨zb, hzb⟩ : ∃ zb, strOfNums zs = zb := ⟨_, rfl⟩
   rw [hzb] at ho2
   have zz_ : zb.size ≤ 256 := by rw [← hzb, ← hzs]; simp [strOfNums, ByteArray.size]; omega
   have z0_ : (9223372036854775807 < zb.size + s.size) = False := eq_false r18_
   have HZS := Lib.hid hzs
   have HZB := Lib.hid hzb
   clear hzs hzb zz_
   have HO2 := Lib.hid ho2
   clear ho2 h
   have hw1_ : wrap64 a1 = a1 := by unfold wrap64; omega
   have hw2_ : wrap64 (a1 + 1) = a1 + 1 := by unfold wrap64; omega
   go_wp2_with (first | ((with_reducible refine gate_dst (N := 62) rfl ?_); refine Kd.R_make (Kd.int .u8) _ 5 rfl (N := 62) rfl 54 _ _ rfl (a1 + 1) rfl rfl Try.underlying54 (.int .u8 0) 1 screelaw11_TableCut.info rfl r20_ r18_ 0 (ok := fun _ => True) (okp := fun _ => True) rfl (fun _ hk => hk) trivial r18_ r18_ (Below.refl _ _) (Nat.le_refl _) ?_; intro v62 w62 ho hb hg_ hnew_; rw [HZS.out] at ho; obtain ⟨A62, c62, ev62⟩ := Kd.R_slice ho; subst ev62; have hcv : (convert 54 9 (.slice A62 zs.length c62)).run Try.prog w62 = .ok (.string zb) w62 := r28_; have HX7 := Aside0.mk (below_step HX.out hb); clear ho hb hg_ hnew_ HX))
   refine (table_Open.calls k _ none 2 _ HO2.out).mono ?_
   rintro e x8 ⟨rfl, hb⟩
   have HX8 := Aside0.mk (below_step HX7.out hb)
   clear hb HX7
   go_wp2
   go_ret
   exact ⟨rfl, HX8.out⟩
  | true =>
   have hy3_ := hy2_ rfl
   clear hy2_ hc
   go_enter Try.func9, Try.ntmps9
   go_wp2_with (fail)
   refine (screelaw11_awake.calls k true _ HA.out).mono ?_
   rintro e w1 ⟨rfl, hb⟩
   have HB1 := Aside0.mk hb
   clear hb
   go_wp2_with (fail)
   refine (screelaw11_large.calls k A0 c0 l0 false _ (Kd.C_below HR0.out HB1.out) HC0.out HG.out).mono ?_
   rintro e w2 ⟨rfl, hb⟩
   have HB2 := Aside0.mk (below_step HB1.out hb.below)
   clear HB1 hb
   go_wp2_with (fail)
   refine (table_Build.calls k A0 c0 l0 s 0 _ (Kd.C_below HR0.out HB2.out) HC0.out HBD.out).mono ?_
   rintro e_ x1 ⟨rfl, hb⟩
   have HX := Aside0.mk (below_step HB2.out hb)
   clear hb HBD HB2
   unfold screelaw11_TableCut.no at h
   replace h := Option.bind_eq_some_iff.mp h
   obtain ⟨⟨o_, e2⟩, ho2, h⟩ := h
   cases o_ with
   | some t => exact absurd h r19_
   | none =>
   simp only at h
   by_cases he2 : e2 = 2
   case neg => rw [if_neg he2] at h; exact absurd h r19_
   rw [if_pos he2] at h
   obtain rfl := Option.some.inj h
   subst he2
   unfold screelaw11_TableCut.zs at ho2
   obtain ⟨zs, hzs⟩ : ∃ zs : List Int, List.replicate (a1 + 1).toNat (0 : Int) = zs := ⟨_, rfl⟩
   rw [hzs] at ho2
   obtain ⟨zb, hzb⟩ : ∃ zb, strOfNums zs = zb := ⟨_, rfl⟩
   rw [hzb] at ho2
   have zz_ : zb.size ≤ 256 := by rw [← hzb, ← hzs]; simp [strOfNums, ByteArray.size]; omega
   have z0_ : (9223372036854775807 < zb.size + s.size) = False := eq_false r18_
   have HZS := Lib.hid hzs
   have HZB := Lib.hid hzb
   clear hzs hzb zz_
   have HO2 := Lib.hid ho2
   clear ho2 h
   have hw1_ : wrap64 a1 = a1 := by unfold wrap64; omega
   have hw2_ : wrap64 (a1 + 1) = a1 + 1 := by unfold wrap64; omega
   go_wp2_with (first | ((with_reducible refine gate_dst (N := 62) rfl ?_); refine Kd.R_make (Kd.int .u8) _ 5 rfl (N := 62) rfl 54 _ _ rfl (a1 + 1) rfl rfl Try.underlying54 (.int .u8 0) 1 screelaw11_TableCut.info rfl r20_ r18_ 0 (ok := fun _ => True) (okp := fun _ => True) rfl (fun _ hk => hk) trivial r18_ r18_ (Below.refl _ _) (Nat.le_refl _) ?_; intro v62 w62 ho hb hg_ hnew_; rw [HZS.out] at ho; obtain ⟨A62, c62, ev62⟩ := Kd.R_slice ho; subst ev62; have hcv : (convert 54 9 (.slice A62 zs.length c62)).run Try.prog w62 = .ok (.string zb) w62 := r28_; have HX7 := Aside0.mk (below_step HX.out hb); clear ho hb hg_ hnew_ HX))
   refine (table_Open.calls k _ none 2 _ HO2.out).mono ?_
   rintro e x8 ⟨rfl, hb⟩
   have HX8 := Aside0.mk (below_step HX7.out hb)
   clear hb HX7
   go_wp2
   go_ret
   exact ⟨rfl, HX8.out⟩
 rw [if_pos hc] at h
 have y1_ : decide (a2 < (s.size : Int)) = true := decide_eq_true hc.1
 have y2_ : decide (a2 > 0) = true := decide_eq_true hc.2
 have hws_ : wrap64 ((s.size : Int) - a2) = (s.size : Int) - a2 := by unfold wrap64; omega
 have sl1 : ∀ W, (Instr.slice 9 (.string s) none (some (.int .i64 ((s.size : Int) - a2))) none).run Try.prog W = .ok (.string (s.extract 0 ((s.size : Int) - a2).toNat)) W := fun W => run_slice_string_h W 9 s hu9_ .i64 _ r18_ r18_
 clear hc
 rw [screelaw11_TableCut.no] at h
 replace h := Option.bind_eq_some_iff.mp h
 obtain ⟨⟨o_, e2⟩, ho2, h⟩ := h
 cases o_ with
 | some t => exact absurd h r19_
 | none =>
 simp only at h
 by_cases he2 : e2 = 2
 case neg => rw [if_neg he2] at h; exact absurd h r19_
 rw [if_pos he2] at h
 subst he2
 obtain ⟨sc, hsc⟩ : ∃ t, s.extract 0 ((s.size : Int) - a2).toNat = t := ⟨_, rfl⟩
 rw [hsc] at sl1 ho2
 have HO1 := Lib.hid ho2
 clear ho2 hsc
 go_enter Try.func9, Try.ntmps9
 go_wp2_with (fail)
 refine (screelaw11_awake.calls k true _ HA.out).mono ?_
 rintro e w1 ⟨rfl, hb⟩
 have HB1 := Aside0.mk hb
 clear hb
 go_wp2_with (fail)
 refine (screelaw11_large.calls k A0 c0 l0 false _ (Kd.C_below HR0.out HB1.out) HC0.out HG.out).mono ?_
 rintro e w2 ⟨rfl, hb⟩
 have HB2 := Aside0.mk (below_step HB1.out hb.below)
 clear HB1 hb
 go_wp2_with (fail)
 refine (table_Build.calls k A0 c0 l0 s 0 _ (Kd.C_below HR0.out HB2.out) HC0.out HBD.out).mono ?_
 rintro e_ x1 ⟨rfl, hb⟩
 have HX := Aside0.mk (below_step HB2.out hb)
 clear hb HBD HB2
 go_wp2_with (fail)
 refine (table_Open.calls k sc none 2 _ HO1.out).mono ?_
 rintro e x2 ⟨rfl, hb⟩
 have HX2 := Aside0.mk (below_step HX.out hb)
 clear hb HX HO1
 rename Aside0 (Below w.heap.size w x2) => HX
 unfold screelaw11_TableCut.no at h
 replace h := Option.bind_eq_some_iff.mp h
 obtain ⟨⟨o_, e2⟩, ho2, h⟩ := h
 cases o_ with
 | some t => exact absurd h r19_
 | none =>
 simp only at h
 by_cases he2 : e2 = 2
 case neg => rw [if_neg he2] at h; exact absurd h r19_
 rw [if_pos he2] at h
 obtain rfl := Option.some.inj h
 subst he2
 unfold screelaw11_TableCut.zs at ho2
 obtain ⟨zs, hzs⟩ : ∃ zs : List Int, List.replicate (a1 + 1).toNat (0 : Int) = zs := ⟨_, rfl⟩
 rw [hzs] at ho2
 obtain ⟨zb, hzb⟩ : ∃ zb, strOfNums zs = zb := ⟨_, rfl⟩
 rw [hzb] at ho2
 have zz_ : zb.size ≤ 256 := by rw [← hzb, ← hzs]; simp [strOfNums, ByteArray.size]; omega
 have z0_ : (9223372036854775807 < zb.size + s.size) = False := eq_false r18_
 have HZS := Lib.hid hzs
 have HZB := Lib.hid hzb
 clear hzs hzb zz_
 have HO2 := Lib.hid ho2
 clear ho2 h
 have hw1_ : wrap64 a1 = a1 := by unfold wrap64; omega
 have hw2_ : wrap64 (a1 + 1) = a1 + 1 := by unfold wrap64; omega
 go_wp2_with (first | ((with_reducible refine gate_dst (N := 62) rfl ?_); refine Kd.R_make (Kd.int .u8) _ 5 rfl (N := 62) rfl 54 _ _ rfl (a1 + 1) rfl rfl Try.underlying54 (.int .u8 0) 1 screelaw11_TableCut.info rfl r20_ r18_ 0 (ok := fun _ => True) (okp := fun _ => True) rfl (fun _ hk => hk) trivial r18_ r18_ (Below.refl _ _) (Nat.le_refl _) ?_; intro v62 w62 ho hb hg_ hnew_; rw [HZS.out] at ho; obtain ⟨A62, c62, ev62⟩ := Kd.R_slice ho; subst ev62; have hcv : (convert 54 9 (.slice A62 zs.length c62)).run Try.prog w62 = .ok (.string zb) w62 := r28_; have HX7 := Aside0.mk (below_step HX.out hb); clear ho hb hg_ hnew_ HX))
 refine (table_Open.calls k _ none 2 _ HO2.out).mono ?_
 rintro e x8 ⟨rfl, hb⟩
 have HX8 := Aside0.mk (below_step HX7.out hb)
 clear hb HX7
 go_wp2
 go_ret
 exact ⟨rfl, HX8.out⟩

end Go.Proofs.Ytgdkikkjaofbfaa.P
