-- Printed by a program of this session's own (wip/tools/pprint.sh, over the kit's print, with given contracts): not typed by hand.
import Derived.Test.YtgdkikkjaofbfaaPx0
import Derived.Test.YtgdkikkjaofbfaaPx6
import Derived.Test.YtgdkikkjaofbfaaPx7
import Derived.Test.YtgdkikkjaofbfaaPx9
import Derived.Test.YtgdkikkjaofbfaaPx10
import Derived.Test.YtgdkikkjaofbfaaPx13
import Derived.Test.YtgdkikkjaofbfaaPx14
namespace Go.Proofs.Ytgdkikkjaofbfaa.P
open Go.RowKit Go.Proofs.YtgdkikkjaofbfaaW.PrintWords Go.Proofs.YtgdkikkjaofbfaaW.PrintLast Go.Proofs.YtgdkikkjaofbfaaW.PrintMore
attribute [local go_sem] max2_int min2_int max_two min_two max_three min_three max_four min_four   -- for this text's walks alone
set_option linter.unusedVariables false
set_option linter.unusedSimpArgs false
-- SQUEEZED3

/-! ### screelaw11_large: function 11 -/
mutual
def screelaw11_large.j0 : Nat → List (S37) → Bool → Option (Bool)
 | 0, _, _ => none
 | k + 1, x0, x11 => if x11 = true then (some true) else (screelaw11_large.l0 k x0 0)
def screelaw11_large.l0 : Nat → List (S37) → Int → Option (Bool)
 | 0, _, _ => none
 | k + 1, x0, x3 => if x3 < (x0.length : Int) then (screelaw11_large.j2 k x0 x3 (decide (x3 ≤ 500))) else (screelaw11_large.j2 k x0 x3 false)
def screelaw11_large.j2 : Nat → List (S37) → Int → Bool → Option (Bool)
 | 0, _, _, _ => none
 | k + 1, x0, x3, x19 => if x19 = true then (if 0 ≤ x3 then (if x3 < (x0.length : Int) then (if (((rd_T37 x0 x3).f0).size : Int) > 300 then (some true) else (if (((rd_T37 x0 x3).f3).size : Int) > 300 then (some true) else (screelaw11_large.l0 k x0 (wrap64 (x3 + 1))))) else (none)) else (none)) else (some false)
end
def screelaw11_large.f (k : Nat) (l0 : List (S37)) : Option (Bool) := if (l0.length : Int) > 80 then (screelaw11_large.j0 k l0 (decide ((l0.length : Int) ≤ 500))) else (screelaw11_large.j0 k l0 false)
theorem screelaw11_large.mono_l : ∀ k, (∀ y0 y1, LeO (screelaw11_large.j0 k y0 y1) (screelaw11_large.j0 (k + 1) y0 y1)) ∧ (∀ y0 y1, LeO (screelaw11_large.l0 k y0 y1) (screelaw11_large.l0 (k + 1) y0 y1)) ∧ (∀ y0 y1 y2, LeO (screelaw11_large.j2 k y0 y1 y2) (screelaw11_large.j2 (k + 1) y0 y1 y2))
 | 0 => ⟨fun _ _ r h => by simp [screelaw11_large.j0] at h, fun _ _ r h => by simp [screelaw11_large.l0] at h, fun _ _ _ r h => by simp [screelaw11_large.j2] at h⟩
 | k + 1 => by
  obtain ⟨ih0, ih1, ih2⟩ := screelaw11_large.mono_l k
  refine ⟨?_, ?_, ?_⟩
  ·intro y0 y1
   unfold screelaw11_large.j0
   repeat' first
   | (with_reducible exact ih0 _ _)
   | (with_reducible exact ih1 _ _)
   | (with_reducible exact ih2 _ _ _)
   | (with_reducible exact LeO.refl _)
   | (with_reducible exact LeO.none _)
   | (with_reducible refine LeO.ite ?_ ?_)
   | (with_reducible refine LeO.bind ?_ (fun _ => ?_))
   | exact ih0 _ _
   | exact ih1 _ _
   | exact ih2 _ _ _
   | exact LeO.none _
   | refine LeO.ite ?_ ?_
   | refine LeO.bind ?_ (fun _ => ?_)
  ·intro y0 y1
   unfold screelaw11_large.l0
   repeat' first
   | (with_reducible exact ih0 _ _)
   | (with_reducible exact ih1 _ _)
   | (with_reducible exact ih2 _ _ _)
   | (with_reducible exact LeO.refl _)
   | (with_reducible exact LeO.none _)
   | (with_reducible refine LeO.ite ?_ ?_)
   | (with_reducible refine LeO.bind ?_ (fun _ => ?_))
   | exact ih0 _ _
   | exact ih1 _ _
   | exact ih2 _ _ _
   | exact LeO.none _
   | refine LeO.ite ?_ ?_
   | refine LeO.bind ?_ (fun _ => ?_)
  ·intro y0 y1 y2
   unfold screelaw11_large.j2
   repeat' first
   | (with_reducible exact ih0 _ _)
   | (with_reducible exact ih1 _ _)
   | (with_reducible exact ih2 _ _ _)
   | (with_reducible exact LeO.refl _)
   | (with_reducible exact LeO.none _)
   | (with_reducible refine LeO.ite ?_ ?_)
   | (with_reducible refine LeO.bind ?_ (fun _ => ?_))
   | exact ih0 _ _
   | exact ih1 _ _
   | exact ih2 _ _ _
   | exact LeO.none _
   | refine LeO.ite ?_ ?_
   | refine LeO.bind ?_ (fun _ => ?_)
theorem screelaw11_large.mono : ∀ a0 k, LeO (screelaw11_large.f k a0) (screelaw11_large.f (k + 1) a0) := by
 intro a0 k
 obtain ⟨ih0, ih1, ih2⟩ := screelaw11_large.mono_l k
 unfold screelaw11_large.f
 repeat' first
   | (with_reducible exact ih0 _ _)
   | (with_reducible exact ih1 _ _)
   | (with_reducible exact ih2 _ _ _)
   | (with_reducible exact LeO.refl _)
   | (with_reducible exact LeO.none _)
   | (with_reducible refine LeO.ite ?_ ?_)
   | (with_reducible refine LeO.bind ?_ (fun _ => ?_))
   | exact ih0 _ _
   | exact ih1 _ _
   | exact ih2 _ _ _
   | exact LeO.none _
   | refine LeO.ite ?_ ?_
   | refine LeO.bind ?_ (fun _ => ?_)
set_option maxHeartbeats 8000000 in
set_option maxRecDepth 100000 in
theorem screelaw11_large.calls (k : Nat) (A0 : Option Addr) (c0 : Nat) (l0 : List (S37)) (r : Bool) (w : World) (hr0 : Kd.C k37 w A0 l0.length l0) (hc0 : l0.length ≤ c0) (h : screelaw11_large.f k l0 = some r) :
  Calls Try.prog 11 #[.slice A0 l0.length c0] w fun e w' => e = .returned (.bool r) ∧ Drawn0 w w' := by
 have HR0 := Aside0.mk hr0
 have HC0 := Aside0.mk hc0
 clear hr0 hc0
 have H : (if (l0.length : Int) > 80 then (screelaw11_large.j0 k l0 (decide ((l0.length : Int) ≤ 500))) else (screelaw11_large.j0 k l0 false)) = some r := h
 clear h
 have HC2 := Aside0.mk H
 clear H
 go_enter Try.func11, Try.ntmps11
 go_upto_region 1 with (fail)
 go_cut [11] (fun v11 wc => ∃ (kq : Nat) (x11_1 : Bool), v11 = .bool x11_1 ∧ Aside0 (screelaw11_large.j0 kq l0 x11_1 = some r) ∧ Aside0 (kq ≤ k) ∧ Drawn0 w wc)
 case first =>
  have H := HC2.out
  clear HC2
  by_cases c3 : (l0.length : Int) > 80
  ·rw [if_pos c3] at H
   have c3b0 : decide (80 < (l0.length : Int)) = true := decide_eq_true c3
   have c3b1 : decide (80 < l0.length) = true := decide_eq_true r18_
   clear c3
   (first | rw [c3b0] | (simp only [i64_w, i32_w]; rw [c3b0]) | skip)
   have H' := Aside0.mk H
   clear H
   go_wp2
   go_meet
   case rel => exact ⟨_, (decide ((l0.length : Int) ≤ 500)), rs_, hH_, ⟨by first | omega | exact Nat.le_refl _⟩, dR_⟩
  rw [if_neg c3] at H
  have c3b0 : decide (80 < (l0.length : Int)) = false := decide_eq_false c3
  have c3b1 : decide (80 < l0.length) = false := decide_eq_false r18_
  clear c3
  (first | rw [c3b0] | (simp only [i64_w, i32_w]; rw [c3b0]) | skip)
  have H' := Aside0.mk H
  clear H
  go_wp2
  go_meet
  case rel => exact ⟨_, (false), rs_, hH_, ⟨by first | omega | exact Nat.le_refl _⟩, dR_⟩
 case rest =>
  clear HC2
  obtain ⟨kq, x11_1, rfl, HA, HJ1, ⟨mc1, rfl⟩⟩ := hcut
  cases kq with
  | zero => exact absurd HA.out (by simp [screelaw11_large.j0])
  | succ kj1 =>
   have H := HA.out
   clear HA
   simp only [screelaw11_large.j0] at H
   by_cases c4 : x11_1 = true
   ·subst c4
    rw [if_pos rfl] at H
    obtain rfl := Option.some.inj H
    go_wp2
    go_ret
    exact ⟨rs_, dR_⟩
   replace c4 := Bool.eq_false_iff.mpr c4
   subst c4
   rw [if_neg ff_] at H
   have H' := Aside0.mk H
   clear H
   go_wp2
   go_loopg [3] kj1 (fun kq v3 w' => ∃ (x3_2 : Int), v3 = .int .i64 x3_2 ∧ Aside0 (screelaw11_large.l0 kq l0 x3_2 = some r) ∧ Aside0 (kq ≤ kj1) ∧ Drawn0 w w')
   case atStart => exact ⟨(0), rs_, H', ⟨Nat.le_refl _⟩, dR_⟩
   case round =>
    clear H'
    try clear c4
    obtain ⟨x3_2, rfl, HA, HK2, ⟨m2, rfl⟩⟩ := hrel
    cases gk with
    | zero => exact absurd HA.out (by simp [screelaw11_large.l0])
    | succ k2 =>
     have H := HA.out
     clear HA
     simp only [screelaw11_large.l0] at H
     have HC5 := Aside0.mk H
     clear H
     go_upto_region 4 with (fail)
     go_cut [19] (fun v19 wc => ∃ (kq : Nat) (x19_4 : Bool), v19 = .bool x19_4 ∧ Aside0 (screelaw11_large.j2 kq l0 x3_2 x19_4 = some r) ∧ Aside0 (kq ≤ k2) ∧ Drawn0 w wc)
     case first =>
      have H := HC5.out
      clear HC5
      by_cases c6 : x3_2 < (l0.length : Int)
      ·rw [if_pos c6] at H
       have c6b0 := decide_eq_true c6
       clear c6
       (first | rw [c6b0] | (simp only [i64_w, i32_w]; rw [c6b0]) | skip)
       have H' := Aside0.mk H
       clear H
       go_wp2
       go_meet
       case rel => exact ⟨_, (decide (x3_2 ≤ 500)), rs_, hH_, ⟨by have := HJ1.out; have := HK2.out; first | omega | exact Nat.le_refl _⟩, dR_⟩
      rw [if_neg c6] at H
      have c6b0 := decide_eq_false c6
      clear c6
      (first | rw [c6b0] | (simp only [i64_w, i32_w]; rw [c6b0]) | skip)
      have H' := Aside0.mk H
      clear H
      go_wp2
      go_meet
      case rel => exact ⟨_, (false), rs_, hH_, ⟨by have := HJ1.out; have := HK2.out; first | omega | exact Nat.le_refl _⟩, dR_⟩
     case rest =>
      clear HC5
      try clear c4
      obtain ⟨kq, x19_4, rfl, HA, HJ4, ⟨mc4, rfl⟩⟩ := hcut
      cases kq with
      | zero => exact absurd HA.out (by simp [screelaw11_large.j2])
      | succ kj4 =>
       have H := HA.out
       clear HA
       simp only [screelaw11_large.j2] at H
       by_cases c7 : x19_4 = true
       rotate_left
       ·replace c7 := Bool.eq_false_iff.mpr c7
        subst c7
        rw [if_neg ff_] at H
        obtain rfl := Option.some.inj H
        go_wp2
        go_ret
        exact ⟨rs_, dR_⟩
       subst c7
       rw [if_pos rfl] at H
       by_cases c8 : 0 ≤ x3_2
       rotate_left
       ·rw [if_neg c8] at H
        exact absurd H r19_
       rw [if_pos c8] at H
       have c8b0 := decide_eq_true c8
       clear c8
       by_cases c9 : x3_2 < (l0.length : Int)
       rotate_left
       ·rw [if_neg c9] at H
        exact absurd H r19_
       rw [if_pos c9] at H
       have c9b0 := decide_eq_true c9
       clear c9
       by_cases c10 : (((rd_T37 l0 x3_2).f0).size : Int) > 300
       ·rw [if_pos c10] at H
        have c10b0 : decide (300 < (((rd_T37 l0 x3_2).f0).size : Int)) = true := decide_eq_true c10
        have c10b1 : decide (300 < ((rd_T37 l0 x3_2).f0).size) = true := decide_eq_true r18_
        clear c10
        obtain rfl := Option.some.inj H
        have p204 : 0 ≤ (x3_2 : Int) := of_decide_eq_true as_
        have q204 : x3_2 < (l0.length : Int) := of_decide_eq_true as_
        obtain ⟨ad204, e204, hx204_0, hx204_1, hx204_2, hx204_3⟩ := at_T37 HR0.out x3_2 p204 q204
        cases e204
        replace p204 := eq_true p204
        replace q204 := eq_true q204
        go_wp2
        go_ret
        exact ⟨rs_, dR_⟩
       rw [if_neg c10] at H
       have c10b0 : decide (300 < (((rd_T37 l0 x3_2).f0).size : Int)) = false := decide_eq_false c10
       have c10b1 : decide (300 < ((rd_T37 l0 x3_2).f0).size) = false := decide_eq_false r18_
       clear c10
       by_cases c11 : (((rd_T37 l0 x3_2).f3).size : Int) > 300
       ·rw [if_pos c11] at H
        have c11b0 : decide (300 < (((rd_T37 l0 x3_2).f3).size : Int)) = true := decide_eq_true c11
        have c11b1 : decide (300 < ((rd_T37 l0 x3_2).f3).size) = true := decide_eq_true r18_
        clear c11
        obtain rfl := Option.some.inj H
        have p204 : 0 ≤ (x3_2 : Int) := of_decide_eq_true as_
        have q204 : x3_2 < (l0.length : Int) := of_decide_eq_true as_
        obtain ⟨ad204, e204, hx204_0, hx204_1, hx204_2, hx204_3⟩ := at_T37 HR0.out x3_2 p204 q204
        cases e204
        replace p204 := eq_true p204
        replace q204 := eq_true q204
        have p205 : 0 ≤ (x3_2 : Int) := of_decide_eq_true as_
        have q205 : x3_2 < (l0.length : Int) := of_decide_eq_true as_
        obtain ⟨ad205, e205, hx205_0, hx205_1, hx205_2, hx205_3⟩ := at_T37 HR0.out x3_2 p205 q205
        obtain rfl : ad204 = ad205 := (by injection e205)
        replace p205 := eq_true p205
        replace q205 := eq_true q205
        go_wp2
        go_ret
        exact ⟨rs_, dR_⟩
       rw [if_neg c11] at H
       have c11b0 : decide (300 < (((rd_T37 l0 x3_2).f3).size : Int)) = false := decide_eq_false c11
       have c11b1 : decide (300 < ((rd_T37 l0 x3_2).f3).size) = false := decide_eq_false r18_
       clear c11
       have H' := Aside0.mk H
       clear H
       have p204 : 0 ≤ (x3_2 : Int) := of_decide_eq_true as_
       have q204 : x3_2 < (l0.length : Int) := of_decide_eq_true as_
       obtain ⟨ad204, e204, hx204_0, hx204_1, hx204_2, hx204_3⟩ := at_T37 HR0.out x3_2 p204 q204
       cases e204
       replace p204 := eq_true p204
       replace q204 := eq_true q204
       have p205 : 0 ≤ (x3_2 : Int) := of_decide_eq_true as_
       have q205 : x3_2 < (l0.length : Int) := of_decide_eq_true as_
       obtain ⟨ad205, e205, hx205_0, hx205_1, hx205_2, hx205_3⟩ := at_T37 HR0.out x3_2 p205 q205
       obtain rfl : ad204 = ad205 := (by injection e205)
       replace p205 := eq_true p205
       replace q205 := eq_true q205
       go_wp2
       go_roundg kj4
       case measure => have := HJ1.out; have := HK2.out; have := HJ4.out; omega
       case rel => exact ⟨(wrap64 (x3_2 + 1)), rs_, hH_, ⟨by have := HJ1.out; have := HK2.out; have := HJ4.out; omega⟩, dR_⟩

/-! ### screelaw11_TableBack: function 5 -/
-- needs NS37DS
def screelaw11_TableBack.tl (k : Nat) (s : ByteArray) : Option Bool := (table_Open.f k s).bind fun o => match o with
 | (none, e) => if e = 2 then some true else none
 | (some t, e) => if e = 0 then (table_Table_All.f k t.1 t.2.1 t.2.2.1 t.2.2.2).bind fun a => (table_Build.f k a.1).bind fun b => if b.2 = 0 ∧ b.1.toList = s.toList then some true else none else none
def screelaw11_TableBack.hd (k : Nat) (l : List (S37)) (b : ByteArray) (T : Option Bool) : Option Bool := (table_Open.f k b).bind fun o => match o with
 | (some t, e) => if e = 0 then (table_Table_All.f k t.1 t.2.1 t.2.2.1 t.2.2.2).bind fun a => (screeref07_Same.f k a.1 l).bind fun m => if m = true then (table_Table_Len.f a.2.1 t.2.1 a.2.2.1 a.2.2.2).bind fun n => if n.1 = (l.length : Int) then T else none else none else none
 | _ => none
def screelaw11_TableBack.f (k : Nat) (l0 : List (S37)) (a1 : ByteArray) : Option Bool :=
 (screelaw11_awake.f k).bind fun t => if t = true then (screelaw11_large.f k l0).bind fun g => if g = true ∨ decide (16384 < (a1.size : Int)) = true then some true else
  (table_Build.f k l0).bind fun b => if b.2 = 0 then screelaw11_TableBack.hd k l0 b.1 (screelaw11_TableBack.tl k a1) else if b.1.toList = [] then screelaw11_TableBack.tl k a1 else none else none
theorem screelaw11_TableBack.bel2 {B : Nat} {w0 a b : World} (h : Below w0.heap.size w0 a) (h2 : Below w0.heap.size w0 b) (hs : a.heap.size ≤ b.heap.size) (hB : B ≤ w0.heap.size) : Below B a b :=
 ⟨h2.os.trans h.os.symm, h2.tape.trans h.tape.symm, h2.output.trans h.output.symm, hs, fun k hk => (h2.block k r18_).trans (h.block k r18_).symm⟩
set_option maxHeartbeats 6400000 in
set_option maxRecDepth 100000 in
theorem screelaw11_TableBack.calls (k : Nat) (A0 : Option Addr) (c0 : Nat) (l0 : List (S37)) (a1 : ByteArray) (r : Bool) (w : World) (hr0 : Kd.C k37 w A0 l0.length l0) (hc0 : l0.length ≤ c0) (h : screelaw11_TableBack.f k l0 a1 = some r) :
  Calls Try.prog 5 #[.slice A0 l0.length c0, .string a1] w fun e w' => e = .returned (.bool r) ∧ Below w.heap.size w w' := by
 have hu_ := Try.underlying37
 have HR0 := Aside0.mk hr0
 have HC0 := Aside0.mk hc0
 clear hr0 hc0
 unfold screelaw11_TableBack.f at h
 replace h := Option.bind_eq_some_iff.mp h
 obtain ⟨aw, ha, h⟩ := h
 by_cases he : aw = true
 case neg => rw [if_neg he] at h; exact absurd h r19_
 rw [if_pos he] at h
 subst he
 have HA := Lib.hid ha
 clear ha
 replace h := Option.bind_eq_some_iff.mp h
 obtain ⟨g, hg, h⟩ := h
 have HG := Lib.hid hg
 clear hg
 cases g with
 | true =>
  rw [if_pos (Or.inl rfl)] at h
  obtain rfl := Option.some.inj h
  clear h
  go_enter Try.func5, Try.ntmps5
  go_wp2_with (fail)
  refine (screelaw11_awake.calls k true _ HA.out).mono ?_
  rintro e w1 ⟨rfl, hb⟩
  have HB1 := Aside0.mk hb
  clear hb
  go_wp2_with (fail)
  refine (screelaw11_large.calls k A0 c0 l0 true _ (Kd.C_below HR0.out HB1.out) HC0.out HG.out).mono ?_
  rintro e w2 ⟨rfl, hb⟩
  have HB2 := Aside0.mk (below_step HB1.out hb.below)
  clear HB1 hb
  go_wp2
  go_ret
  exact ⟨rfl, HB2.out⟩
 | false =>
 obtain ⟨X, hX⟩ : ∃ X, decide (16384 < (a1.size : Int)) = X := ⟨_, rfl⟩
 rw [hX] at h
 cases X with
 | true =>
  rw [if_pos (Or.inr rfl)] at h
  obtain rfl := Option.some.inj h
  clear h
  have dx : decide ((a1.size : Int) > 16384) = true := hX
  go_enter Try.func5, Try.ntmps5
  go_wp2_with (fail)
  refine (screelaw11_awake.calls k true _ HA.out).mono ?_
  rintro e w1 ⟨rfl, hb⟩
  have HB1 := Aside0.mk hb
  clear hb
  go_wp2_with (fail)
  refine (screelaw11_large.calls k A0 c0 l0 false _ (Kd.C_below HR0.out HB1.out) HC0.out HG.out).mono ?_
  rintro e w2 ⟨rfl, hb⟩
  have HB2 := Aside0.mk (below_step HB1.out hb.below)
  clear HB1 hb
  go_wp2
  go_ret
  exact ⟨rfl, HB2.out⟩
 | false =>
 rw [if_neg r19_] at h
 have dx : decide ((a1.size : Int) > 16384) = false := hX
 replace h := Option.bind_eq_some_iff.mp h
 obtain ⟨⟨s, e⟩, hb, h⟩ := h
 simp only at h
 have HBD := Lib.hid hb
 clear hb
 by_cases he : e = 0
 case neg =>
  rw [if_neg he] at h
  by_cases hs_ : s.toList = []
  case neg => rw [if_neg hs_] at h; exact absurd h r19_
  rw [if_pos hs_] at h
  have HTL := Lib.hid h
  clear h
  have d1 : (e == 0) = false := beq_eq_false_iff_ne.mpr he
  have d2 : (e != 0) = true := bne_iff_ne.mpr he
  have d3 : (s.toList == ([] : List UInt8)) = true := beq_iff_eq.mpr hs_
  have d4 : (s.toList != ([] : List UInt8)) = false := by rw [bne, d3]; rfl
  clear hs_
  go_enter Try.func5, Try.ntmps5
  go_wp2_with (fail)
  refine (screelaw11_awake.calls k true _ HA.out).mono ?_
  rintro e w1 ⟨rfl, hb⟩
  have HB1 := Aside0.mk hb
  clear hb
  go_wp2_with (fail)
  refine (screelaw11_large.calls k A0 c0 l0 false _ (Kd.C_below HR0.out HB1.out) HC0.out HG.out).mono ?_
  rintro e w2 ⟨rfl, hb⟩
  have HB2 := Aside0.mk (below_step HB1.out hb.below)
  clear HB1 hb
  go_wp2_with (fail)
  refine (table_Build.calls k A0 c0 l0 s e _ (Kd.C_below HR0.out HB2.out) HC0.out HBD.out).mono ?_
  rintro e_ x1 ⟨rfl, hb⟩
  have HX := Aside0.mk (below_step HB2.out hb)
  clear hb HBD HB2
  have h := HTL.out
  clear HTL
  unfold screelaw11_TableBack.tl at h
  replace h := Option.bind_eq_some_iff.mp h
  obtain ⟨⟨o_, e2⟩, ho2, h⟩ := h
  cases o_ with
  | none =>
   simp only at h
   by_cases he2 : e2 = 2
   case neg => rw [if_neg he2] at h; exact absurd h r19_
   rw [if_pos he2] at h
   obtain rfl := Option.some.inj h
   subst he2
   have HO2 := Lib.hid ho2
   clear ho2 h
   go_wp2_with (fail)
   refine (table_Open.calls k a1 none 2 _ HO2.out).mono ?_
   rintro e x8 ⟨rfl, hb⟩
   have HX8 := Aside0.mk (below_step HX.out hb)
   clear hb HX
   go_wp2
   go_ret
   exact ⟨rfl, HX8.out⟩
  | some t2 =>
   obtain ⟨s8, hs8, fl8, n8⟩ := t2
   simp only at h
   by_cases he2 : e2 = 0
   case neg => rw [if_neg he2] at h; exact absurd h r19_
   rw [if_pos he2] at h
   subst he2
   replace h := Option.bind_eq_some_iff.mp h
   obtain ⟨⟨la, s9, fl9, n9⟩, q1, h⟩ := h
   simp only at q1 h
   replace h := Option.bind_eq_some_iff.mp h
   obtain ⟨⟨b9, e9⟩, q2, h⟩ := h
   by_cases hcc : (b9, e9).2 = 0 ∧ (b9, e9).1.toList = a1.toList
   case neg => rw [if_neg hcc] at h; exact absurd h r19_
   rw [if_pos hcc] at h
   obtain rfl := Option.some.inj h
   obtain ⟨hcc1, hcc2⟩ := hcc
   obtain rfl : e9 = 0 := hcc1
   have u9 : (b9.toList == a1.toList) = true := beq_iff_eq.mpr hcc2
   have HO2 := Lib.hid ho2
   have Q1 := Lib.hid q1
   have Q2 := Lib.hid q2
   clear ho2 h q1 q2 hcc2
   go_wp2_with (fail)
   refine (table_Open.calls k a1 (some (s8, hs8, fl8, n8)) 0 _ HO2.out).mono ?_
   rintro e x8 ⟨g8, w8, rfl, hi, hb0, hsz, hb⟩
   have HI8 := Aside0.mk hi
   have HT8 := Aside0.mk hb0
   have HX8 := Aside0.mk (below_step HX.out hb)
   have HZ8 : Hid (w.heap.size ≤ w8.heap.size) := Lib.hid (Nat.le_trans HX.out.size hsz)
   clear hi hb0 hsz hb HX HO2
   go_wp2_with (fail)
   refine (table_Table_All.calls k g8 s8 hs8 fl8 n8 la s9 fl9 n9 w8 _ HI8.out HT8.out Q1.out).mono ?_
   rintro e x9 ⟨v0_, rfl, hr, hi, hb, hk⟩
   obtain ⟨AA, cA, eA⟩ := Kd.R_slice hr
   subst eA
   have HRA := Aside0.mk (Kd.R_reads' hr)
   have HX9 := Aside0.mk (HX8.out.trans (screelaw11_TableBack.bel2 HT8.out hb hk.1 HZ8.out))
   clear hr hi hb hk HI8 HT8 HX8 Q1
   go_wp2_with (fail)
   refine (table_Build.calls k AA cA la b9 0 _ HRA.out.2.2 HRA.out.2.1 Q2.out).mono ?_
   rintro e xa ⟨rfl, hb⟩
   have HXa := Aside0.mk (below_step HX9.out hb)
   clear hb HX9 HRA Q2
   go_wp2
   go_ret
   exact ⟨rfl, HXa.out⟩
 rw [if_pos he] at h
 subst he
 unfold screelaw11_TableBack.hd at h
 replace h := Option.bind_eq_some_iff.mp h
 obtain ⟨⟨o, e⟩, ho, h⟩ := h
 cases o with
 | none => exact absurd h r19_
 | some t =>
 obtain ⟨s0, hs0, fl0, n0⟩ := t
 simp only at h
 by_cases he : e = 0
 case neg => rw [if_neg he] at h; exact absurd h r19_
 rw [if_pos he] at h
 subst he
 replace h := Option.bind_eq_some_iff.mp h
 obtain ⟨⟨lz, s1, fl1, n1⟩, hz, h⟩ := h
 simp only at hz h
 replace h := Option.bind_eq_some_iff.mp h
 obtain ⟨sm_, hq, h⟩ := h
 by_cases z1 : sm_ = true
 case neg => rw [if_neg z1] at h; exact absurd h r19_
 rw [if_pos z1] at h
 subst z1
 replace h := Option.bind_eq_some_iff.mp h
 obtain ⟨⟨nn, s2, fl2, n2⟩, hn, h⟩ := h
 simp only at hn h
 by_cases z1 : nn = (l0.length : Int)
 case neg => rw [if_neg z1] at h; exact absurd h r19_
 rw [if_pos z1] at h
 subst z1
 have HOP := Lib.hid ho
 have HZA := Lib.hid hz
 have HSM := Lib.hid hq
 have HLN := Lib.hid hn
 have HTL := Lib.hid h
 clear ho hz hq hn h
 go_enter Try.func5, Try.ntmps5
 go_wp2_with (fail)
 refine (screelaw11_awake.calls k true _ HA.out).mono ?_
 rintro e w1 ⟨rfl, hb⟩
 have HB1 := Aside0.mk hb
 clear hb
 go_wp2_with (fail)
 refine (screelaw11_large.calls k A0 c0 l0 false _ (Kd.C_below HR0.out HB1.out) HC0.out HG.out).mono ?_
 rintro e w2 ⟨rfl, hb⟩
 have HB2 := Aside0.mk (below_step HB1.out hb.below)
 clear HB1 hb
 go_wp2_with (fail)
 refine (table_Build.calls k A0 c0 l0 s 0 _ (Kd.C_below HR0.out HB2.out) HC0.out HBD.out).mono ?_
 rintro e x1 ⟨rfl, hb⟩
 have HX1 := Aside0.mk (below_step HB2.out hb)
 clear hb HBD HB2
 go_wp2_with (fail)
 refine (table_Open.calls k s (some (s0, hs0, fl0, n0)) 0 _ HOP.out).mono ?_
 rintro e x2 ⟨g, w0, rfl, hi, hb0, hsz, hb⟩
 have HI2 := Aside0.mk hi
 have HT2 := Aside0.mk hb0
 have HX2 := Aside0.mk (below_step HX1.out hb)
 have HZ : Hid (w.heap.size ≤ w0.heap.size) := Lib.hid (Nat.le_trans HX1.out.size hsz)
 clear hi hb0 hsz hb HX1 HOP
 go_wp2_with (fail)
 refine (table_Table_All.calls k g s0 hs0 fl0 n0 lz s1 fl1 n1 w0 _ HI2.out HT2.out HZA.out).mono ?_
 rintro e x3 ⟨v0_, rfl, hr, hi, hb, hk⟩
 obtain ⟨AA, cA, eA⟩ := Kd.R_slice hr
 subst eA
 have HRA := Aside0.mk (Kd.R_reads' hr)
 have HI3 := Aside0.mk hi
 have HT3 := Aside0.mk hb
 have HX3 := Aside0.mk (HX2.out.trans (screelaw11_TableBack.bel2 HT2.out hb hk.1 HZ.out))
 clear hr hi hb hk HI2 HT2 HX2 HZA
 go_wp2_with (fail)
 refine (screeref07_Same.calls k AA cA lz A0 c0 l0 true _ HRA.out.2.2 HRA.out.2.1 (Kd.C_below HR0.out HX3.out) HC0.out HSM.out).mono ?_
 rintro e x4 ⟨rfl, hd⟩
 have hb0 := hd.below
 have HI4 := Aside0.mk (IsS82.below HI3.out hb0)
 have HT4 := Aside0.mk (below_step HT3.out hb0)
 have HX4 := Aside0.mk (below_step HX3.out hb0)
 clear hb0 hd HI3 HT3 HX3 HSM HRA
 go_wp2_with (fail)
 refine (table_Table_Len.calls g s1 hs0 fl1 n1 (l0.length : Int) s2 fl2 n2 w0 _ HI4.out HT4.out HLN.out).mono ?_
 rintro e x5 ⟨rfl, hi, hb, hk⟩
 have HX := Aside0.mk (HX4.out.trans (screelaw11_TableBack.bel2 HT4.out hb hk.1 HZ.out))
 clear hi hb hk HI4 HT4 HX4 HLN
 have h := HTL.out
 clear HTL
 unfold screelaw11_TableBack.tl at h
 replace h := Option.bind_eq_some_iff.mp h
 obtain ⟨⟨o_, e2⟩, ho2, h⟩ := h
 cases o_ with
 | none =>
  simp only at h
  by_cases he2 : e2 = 2
  case neg => rw [if_neg he2] at h; exact absurd h r19_
  rw [if_pos he2] at h
  obtain rfl := Option.some.inj h
  subst he2
  have HO2 := Lib.hid ho2
  clear ho2 h
  go_wp2_with (fail)
  refine (table_Open.calls k a1 none 2 _ HO2.out).mono ?_
  rintro e x8 ⟨rfl, hb⟩
  have HX8 := Aside0.mk (below_step HX.out hb)
  clear hb HX
  go_wp2
  go_ret
  exact ⟨rfl, HX8.out⟩
 | some t2 =>
  obtain ⟨s8, hs8, fl8, n8⟩ := t2
  simp only at h
  by_cases he2 : e2 = 0
  case neg => rw [if_neg he2] at h; exact absurd h r19_
  rw [if_pos he2] at h
  subst he2
  replace h := Option.bind_eq_some_iff.mp h
  obtain ⟨⟨la, s9, fl9, n9⟩, q1, h⟩ := h
  simp only at q1 h
  replace h := Option.bind_eq_some_iff.mp h
  obtain ⟨⟨b9, e9⟩, q2, h⟩ := h
  by_cases hcc : (b9, e9).2 = 0 ∧ (b9, e9).1.toList = a1.toList
  case neg => rw [if_neg hcc] at h; exact absurd h r19_
  rw [if_pos hcc] at h
  obtain rfl := Option.some.inj h
  obtain ⟨hcc1, hcc2⟩ := hcc
  obtain rfl : e9 = 0 := hcc1
  have u9 : (b9.toList == a1.toList) = true := beq_iff_eq.mpr hcc2
  have HO2 := Lib.hid ho2
  have Q1 := Lib.hid q1
  have Q2 := Lib.hid q2
  clear ho2 h q1 q2 hcc2
  go_wp2_with (fail)
  refine (table_Open.calls k a1 (some (s8, hs8, fl8, n8)) 0 _ HO2.out).mono ?_
  rintro e x8 ⟨g8, w8, rfl, hi, hb0, hsz, hb⟩
  have HI8 := Aside0.mk hi
  have HT8 := Aside0.mk hb0
  have HX8 := Aside0.mk (below_step HX.out hb)
  have HZ8 : Hid (w.heap.size ≤ w8.heap.size) := Lib.hid (Nat.le_trans HX.out.size hsz)
  clear hi hb0 hsz hb HX HO2
  go_wp2_with (fail)
  refine (table_Table_All.calls k g8 s8 hs8 fl8 n8 la s9 fl9 n9 w8 _ HI8.out HT8.out Q1.out).mono ?_
  rintro e x9 ⟨v0_, rfl, hr, hi, hb, hk⟩
  obtain ⟨AA, cA, eA⟩ := Kd.R_slice hr
  subst eA
  have HRA := Aside0.mk (Kd.R_reads' hr)
  have HX9 := Aside0.mk (HX8.out.trans (screelaw11_TableBack.bel2 HT8.out hb hk.1 HZ8.out))
  clear hr hi hb hk HI8 HT8 HX8 Q1
  go_wp2_with (fail)
  refine (table_Build.calls k AA cA la b9 0 _ HRA.out.2.2 HRA.out.2.1 Q2.out).mono ?_
  rintro e xa ⟨rfl, hb⟩
  have HXa := Aside0.mk (below_step HX9.out hb)
  clear hb HX9 HRA Q2
  go_wp2
  go_ret
  exact ⟨rfl, HXa.out⟩

end Go.Proofs.Ytgdkikkjaofbfaa.P
