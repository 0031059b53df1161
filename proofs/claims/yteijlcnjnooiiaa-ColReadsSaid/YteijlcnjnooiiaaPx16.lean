-- Printed by a program of this session's own (wip/tools/pprint.sh, over the kit's print, with given contracts): not typed by hand.
import Derived.Test.YteijlcnjnooiiaaPx0
import Derived.Test.YteijlcnjnooiiaaPx4
import Derived.Test.YteijlcnjnooiiaaPx13
import Derived.Test.YteijlcnjnooiiaaPx15
namespace Go.Proofs.Yteijlcnjnooiiaa.P
open Go.RowKit Go.Proofs.YteijlcnjnooiiaaW.PrintWords Go.Proofs.YteijlcnjnooiiaaW.PrintLast Go.Proofs.YteijlcnjnooiiaaW.PrintMore
set_option linter.unusedVariables false
set_option linter.unusedSimpArgs false
-- SQUEEZED

attribute [local go_sem high] eqA56
/-! ### screeref15_Unlease: function 23 -/
def screeref15_Unlease.go (k : Nat) : Nat → List (S56) → ByteArray → Bool → Option (List (S56) × Bool)
 | 0, l, _, b => some (l, b)
 | n + 1, l, s, b => if s.size = 0 ∨ b = true then some (l, b) else (screeref12_In_Num.f k s b).bind fun x => (screeref12_In_Num.f k x.2.1 x.2.2).bind fun y => (screeref12_In_Num.f k y.2.1 y.2.2).bind fun z => screeref15_Unlease.go k n (l ++ [⟨x.1, y.1, z.1⟩]) z.2.1 z.2.2
def screeref15_Unlease.f (k : Nat) (a0 : ByteArray) : Option (List (S56) × Int) :=
 (screeref15_Unlease.go k 6 [] a0 false).bind fun o => (screeref15_Leases.f k o.1).bind fun c => if o.2 = true ∨ c.2 ≠ 0 ∨ c.1.toList ≠ a0.toList then some ([], 2) else some (o.1, 0)
theorem screeref15_Unlease.go_mono (k : Nat) : ∀ n l s b, LeO (screeref15_Unlease.go k n l s b) (screeref15_Unlease.go (k + 1) n l s b)
 | 0, _, _, _ => LeO.refl _
 | n + 1, l, s, b => LeO.ite (LeO.refl _) (LeO.bind (screeref12_In_Num.mono _ _ _) (fun _ => LeO.bind (screeref12_In_Num.mono _ _ _) (fun _ => LeO.bind (screeref12_In_Num.mono _ _ _) (fun _ => screeref15_Unlease.go_mono k n _ _ _))))
theorem screeref15_Unlease.mono : ∀ a0 k, LeO (screeref15_Unlease.f k a0) (screeref15_Unlease.f (k + 1) a0) := by
 intro a0 k
 unfold screeref15_Unlease.f
 exact LeO.bind (screeref15_Unlease.go_mono k _ _ _ _) (fun _ => LeO.bind (screeref15_Leases.mono _ _) (fun _ => LeO.refl _))
theorem screeref15_Unlease.info : (Try.prog.info? 56).map (fun i => (i.zero, i.size, i.bytes)) = some (some (.agg #[(.int .u64 0), (.int .u64 0), (.int .u64 0)]), 3, 24) := by kernel_rfl
set_option maxHeartbeats 6400000 in
set_option maxRecDepth 100000 in
theorem screeref15_Unlease.calls (k : Nat) (a0 : ByteArray) (r1 : List (S56)) (r2 : Int) (w : World) (h : screeref15_Unlease.f k a0 = some (r1, r2)) :
  Calls Try.prog 23 #[.string a0] w fun e w' => ∃ v0_ : Value, e = .returned (.tuple #[v0_, .int .i64 r2]) ∧ Kd.R k56 56 w' w.heap.size (fun _ => True) v0_ r1 ∧ Below w.heap.size w w' := by
 have huL := Try.underlying56
 unfold screeref15_Unlease.f at h
 replace h := Option.bind_eq_some_iff.mp h
 obtain ⟨⟨lf, bf⟩, hGo, h⟩ := h
 replace h := Option.bind_eq_some_iff.mp h
 obtain ⟨⟨is, e3⟩, hC, h⟩ := h
 have HGo := Lib.hid hGo
 have HC := Lib.hid hC
 have HH := Lib.hid h
 clear hGo hC h
 go_enter Try.func23, Try.ntmps23
 go_upto_region 2 with (fail)
 have HI1 : Aside0 (IsS63 w (w.alloc (.cells #[.string a0, .bool false] 63)) w.heap.size a0 false) := ⟨⟨blk_new _ _, Nat.le_refl _⟩⟩
 have HB1 : Aside0 (Below w.heap.size w (w.alloc (.cells #[.string a0, .bool false] 63))) := ⟨below_alloc (Below.refl _ _) _⟩
 have HZ1 : Hid ((w.alloc (.cells #[.string a0, .bool false] 63)).heap.size = w.heap.size + 1) := Lib.hid (by rw [World.size_alloc])
 generalize (w.alloc (.cells #[.string a0, .bool false] 63)) = W1 at HI1 HB1 HZ1 ⊢
 obtain ⟨g2, hg2⟩ : ∃ g, w.heap.size = g := ⟨_, rfl⟩
 have HG2 : Hid (w.heap.size ≤ g2) := Lib.hid (by omega)
 have HZ2 : Hid (g2 < W1.heap.size) := Lib.hid (by have := HZ1.out; omega)
 have HI2 : Aside0 (IsS63 w W1 g2 a0 false) := by rw [← hg2]; exact HI1
 rw [hg2]
 clear HI1 HZ1
 have HG2b := Lib.hid hg2
 clear hg2
 go_wp2_with (first | ((with_reducible refine gate_dst (N := 13) rfl ?_); refine Kd.R_lit k56 (w0 := w) w.heap.size 56 ?hg (N := 13) ?hd (xs := ([] : List (S56))) (inner := []) (ok := fun k_ => k_ ≠ g2) (okp := fun _ => False) ?hr ?hp (fun _ hk => hk.elim) ?hf ?hB ?hL (by simp) ?_; (case hd => rfl); (case hg => rfl); (case hr => first | (go_simp; done) | (go_simp; rfl)); (case hp => exact (Reps.none _ _)); (case hf => have := HZ2.out; omega); (case hB => exact HB1.out); (case hL => exact HB1.out.size); intro v5 w5 ho hb hg_ hnew_; have HO5 := Aside0.mk ho; have HB5 := Aside0.mk hb; have HI5 := Aside0.mk (IsS63.grown HI2.out hg_ (by simp)); clear ho hb hg_ hnew_ HI2 HB1))
 clear HZ2
 go_loopg [5, 6] 6 (fun kq v5 v6 w' => ∃ (i : Nat) (l : List (S56)) (s : ByteArray) (b : Bool), v6 = .int .i64 (i : Int) ∧ Aside0 (kq + i = 6) ∧ Aside0 (screeref15_Unlease.go k (6 - i) l s b = some (lf, bf)) ∧ Aside0 (IsS63 w w' g2 s b) ∧ Aside0 (Kd.R k56 56 w' w.heap.size (fun k_ => k_ ≠ g2) v5 l) ∧ Aside0 (Below w.heap.size w w') ∧ Aside0 (l.length = i))
 case atStart => exact ⟨0, [], a0, false, rfl, ⟨by omega⟩, ⟨HGo.out⟩, HI5, HO5, HB5, ⟨rfl⟩⟩
 case round =>
  clear HI5 HO5 HB5 HGo
  obtain ⟨i, l, s, b, rfl, HIK, HGo, HI, HO, HB, HL⟩ := hrel
  have hc0_ := cellS63_0 HI.out.1
  have hc1_ := cellS63_1 HI.out.1
  by_cases hlt : i < 6
  case neg =>
   have hi : i = 6 := by have := HIK.out; omega
   subst hi
   have hgf := HGo.out
   rw [show 6 - 6 = 0 from rfl] at hgf
   unfold screeref15_Unlease.go at hgf
   clear hlt hc0_ hc1_
   obtain ⟨rfl, rfl⟩ : l = lf ∧ b = bf := by
    have h2 := Option.some.inj hgf
    exact ⟨congrArg Prod.fst h2, congrArg Prod.snd h2⟩
   clear hgf HGo
   have hz1_ := (blk_cell HI.out.1 1).trans rfl
   obtain ⟨AO, cO, eO⟩ := Kd.R_slice HO.out
   subst eO
   have HOR := Aside0.mk (Kd.R_reads' HO.out)
   have hh : (if b = true ∨ e3 ≠ 0 ∨ is.toList ≠ a0.toList then some (([] : List (S56)), (2 : Int)) else some (l, 0)) = some (r1, r2) := HH.out
   clear HH
   clear hz1_
   by_cases hb1 : b = true
   ·subst hb1
    rw [if_pos (Or.inl rfl)] at hh
    obtain ⟨rfl, rfl⟩ : ([] : List (S56)) = r1 ∧ (2 : Int) = r2 := by
     have h2 := Option.some.inj hh
     exact ⟨congrArg Prod.fst h2, congrArg Prod.snd h2⟩
    clear hh
    go_wp2_with (go_at_call 16; (refine (screeref15_Leases.calls k AO cO l is e3 _ HOR.out.2.2 HOR.out.2.1 HC.out).mono ?_); rintro e w9 ⟨rfl, hb⟩; have HI9 := Aside0.mk (IsS63.below HI.out hb); have HO9 := Aside0.mk (Kd.R_below HO.out hb); have HB9 := Aside0.mk (below_step HB.out hb); have i1_ : w9.cell? ⟨g2, 1, none⟩ = some (.bool true) := (blk_cell HI9.out.1 1).trans rfl; clear hb HI HO HB)
    exact bodyPost_ret (v := .tuple #[.slice none 0 0, .int .i64 2]) (by simp [results, Try.results23, go_sem]) rfl ⟨_, rfl, Kd.R_nil _ _ _ _ _, HB9.out⟩
   replace hb1 := Bool.eq_false_iff.mpr hb1
   subst hb1
   by_cases he3 : e3 = 0
   case neg =>
    rw [if_pos (Or.inr (Or.inl he3))] at hh
    obtain ⟨rfl, rfl⟩ : ([] : List (S56)) = r1 ∧ (2 : Int) = r2 := by
     have h2 := Option.some.inj hh
     exact ⟨congrArg Prod.fst h2, congrArg Prod.snd h2⟩
    have e1_ : (e3 == 0) = false := beq_eq_false_iff_ne.mpr he3
    have e2_ : (e3 != 0) = true := bne_iff_ne.mpr he3
    clear hh
    go_wp2_with (go_at_call 16; (refine (screeref15_Leases.calls k AO cO l is e3 _ HOR.out.2.2 HOR.out.2.1 HC.out).mono ?_); rintro e w9 ⟨rfl, hb⟩; have HI9 := Aside0.mk (IsS63.below HI.out hb); have HO9 := Aside0.mk (Kd.R_below HO.out hb); have HB9 := Aside0.mk (below_step HB.out hb); have i1_ : w9.cell? ⟨g2, 1, none⟩ = some (.bool false) := (blk_cell HI9.out.1 1).trans rfl; clear hb HI HO HB)
    exact bodyPost_ret (v := .tuple #[.slice none 0 0, .int .i64 2]) (by simp [results, Try.results23, go_sem]) rfl ⟨_, rfl, Kd.R_nil _ _ _ _ _, HB9.out⟩
   subst he3
   by_cases hs : is.toList = a0.toList
   case neg =>
    rw [if_pos (Or.inr (Or.inr hs))] at hh
    obtain ⟨rfl, rfl⟩ : ([] : List (S56)) = r1 ∧ (2 : Int) = r2 := by
     have h2 := Option.some.inj hh
     exact ⟨congrArg Prod.fst h2, congrArg Prod.snd h2⟩
    have s1_ : (is.toList == a0.toList) = false := beq_eq_false_iff_ne.mpr hs
    have s2_ : (is.toList != a0.toList) = true := bne_iff_ne.mpr hs
    clear hh hs
    go_wp2_with (go_at_call 16; (refine (screeref15_Leases.calls k AO cO l is 0 _ HOR.out.2.2 HOR.out.2.1 HC.out).mono ?_); rintro e w9 ⟨rfl, hb⟩; have HI9 := Aside0.mk (IsS63.below HI.out hb); have HO9 := Aside0.mk (Kd.R_below HO.out hb); have HB9 := Aside0.mk (below_step HB.out hb); have i1_ : w9.cell? ⟨g2, 1, none⟩ = some (.bool false) := (blk_cell HI9.out.1 1).trans rfl; clear hb HI HO HB)
    exact bodyPost_ret (v := .tuple #[.slice none 0 0, .int .i64 2]) (by simp [results, Try.results23, go_sem]) rfl ⟨_, rfl, Kd.R_nil _ _ _ _ _, HB9.out⟩
   rw [if_neg (by simpa using hs)] at hh
   obtain ⟨rfl, rfl⟩ : l = r1 ∧ (0 : Int) = r2 := by
    have h2 := Option.some.inj hh
    exact ⟨congrArg Prod.fst h2, congrArg Prod.snd h2⟩
   have s1_ : (is.toList == a0.toList) = true := beq_iff_eq.mpr hs
   have s2_ : (is.toList != a0.toList) = false := bne_eq_false_iff_eq.mpr hs
   clear hh hs
   go_wp2_with (go_at_call 16; (refine (screeref15_Leases.calls k AO cO l is 0 _ HOR.out.2.2 HOR.out.2.1 HC.out).mono ?_); rintro e w9 ⟨rfl, hb⟩; have HI9 := Aside0.mk (IsS63.below HI.out hb); have HO9 := Aside0.mk (Kd.R_below HO.out hb); have HB9 := Aside0.mk (below_step HB.out hb); have i1_ : w9.cell? ⟨g2, 1, none⟩ = some (.bool false) := (blk_cell HI9.out.1 1).trans rfl; clear hb HI HO HB)
   exact bodyPost_ret (v := .tuple #[.slice AO l.length cO, .int .i64 0]) (by simp [results, Try.results23, go_sem]) rfl ⟨_, rfl, Kd.R_mono HO9.out (fun _ _ => trivial), HB9.out⟩
  have hkg : ∃ k1, gk = k1 + 1 := ⟨gk - 1, by have := HIK.out; omega⟩
  obtain ⟨k1, rfl⟩ := hkg
  have dl : decide ((i : Int) < 6) = true := decide_eq_true (by omega)
  have hg := HGo.out
  rw [show 6 - i = (5 - i) + 1 by omega] at hg
  unfold screeref15_Unlease.go at hg
  by_cases hs0 : s.size = 0
  case pos =>
   rw [if_pos (Or.inl hs0)] at hg
   have hgf := hg
   clear hg
   have d0 : decide (0 < (s.size : Int)) = false := decide_eq_false (by omega)
   have d0b : ((s.size : Int) == 0) = true := by rw [hs0]; rfl
   obtain ⟨rfl, rfl⟩ : l = lf ∧ b = bf := by
    have h2 := Option.some.inj hgf
    exact ⟨congrArg Prod.fst h2, congrArg Prod.snd h2⟩
   clear hgf HGo
   have hz1_ := (blk_cell HI.out.1 1).trans rfl
   obtain ⟨AO, cO, eO⟩ := Kd.R_slice HO.out
   subst eO
   have HOR := Aside0.mk (Kd.R_reads' HO.out)
   have hh : (if b = true ∨ e3 ≠ 0 ∨ is.toList ≠ a0.toList then some (([] : List (S56)), (2 : Int)) else some (l, 0)) = some (r1, r2) := HH.out
   clear HH
   clear hz1_
   by_cases hb1 : b = true
   ·subst hb1
    rw [if_pos (Or.inl rfl)] at hh
    obtain ⟨rfl, rfl⟩ : ([] : List (S56)) = r1 ∧ (2 : Int) = r2 := by
     have h2 := Option.some.inj hh
     exact ⟨congrArg Prod.fst h2, congrArg Prod.snd h2⟩
    clear hh
    go_wp2_with (go_at_call 16; (refine (screeref15_Leases.calls k AO cO l is e3 _ HOR.out.2.2 HOR.out.2.1 HC.out).mono ?_); rintro e w9 ⟨rfl, hb⟩; have HI9 := Aside0.mk (IsS63.below HI.out hb); have HO9 := Aside0.mk (Kd.R_below HO.out hb); have HB9 := Aside0.mk (below_step HB.out hb); have i1_ : w9.cell? ⟨g2, 1, none⟩ = some (.bool true) := (blk_cell HI9.out.1 1).trans rfl; clear hb HI HO HB)
    exact bodyPost_ret (v := .tuple #[.slice none 0 0, .int .i64 2]) (by simp [results, Try.results23, go_sem]) rfl ⟨_, rfl, Kd.R_nil _ _ _ _ _, HB9.out⟩
   replace hb1 := Bool.eq_false_iff.mpr hb1
   subst hb1
   by_cases he3 : e3 = 0
   case neg =>
    rw [if_pos (Or.inr (Or.inl he3))] at hh
    obtain ⟨rfl, rfl⟩ : ([] : List (S56)) = r1 ∧ (2 : Int) = r2 := by
     have h2 := Option.some.inj hh
     exact ⟨congrArg Prod.fst h2, congrArg Prod.snd h2⟩
    have e1_ : (e3 == 0) = false := beq_eq_false_iff_ne.mpr he3
    have e2_ : (e3 != 0) = true := bne_iff_ne.mpr he3
    clear hh
    go_wp2_with (go_at_call 16; (refine (screeref15_Leases.calls k AO cO l is e3 _ HOR.out.2.2 HOR.out.2.1 HC.out).mono ?_); rintro e w9 ⟨rfl, hb⟩; have HI9 := Aside0.mk (IsS63.below HI.out hb); have HO9 := Aside0.mk (Kd.R_below HO.out hb); have HB9 := Aside0.mk (below_step HB.out hb); have i1_ : w9.cell? ⟨g2, 1, none⟩ = some (.bool false) := (blk_cell HI9.out.1 1).trans rfl; clear hb HI HO HB)
    exact bodyPost_ret (v := .tuple #[.slice none 0 0, .int .i64 2]) (by simp [results, Try.results23, go_sem]) rfl ⟨_, rfl, Kd.R_nil _ _ _ _ _, HB9.out⟩
   subst he3
   by_cases hs : is.toList = a0.toList
   case neg =>
    rw [if_pos (Or.inr (Or.inr hs))] at hh
    obtain ⟨rfl, rfl⟩ : ([] : List (S56)) = r1 ∧ (2 : Int) = r2 := by
     have h2 := Option.some.inj hh
     exact ⟨congrArg Prod.fst h2, congrArg Prod.snd h2⟩
    have s1_ : (is.toList == a0.toList) = false := beq_eq_false_iff_ne.mpr hs
    have s2_ : (is.toList != a0.toList) = true := bne_iff_ne.mpr hs
    clear hh hs
    go_wp2_with (go_at_call 16; (refine (screeref15_Leases.calls k AO cO l is 0 _ HOR.out.2.2 HOR.out.2.1 HC.out).mono ?_); rintro e w9 ⟨rfl, hb⟩; have HI9 := Aside0.mk (IsS63.below HI.out hb); have HO9 := Aside0.mk (Kd.R_below HO.out hb); have HB9 := Aside0.mk (below_step HB.out hb); have i1_ : w9.cell? ⟨g2, 1, none⟩ = some (.bool false) := (blk_cell HI9.out.1 1).trans rfl; clear hb HI HO HB)
    exact bodyPost_ret (v := .tuple #[.slice none 0 0, .int .i64 2]) (by simp [results, Try.results23, go_sem]) rfl ⟨_, rfl, Kd.R_nil _ _ _ _ _, HB9.out⟩
   rw [if_neg (by simpa using hs)] at hh
   obtain ⟨rfl, rfl⟩ : l = r1 ∧ (0 : Int) = r2 := by
    have h2 := Option.some.inj hh
    exact ⟨congrArg Prod.fst h2, congrArg Prod.snd h2⟩
   have s1_ : (is.toList == a0.toList) = true := beq_iff_eq.mpr hs
   have s2_ : (is.toList != a0.toList) = false := bne_eq_false_iff_eq.mpr hs
   clear hh hs
   go_wp2_with (go_at_call 16; (refine (screeref15_Leases.calls k AO cO l is 0 _ HOR.out.2.2 HOR.out.2.1 HC.out).mono ?_); rintro e w9 ⟨rfl, hb⟩; have HI9 := Aside0.mk (IsS63.below HI.out hb); have HO9 := Aside0.mk (Kd.R_below HO.out hb); have HB9 := Aside0.mk (below_step HB.out hb); have i1_ : w9.cell? ⟨g2, 1, none⟩ = some (.bool false) := (blk_cell HI9.out.1 1).trans rfl; clear hb HI HO HB)
   exact bodyPost_ret (v := .tuple #[.slice AO l.length cO, .int .i64 0]) (by simp [results, Try.results23, go_sem]) rfl ⟨_, rfl, Kd.R_mono HO9.out (fun _ _ => trivial), HB9.out⟩
  have d0 : decide (0 < (s.size : Int)) = true := decide_eq_true (by omega)
  have hp0 : 0 < s.size := by omega
  by_cases hb0 : b = true
  case pos =>
   rw [if_pos (Or.inr hb0)] at hg
   have hgf := hg
   clear hg
   subst hb0
   obtain ⟨rfl, rfl⟩ : l = lf ∧ true = bf := by
    have h2 := Option.some.inj hgf
    exact ⟨congrArg Prod.fst h2, congrArg Prod.snd h2⟩
   clear hgf HGo
   obtain ⟨AO, cO, eO⟩ := Kd.R_slice HO.out
   subst eO
   have HOR := Aside0.mk (Kd.R_reads' HO.out)
   have hh : (if true = true ∨ e3 ≠ 0 ∨ is.toList ≠ a0.toList then some (([] : List (S56)), (2 : Int)) else some (l, 0)) = some (r1, r2) := HH.out
   clear HH
   rw [if_pos (Or.inl rfl)] at hh
   obtain ⟨rfl, rfl⟩ : ([] : List (S56)) = r1 ∧ (2 : Int) = r2 := by
    have h2 := Option.some.inj hh
    exact ⟨congrArg Prod.fst h2, congrArg Prod.snd h2⟩
   clear hh
   go_wp2_with (go_at_call 16; (refine (screeref15_Leases.calls k AO cO l is e3 _ HOR.out.2.2 HOR.out.2.1 HC.out).mono ?_); rintro e w9 ⟨rfl, hb⟩; have HI9 := Aside0.mk (IsS63.below HI.out hb); have HO9 := Aside0.mk (Kd.R_below HO.out hb); have HB9 := Aside0.mk (below_step HB.out hb); have i1_ : w9.cell? ⟨g2, 1, none⟩ = some (.bool true) := (blk_cell HI9.out.1 1).trans rfl; clear hb HI HO HB)
   exact bodyPost_ret (v := .tuple #[.slice none 0 0, .int .i64 2]) (by simp [results, Try.results23, go_sem]) rfl ⟨_, rfl, Kd.R_nil _ _ _ _ _, HB9.out⟩
  rw [if_neg (by intro h_; rcases h_ with h_ | h_; exact hs0 h_; exact hb0 h_)] at hg
  replace hb0 := Bool.eq_false_iff.mpr hb0
  subst hb0
  replace hg := Option.bind_eq_some_iff.mp hg
  obtain ⟨⟨n1, s1, q1⟩, hA, hg⟩ := hg
  replace hg := Option.bind_eq_some_iff.mp hg
  obtain ⟨⟨n2, s2, q2⟩, hB_, hg⟩ := hg
  replace hg := Option.bind_eq_some_iff.mp hg
  obtain ⟨⟨n3, s3, q3⟩, hC_, hg⟩ := hg
  have HA := Lib.hid hA
  have HA2 := Lib.hid hB_
  have HA3 := Lib.hid hC_
  have HGN := Lib.hid hg
  clear hA hB_ hC_ hg hs0 HGo
  have HLT := Lib.hid hlt
  clear hlt
  go_wp2_with (fail)
  clear hc0_ hc1_ d0
  have HI0 := HI
  clear HI
  have BX := Aside0.mk (blk_new wr (.cells #[.int .u64 0, .int .u64 0, .int .u64 0] 56))
  have HI := Aside0.mk (IsS63.alloc HI0.out (.cells #[.int .u64 0, .int .u64 0, .int .u64 0] 56))
  have HGI := Lib.hid (blk_lt HI0.out.1)
  obtain ⟨g3, hg3⟩ : ∃ g, wr.heap.size = g := ⟨_, rfl⟩
  have HG3 : Hid (w.heap.size ≤ g3 ∧ g2 ≠ g3) := Lib.hid ⟨by have := HB.out.size; omega, by have := HGI.out; omega⟩
  have HO1 := Aside0.mk (Kd.R_alloc (Kd.R_mono (ok' := fun k_ => k_ ≠ g2 ∧ k_ ≠ g3) (Kd.R_bound HO.out) (fun k_ hk_ => ⟨hk_.1, by have := hk_.2.2.1; omega⟩)) (.cells #[.int .u64 0, .int .u64 0, .int .u64 0] 56))
  have HB1 := Aside0.mk (below_alloc HB.out (.cells #[.int .u64 0, .int .u64 0, .int .u64 0] 56))
  clear HI0 HO HB HGI
  rw [hg3] at BX ⊢
  generalize hW2 : (wr.alloc (.cells #[.int .u64 0, .int .u64 0, .int .u64 0] 56)) = W2 at HI HO1 HB1 BX ⊢
  clear hW2 hg3
  refine (screeref12_In_Num.calls k g2 s false n1 s1 q1 w W2 HI.out HB1.out HA.out).mono ?_
  rintro e wx0 ⟨rfl, hi, hb, hk⟩
  have HIx := Aside0.mk hi
  have HBx := Aside0.mk hb
  have BXx := Aside0.mk (hk.blk BX.out (Ne.symm HG3.out.2) (by simp))
  have HOx := Aside0.mk (Kd.R_step HO1.out (fun k_ ho_ hl_ => hk.2 k_ hl_ ho_.1 (by simp)))
  clear hi hb hk HI HB1 BX HO1 HA
  have c_ : wx0.cell? ⟨g3, 0, none⟩ = some (.int .u64 0) := (blk_cell BXx.out 0).trans rfl
  have f_ := blk_frozen BXx.out 0
  go_upto_region 8 with (fail)
  clear c_ f_
  have HIy0 := Aside0.mk (IsS63.far (p := ⟨g3, 0, none⟩) HIx.out HG3.out.2 (.int .u64 n1))
  have BXy0 := Aside0.mk (blk_put (cs' := #[.int .u64 n1, .int .u64 0, .int .u64 0]) BXx.out 0 (.int .u64 n1) rfl)
  have HOy0 := Aside0.mk (Kd.R_step HOx.out (w1 := wx0.setCell ⟨g3, 0, none⟩ (.int .u64 n1)) (fun k_ ho_ _ => Below.heap_setCell wx0 ⟨g3, 0, none⟩ (.int .u64 n1) k_ ho_.2))
  have HBy0 := Aside0.mk (HBx.out.setCell (p := ⟨g3, 0, none⟩) HG3.out.1 (.int .u64 n1))
  clear HIx BXx HOx HBx
  generalize (wx0.setCell ⟨g3, 0, none⟩ (.int .u64 n1)) = wy0 at HIy0 BXy0 HOy0 HBy0 ⊢
  go_wp2_with (fail)
  refine (screeref12_In_Num.calls k g2 s1 q1 n2 s2 q2 w wy0 HIy0.out HBy0.out HA2.out).mono ?_
  rintro e wx1 ⟨rfl, hi, hb, hk⟩
  have HIx := Aside0.mk hi
  have HBx := Aside0.mk hb
  have BXx := Aside0.mk (hk.blk BXy0.out (Ne.symm HG3.out.2) (by simp))
  have HOx := Aside0.mk (Kd.R_step HOy0.out (fun k_ ho_ hl_ => hk.2 k_ hl_ ho_.1 (by simp)))
  clear hi hb hk HIy0 HBy0 BXy0 HOy0 HA2
  have c_ : wx1.cell? ⟨g3, 1, none⟩ = some (.int .u64 0) := (blk_cell BXx.out 1).trans rfl
  have f_ := blk_frozen BXx.out 1
  go_upto_region 9 with (fail)
  clear c_ f_
  have HIy1 := Aside0.mk (IsS63.far (p := ⟨g3, 1, none⟩) HIx.out HG3.out.2 (.int .u64 n2))
  have BXy1 := Aside0.mk (blk_put (cs' := #[.int .u64 n1, .int .u64 n2, .int .u64 0]) BXx.out 1 (.int .u64 n2) rfl)
  have HOy1 := Aside0.mk (Kd.R_step HOx.out (w1 := wx1.setCell ⟨g3, 1, none⟩ (.int .u64 n2)) (fun k_ ho_ _ => Below.heap_setCell wx1 ⟨g3, 1, none⟩ (.int .u64 n2) k_ ho_.2))
  have HBy1 := Aside0.mk (HBx.out.setCell (p := ⟨g3, 1, none⟩) HG3.out.1 (.int .u64 n2))
  clear HIx BXx HOx HBx
  generalize (wx1.setCell ⟨g3, 1, none⟩ (.int .u64 n2)) = wy1 at HIy1 BXy1 HOy1 HBy1 ⊢
  go_wp2_with (fail)
  refine (screeref12_In_Num.calls k g2 s2 q2 n3 s3 q3 w wy1 HIy1.out HBy1.out HA3.out).mono ?_
  rintro e wx2 ⟨rfl, hi, hb, hk⟩
  have HIx := Aside0.mk hi
  have HBx := Aside0.mk hb
  have BXx := Aside0.mk (hk.blk BXy1.out (Ne.symm HG3.out.2) (by simp))
  have HOx := Aside0.mk (Kd.R_step HOy1.out (fun k_ ho_ hl_ => hk.2 k_ hl_ ho_.1 (by simp)))
  clear hi hb hk HIy1 HBy1 BXy1 HOy1 HA3
  have c_ : wx2.cell? ⟨g3, 2, none⟩ = some (.int .u64 0) := (blk_cell BXx.out 2).trans rfl
  have f_ := blk_frozen BXx.out 2
  go_upto_region 10 with (fail)
  clear c_ f_
  have HIy2 := Aside0.mk (IsS63.far (p := ⟨g3, 2, none⟩) HIx.out HG3.out.2 (.int .u64 n3))
  have BXy2 := Aside0.mk (blk_put (cs' := #[.int .u64 n1, .int .u64 n2, .int .u64 n3]) BXx.out 2 (.int .u64 n3) rfl)
  have HOy2 := Aside0.mk (Kd.R_step HOx.out (w1 := wx2.setCell ⟨g3, 2, none⟩ (.int .u64 n3)) (fun k_ ho_ _ => Below.heap_setCell wx2 ⟨g3, 2, none⟩ (.int .u64 n3) k_ ho_.2))
  have HBy2 := Aside0.mk (HBx.out.setCell (p := ⟨g3, 2, none⟩) HG3.out.1 (.int .u64 n3))
  clear HIx BXx HOx HBx
  generalize (wx2.setCell ⟨g3, 2, none⟩ (.int .u64 n3)) = wy2 at HIy2 BXy2 HOy2 HBy2 ⊢
  have c0_ : wy2.cell? ⟨g3, 0, none⟩ = some (.int .u64 n1) := (blk_cell BXy2.out 0).trans rfl
  have c1_ : wy2.cell? ⟨g3, 1, none⟩ = some (.int .u64 n2) := (blk_cell BXy2.out 1).trans rfl
  have c2_ : wy2.cell? ⟨g3, 2, none⟩ = some (.int .u64 n3) := (blk_cell BXy2.out 2).trans rfl
  have HGI := Lib.hid (blk_lt HIy2.out.1)
  have HO := Aside0.mk (Kd.R_mono (ok' := fun k_ => k_ ≠ g2) HOy2.out (fun _ h_ => h_.1))
  clear HOy2
  have hmx := HLT.out
  go_wp2_with (first | ((with_reducible refine gate_builtin (b := .append) (xs := #[.tmp 43, .tmp 45]) rfl ?_); at_builtin; refine Kd.R_append k56 (w0 := w) w.heap.size rfl (.tmp 43) (.tmp 45) 35 56 (.agg #[(.int .u64 0), (.int .u64 0), (.int .u64 0)]) 24 rfl Try.underlying35 screeref15_Unlease.info rfl (by decide) (by omega) u5 l (⟨n1, n2, n3⟩ : S56) [.int .u64 n1, .int .u64 n2, .int .u64 n3] (fun k_ => k_ ≠ g2) (fun _ => False) rfl (by first | (go_simp; done) | (go_simp; rfl)) ?aP (fun _ hk => hk.elim) ?aF ?aO ?aB ?aS ?aL ?_; (case aP => exact k56_mkM _ _ _ (⟨n1, n2, n3⟩ : S56)); (case aB => exact HBy2.out); (case aF => exact (fun k_ hk_ e_ => by have := HGI.out; omega)); (case aO => exact HO.out); (case aS => exact HBy2.out.size); (case aL => have := HL.out; have := HLT.out; omega); intro v1 z1 ho hb hg hat; have HOg := Aside0.mk ho; have HIg := Aside0.mk (IsS63.grown HIy2.out hg (fun e_ => HO.out.1 g2 e_.symm rfl)); have HBg := Aside0.mk hb; clear ho hb hg hat HO HBy2 HIy2 c0_ c1_ c2_))
  go_roundg k1
  case measure => omega
  case rel => exact ⟨i + 1, l ++ [(⟨n1, n2, n3⟩ : S56)], s3, q3, by go_num, ⟨by have := HIK.out; omega⟩, ⟨by rw [show 6 - (i + 1) = 5 - i by omega]; exact HGN.out⟩, HIg, HOg, HBg, ⟨by have := HL.out; simp; omega⟩⟩

/-! ### screeref15_Same: function 24 -/
def screeref15_Same.l0 : Nat → List (S56) → List (S56) → Int → Option (Bool)
 | 0, _, _, _ => none
 | k + 1, x0, x1, x5 => if x5 < (x0.length : Int) then (if 0 ≤ x5 then (if x5 < (x1.length : Int) then (if (!(((rd_T56 x0 x5).f0) == ((rd_T56 x1 x5).f0)) || (!(((rd_T56 x0 x5).f1) == ((rd_T56 x1 x5).f1)) || (!(((rd_T56 x0 x5).f2) == ((rd_T56 x1 x5).f2))))) = true then (some false) else (screeref15_Same.l0 k x0 x1 (wrap64 (x5 + 1)))) else (none)) else (none)) else (some true)
def screeref15_Same.f (k : Nat) (l0 : List (S56)) (l1 : List (S56)) : Option (Bool) := if (l0.length : Int) = (l1.length : Int) then (screeref15_Same.l0 k l0 l1 0) else (some false)
theorem screeref15_Same.mono_l : ∀ k, (∀ y0 y1 y2, LeO (screeref15_Same.l0 k y0 y1 y2) (screeref15_Same.l0 (k + 1) y0 y1 y2))
 | 0 => fun _ _ _ r h => by simp [screeref15_Same.l0] at h
 | k + 1 => by
  have ih0 := screeref15_Same.mono_l k
  ·intro y0 y1 y2
   unfold screeref15_Same.l0
   repeat' first
   | (with_reducible exact ih0 _ _ _)
   | (with_reducible exact LeO.refl _)
   | (with_reducible exact LeO.none _)
   | (with_reducible refine LeO.ite ?_ ?_)
   | (with_reducible refine LeO.bind ?_ (fun _ => ?_))
   | exact ih0 _ _ _
   | exact LeO.none _
   | refine LeO.ite ?_ ?_
   | refine LeO.bind ?_ (fun _ => ?_)
theorem screeref15_Same.mono : ∀ a0 a1 k, LeO (screeref15_Same.f k a0 a1) (screeref15_Same.f (k + 1) a0 a1) := by
 intro a0 a1 k
 have ih0 := screeref15_Same.mono_l k
 unfold screeref15_Same.f
 repeat' first
   | (with_reducible exact ih0 _ _ _)
   | (with_reducible exact LeO.refl _)
   | (with_reducible exact LeO.none _)
   | (with_reducible refine LeO.ite ?_ ?_)
   | (with_reducible refine LeO.bind ?_ (fun _ => ?_))
   | exact ih0 _ _ _
   | exact LeO.none _
   | refine LeO.ite ?_ ?_
   | refine LeO.bind ?_ (fun _ => ?_)
set_option maxHeartbeats 8000000 in
set_option maxRecDepth 100000 in
theorem screeref15_Same.calls (k : Nat) (A0 : Option Addr) (c0 : Nat) (l0 : List (S56)) (A1 : Option Addr) (c1 : Nat) (l1 : List (S56)) (r : Bool) (w : World) (hr0 : Kd.C k56 w A0 l0.length l0) (hc0 : l0.length ≤ c0) (hr1 : Kd.C k56 w A1 l1.length l1) (hc1 : l1.length ≤ c1) (h : screeref15_Same.f k l0 l1 = some r) :
  Calls Try.prog 24 #[.slice A0 l0.length c0, .slice A1 l1.length c1] w fun e w' => e = .returned (.bool r) ∧ Drawn0 w w' := by
 have hu56 := Try.underlying56
 have HR0 := Aside0.mk hr0
 have HC0 := Aside0.mk hc0
 clear hr0 hc0
 have HR1 := Aside0.mk hr1
 have HC1 := Aside0.mk hc1
 clear hr1 hc1
 have H : (if (l0.length : Int) = (l1.length : Int) then (screeref15_Same.l0 k l0 l1 0) else (some false)) = some r := h
 clear h
 by_cases c3 : (l0.length : Int) = (l1.length : Int)
 ·rw [if_pos c3] at H
  have c3b0 : ((l0.length : Int) == (l1.length : Int)) = true := beq_iff_eq.mpr c3
  have c3b1 : ((l0.length : Int) != (l1.length : Int)) = false := bne_eq_false_iff_eq.mpr c3
  have c3b2 : (l0.length == l1.length) = true := by first | simpa using c3 | (simp at c3 ⊢; omega)
  clear c3
  have H' := Aside0.mk H
  clear H
  go_enter Try.func24, Try.ntmps24
  go_wp2
  repeat (go_quiet (fail); try go_wp2)
  go_loopg [5] k (fun kq v5 w' => ∃ (x5_1 : Int), v5 = .int .i64 x5_1 ∧ Aside0 (screeref15_Same.l0 kq l0 l1 x5_1 = some r) ∧ Aside0 (kq ≤ k) ∧ Drawn0 w w')
  case atStart => exact ⟨(0), rs_, H', ⟨Nat.le_refl _⟩, dR_⟩
  case round =>
   clear H'
   try clear c1
   try clear c2
   try clear p2
   try clear c3
   try clear c3b0
   try clear c3b1
   try clear c3b2
   obtain ⟨x5_1, rfl, HA, HK1, ⟨m1, rfl⟩⟩ := hrel
   cases gk with
   | zero => exact absurd HA.out (by simp [screeref15_Same.l0])
   | succ k1 =>
    have H := HA.out
    clear HA
    simp only [screeref15_Same.l0] at H
    by_cases c4 : x5_1 < (l0.length : Int)
    ·rw [if_pos c4] at H
     have c4b0 : decide (x5_1 < (l0.length : Int)) = true := decide_eq_true c4
     clear c4
     by_cases c5 : 0 ≤ x5_1
     ·rw [if_pos c5] at H
      have c5b0 : decide (0 ≤ x5_1) = true := decide_eq_true c5
      clear c5
      by_cases c6 : x5_1 < (l1.length : Int)
      ·rw [if_pos c6] at H
       have c6b0 : decide (x5_1 < (l1.length : Int)) = true := decide_eq_true c6
       clear c6
       by_cases c7 : (!(((rd_T56 l0 x5_1).f0) == ((rd_T56 l1 x5_1).f0)) || (!(((rd_T56 l0 x5_1).f1) == ((rd_T56 l1 x5_1).f1)) || (!(((rd_T56 l0 x5_1).f2) == ((rd_T56 l1 x5_1).f2))))) = true
       ·rw [if_pos c7] at H
        have c7b0 : (!(((rd_T56 l0 x5_1).f0) == ((rd_T56 l1 x5_1).f0)) || (!(((rd_T56 l0 x5_1).f1) == ((rd_T56 l1 x5_1).f1)) || (!(((rd_T56 l0 x5_1).f2) == ((rd_T56 l1 x5_1).f2))))) = true := c7
        clear c7
        obtain rfl := Option.some.inj H
        have p234 : 0 ≤ (x5_1 : Int) := of_decide_eq_true as_
        have q234 : x5_1 < (l0.length : Int) := of_decide_eq_true as_
        obtain ⟨ad234, e234, hx234_0, hx234_1, hx234_2⟩ := at_T56 HR0.out x5_1 p234 q234
        cases e234
        replace p234 := eq_true p234
        replace q234 := eq_true q234
        have p235 : 0 ≤ (x5_1 : Int) := of_decide_eq_true as_
        have q235 : x5_1 < (l1.length : Int) := of_decide_eq_true as_
        obtain ⟨ad235, e235, hx235_0, hx235_1, hx235_2⟩ := at_T56 HR1.out x5_1 p235 q235
        cases e235
        replace p235 := eq_true p235
        replace q235 := eq_true q235
        go_wp2
        repeat (go_quiet (fail); try go_wp2)
        go_ret
        exact ⟨rs_, dR_⟩
       ·rw [if_neg c7] at H
        have c7b0 : (!(((rd_T56 l0 x5_1).f0) == ((rd_T56 l1 x5_1).f0)) || (!(((rd_T56 l0 x5_1).f1) == ((rd_T56 l1 x5_1).f1)) || (!(((rd_T56 l0 x5_1).f2) == ((rd_T56 l1 x5_1).f2))))) = false := by simpa using c7
        clear c7
        have H' := Aside0.mk H
        clear H
        have p234 : 0 ≤ (x5_1 : Int) := of_decide_eq_true as_
        have q234 : x5_1 < (l0.length : Int) := of_decide_eq_true as_
        obtain ⟨ad234, e234, hx234_0, hx234_1, hx234_2⟩ := at_T56 HR0.out x5_1 p234 q234
        cases e234
        replace p234 := eq_true p234
        replace q234 := eq_true q234
        have p235 : 0 ≤ (x5_1 : Int) := of_decide_eq_true as_
        have q235 : x5_1 < (l1.length : Int) := of_decide_eq_true as_
        obtain ⟨ad235, e235, hx235_0, hx235_1, hx235_2⟩ := at_T56 HR1.out x5_1 p235 q235
        cases e235
        replace p235 := eq_true p235
        replace q235 := eq_true q235
        go_wp2
        repeat (go_quiet (fail); try go_wp2)
        go_roundg k1
        case measure => have := HK1.out; omega
        case rel => exact ⟨(wrap64 (x5_1 + 1)), rs_, hH_, ⟨by have := HK1.out; omega⟩, dR_⟩
      ·rw [if_neg c6] at H
       exact absurd H (by simp)
     ·rw [if_neg c5] at H
      exact absurd H (by simp)
    ·rw [if_neg c4] at H
     have c4b0 : decide (x5_1 < (l0.length : Int)) = false := decide_eq_false c4
     clear c4
     obtain rfl := Option.some.inj H
     go_wp2
     repeat (go_quiet (fail); try go_wp2)
     go_ret
     exact ⟨rs_, dR_⟩
 ·rw [if_neg c3] at H
  have c3b0 : ((l0.length : Int) == (l1.length : Int)) = false := beq_eq_false_iff_ne.mpr c3
  have c3b1 : ((l0.length : Int) != (l1.length : Int)) = true := bne_iff_ne.mpr c3
  have c3b2 : (l0.length == l1.length) = false := by first | simpa using c3 | (simp at c3 ⊢; omega)
  obtain rfl := Option.some.inj H
  go_enter Try.func24, Try.ntmps24
  go_wp2
  repeat (go_quiet (fail); try go_wp2)
  go_ret
  exact ⟨rs_, dR_⟩

end Go.Proofs.Yteijlcnjnooiiaa.P
