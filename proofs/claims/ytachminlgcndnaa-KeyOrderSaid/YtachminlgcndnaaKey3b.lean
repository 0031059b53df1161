/- key: four laws. -/
import Derived.Test.YtachminlgcndnaaKey3
set_option linter.unusedVariables false
set_option linter.unusedSimpArgs false
namespace Go.Proofs.Ytachminlgcndnaa.KeyS
open Go.RowKit Go.Proofs.Ytachminlgcndnaa.P Go.Proofs.Ytachminlgcndnaa.Th Go.Proofs.Ytachminlgcndnaa.NumS Go.Proofs.Ytachminlgcndnaa.KeyT Go.Proofs.YtachminlgcndnaaW.PrintWords Go.Proofs.YtachminlgcndnaaW.PrintLast Go.Proofs.YtachminlgcndnaaW.PrintMore

theorem KeyMakes : ∀ (a0_0 : Int) (a0_1 : ByteArray) (a0_2 : Int), ((Lit.int .i64 a0_0).wf = true ∧ a0_1.size ≤ 140737488351232 ∧ (Lit.int .u64 a0_2).wf = true) → ∃ k, screelaw02_KeyMakes.f k a0_0 a0_1 a0_2 = some true := by
  intro cf s t ⟨_, hs, ht⟩
  obtain ⟨u, rfl⟩ := ex_lb s
  obtain ⟨ht0, ht1⟩ := wf_u64 ht
  obtain ⟨n, rfl⟩ := Int.eq_ofNat_of_zero_le ht0
  refine Ev.rounds ?_
  unfold screelaw02_KeyMakes.f
  refine Ev.bind awake_ev (Ev.pos rfl ?_)
  by_cases h1 : (((lb u).size : Nat) : Int) > 1024
  · exact Ev.pos h1 (Ev.now _)
  refine Ev.neg h1 (Ev.bind (Make_ev cf u n (by omega)) (Ev.just rfl (Ev.bind (RMake_ev cf u n (by omega)) ?_)))
  refine Ev.pos rfl (Ev.pos rfl (Ev.just (May_f u) (Ev.just (RMay_f u) ?_)))
  refine Ev.step (fun k => by rw [screelaw02_KeyMakes.j0]) ?_
  refine Ev.neg (by simp) (Ev.just (First_f cf u) (Ev.bind (RFirst_ev cf u) (Ev.pos rfl ?_)))
  refine Ev.step (fun k => by rw [screelaw02_KeyMakes.j1]) ?_
  refine Ev.neg (by simp) (Ev.just (Behind_f cf u) (Ev.bind (RBehind_ev cf u) (Ev.pos rfl ?_)))
  refine Ev.step (fun k => by rw [screelaw02_KeyMakes.j2]) ?_
  exact Ev.neg (by simp) (Ev.just (Escape_f u) (Ev.bind (REscape_ev u) (Ev.pos rfl (Ev.val (by simp)))))

theorem KeyReads : screelaw02_KeyReads.Pure := by
  intro s hs
  obtain ⟨l, rfl⟩ := ex_lb s
  rw [lb_size] at hs
  refine Ev.rounds ?_
  unfold screelaw02_KeyReads.f
  refine Ev.bind awake_ev (Ev.pos rfl ?_)
  by_cases h1 : (((lb l).size : Nat) : Int) > 1024
  · exact Ev.pos h1 (Ev.now _)
  refine Ev.neg h1 (Ev.bind (Read_ev l hs) (Ev.bind (RRead_ev l hs) (Ev.just rfl ?_)))
  refine Ev.neg (by simp) ?_
  refine Ev.step (fun k => by rw [screelaw02_KeyReads.j0]) ?_
  exact Ev.neg (by simp) (Ev.just (Unescape_f l hs) (Ev.bind (RUnescape_ev l hs) (Ev.pos rfl (Ev.pos rfl (Ev.val (by simp))))))

theorem rd_make {cf : Int} {u : List UInt8} {n : Nat} (h : good cf u n) : rd (kb cf.toNat u n) = some (cf.toNat, u, n) := by
  obtain ⟨m, rfl, _, _⟩ := fam_nat h.1
  exact (rd_iff _ _ _ _).2 ⟨h, rfl⟩
theorem rd_none_of {s : List UInt8} (h : (rdr s).2.2.2 ≠ 0) : rd s = none := by
  cases e : rd s with
  | none => rfl
  | some p => obtain ⟨c, u, t⟩ := p; rw [rdr_some e] at h; exact absurd rfl h
theorem KeyBack : ∀ (a0_0 : Int) (a0_1 : ByteArray) (a0_2 : Int) (a1 : ByteArray), ((Lit.int .i64 a0_0).wf = true ∧ a0_1.size ≤ 140737488351232 ∧ (Lit.int .u64 a0_2).wf = true) → (a1.size ≤ 140737488351232) → ∃ k, screelaw02_KeyBack.f k a0_0 a0_1 a0_2 a1 = some true := by
  intro cf s t s1 ⟨_, hs, ht⟩ hs1
  obtain ⟨u, rfl⟩ := ex_lb s
  obtain ⟨l, rfl⟩ := ex_lb s1
  rw [lb_size] at hs1
  obtain ⟨ht0, ht1⟩ := wf_u64 ht
  obtain ⟨n, rfl⟩ := Int.eq_ofNat_of_zero_le ht0
  refine Ev.rounds ?_
  unfold screelaw02_KeyBack.f
  refine Ev.bind awake_ev (Ev.pos rfl ?_)
  have big : Ev (fun k => screelaw02_KeyBack.j0 k (lb l) true cf (lb u) (n : Int)) true := by
    refine Ev.step (fun k => by rw [screelaw02_KeyBack.j0]) ?_
    exact Ev.pos rfl (Ev.now _)
  by_cases h1 : (((lb u).size : Nat) : Int) > 1024
  · exact Ev.pos h1 big
  refine Ev.neg h1 ?_
  by_cases h2 : (((lb l).size : Nat) : Int) > 1024
  · rw [decide_eq_true h2]; exact big
  rw [decide_eq_false h2]
  rw [lb_size] at h2
  have j2 : Ev (fun k => screelaw02_KeyBack.j2 k (lb l)) true := by
    refine Ev.step (fun k => by rw [screelaw02_KeyBack.j2]) ?_
    refine Ev.bind (Read_ev l hs1) ?_
    cases hr : rd l with
    | none => rw [rdr_none hr]; exact Ev.neg (by decide) (Ev.val (by simp [lb_toList]))
    | some p =>
      obtain ⟨c, v, m⟩ := p
      rw [rdr_some hr]
      obtain ⟨hg, hk⟩ := (rd_iff _ _ _ _).1 hr
      refine Ev.pos rfl (Ev.bind (Make_ev (c : Int) v m (by have := hg.2.2.1; omega)) ?_)
      rw [mkr_yes hg]
      refine Ev.pos rfl (Ev.val ?_)
      have : ((c : Int)).toNat = c := by omega
      rw [this, ← hk]; simp
  have j1 : Ev (fun k => screelaw02_KeyBack.j1 k (lb l) cf (lb u) (n : Int)) true := by
    refine Ev.step (fun k => by rw [screelaw02_KeyBack.j1]) ?_
    refine Ev.just (Escape_f u) ?_
    by_cases hm : mayK u = true
    · rw [escr_yes hm]
      have hE := E_len_le (mayK_len hm).2
      have hu : une [] (E u ++ l) = some (u, l) := (une_iff _ _ _).2 ⟨hm, rfl⟩
      refine Ev.pos rfl (Ev.pos (by rw [lb_size, lb_size]; omega) ?_)
      rw [lb_append]
      refine Ev.just (Unescape_f _ (by simp; omega)) ?_
      rw [uner_some hu]
      exact Ev.pos rfl (Ev.pos rfl (Ev.pos rfl j2))
    · rw [escr_no hm]; exact Ev.neg (by decide) j2
  refine Ev.step (fun k => by rw [screelaw02_KeyBack.j0]) ?_
  refine Ev.neg (by simp) (Ev.bind (Make_ev cf u n (by omega)) ?_)
  by_cases hg : good cf u n
  · rw [mkr_yes hg]
    have hlen := kb_len cf.toNat n (mayK_len hg.2.1).2
    refine Ev.pos rfl (Ev.bind (Read_ev _ (by omega)) ?_)
    rw [rdr_some (rd_make hg)]
    obtain ⟨m, rfl, _, _⟩ := fam_nat hg.1
    exact Ev.pos rfl (Ev.neg (by simp) j1)
  · have hno := mkr_no hg
    refine Ev.neg hno.2 (Ev.pos (by rw [hno.1, lb_toList]) j1)

/-! ### the order of store's keys -/
theorem kb_split (c : Nat) (u : List UInt8) (t : Nat) : kb c u t = [UInt8.ofNat c] ++ (E u ++ (if c = 1 then [] else fl t)) := rfl
theorem fl_less {t t' : Nat} (h : t ≤ 1099511627776) (h' : t' ≤ 1099511627776) : Op.bytesLess (fl t) (fl t') = decide (t > t') := by
  unfold fl
  rw [long_less _ _ (by omega) (by omega)]
  rw [Bool.eq_iff_iff]; simp only [decide_eq_true_eq]; omega
theorem fl_inj {t t' : Nat} (h : t ≤ 1099511627776) (h' : t' ≤ 1099511627776) (e : fl t = fl t') : t = t' := by
  have := long_inj (by omega) (by omega) e; omega
/-- which key is ahead -/
def aheadK (c : Nat) (u : List UInt8) (t : Nat) (d : Nat) (v : List UInt8) (s : Nat) : Bool :=
  if c = d then (if u = v then decide (t > s) else Op.bytesLess u v) else decide (c < d)
theorem kb_less {c d : Nat} {u v : List UInt8} {t s : Nat} (hc : good (c : Int) u t) (hd : good (d : Int) v s) : Op.bytesLess (kb c u t) (kb d v s) = aheadK c u t d v s := by
  have hc4 : 1 ≤ c ∧ c ≤ 4 := by have := hc.1; unfold fam at this; omega
  have hd4 : 1 ≤ d ∧ d ≤ 4 := by have := hd.1; unfold fam at this; omega
  have ec : (UInt8.ofNat c).toNat = c := u8_ofNat_toNat _ (by omega)
  have ed : (UInt8.ofNat d).toNat = d := u8_ofNat_toNat _ (by omega)
  unfold aheadK kb
  by_cases hcd : c = d
  · subst hcd
    rw [if_pos rfl, bl_cons]
    by_cases huv : u = v
    · subst huv
      rw [if_pos rfl, E_same]
      by_cases h1 : c = 1
      · rw [if_pos h1, if_pos h1, bl_self]
        have a := hc.2.2.2 (by omega)
        have b := hd.2.2.2 (by omega)
        symm; rw [decide_eq_false_iff_not]; omega
      · rw [if_neg h1, if_neg h1, fl_less hc.2.2.1 hd.2.2.1]
    · rw [if_neg huv, E_less _ _ _ _ huv]
  · rw [if_neg hcd]
    rcases Nat.lt_or_gt_of_ne hcd with h | h
    · rw [bl_lt (by omega), decide_eq_true h]
    · rw [bl_gt (by omega), decide_eq_false (by omega)]
theorem kb_pre {c d : Nat} {u v : List UInt8} {t s : Nat} (hc : good (c : Int) u t) (hd : good (d : Int) v s) (r q : List UInt8) (h : kb c u t ++ r = kb d v s ++ q) : c = d ∧ u = v ∧ t = s := by
  have hc4 : 1 ≤ c ∧ c ≤ 4 := by have := hc.1; unfold fam at this; omega
  have hd4 : 1 ≤ d ∧ d ≤ 4 := by have := hd.1; unfold fam at this; omega
  unfold kb at h
  simp only [List.cons_append, List.append_assoc, List.cons.injEq] at h
  obtain ⟨h1, h2⟩ := h
  have hcd : c = d := by
    have := congrArg UInt8.toNat h1
    rw [u8_ofNat_toNat _ (by omega), u8_ofNat_toNat _ (by omega)] at this
    exact this
  subst hcd
  obtain ⟨huv, h3⟩ := E_free _ _ _ _ h2
  refine ⟨rfl, huv, ?_⟩
  by_cases h1 : c = 1
  · have a := hc.2.2.2 (by omega)
    have b := hd.2.2.2 (by omega)
    omega
  · rw [if_neg h1, if_neg h1] at h3
    exact fl_inj hc.2.2.1 hd.2.2.1 (List.append_inj_left h3 (by rw [fl_len, fl_len]))
theorem lbl_eq {a b : List UInt8} : (a == b) = decide (a = b) := by
  rw [Bool.eq_iff_iff]; simp
theorem KeyOrder : ∀ (a0_0 : Int) (a0_1 : ByteArray) (a0_2 : Int) (a1_0 : Int) (a1_1 : ByteArray) (a1_2 : Int), ((Lit.int .i64 a0_0).wf = true ∧ a0_1.size ≤ 140737488351232 ∧ (Lit.int .u64 a0_2).wf = true) → ((Lit.int .i64 a1_0).wf = true ∧ a1_1.size ≤ 140737488351232 ∧ (Lit.int .u64 a1_2).wf = true) → ∃ k, screelaw02_KeyOrder.f k a0_0 a0_1 a0_2 a1_0 a1_1 a1_2 = some true := by
  intro cf s t cg s1 t1 ⟨_, hs, ht⟩ ⟨_, hs1, ht1⟩
  obtain ⟨u, rfl⟩ := ex_lb s
  obtain ⟨v, rfl⟩ := ex_lb s1
  obtain ⟨ha0, ha1⟩ := wf_u64 ht
  obtain ⟨n, rfl⟩ := Int.eq_ofNat_of_zero_le ha0
  obtain ⟨hb0, hb1⟩ := wf_u64 ht1
  obtain ⟨m, rfl⟩ := Int.eq_ofNat_of_zero_le hb0
  refine Ev.rounds ?_
  unfold screelaw02_KeyOrder.f
  refine Ev.bind awake_ev (Ev.pos rfl ?_)
  have big : Ev (fun k => screelaw02_KeyOrder.j0 k true cf (lb u) (n : Int) cg (lb v) (m : Int)) true := by
    refine Ev.step (fun k => by rw [screelaw02_KeyOrder.j0]) ?_
    exact Ev.pos rfl (Ev.now _)
  by_cases h1 : (((lb u).size : Nat) : Int) > 1024
  · exact Ev.pos h1 big
  refine Ev.neg h1 ?_
  by_cases h2 : (((lb v).size : Nat) : Int) > 1024
  · rw [decide_eq_true h2]; exact big
  rw [decide_eq_false h2]
  refine Ev.step (fun k => by rw [screelaw02_KeyOrder.j0]) ?_
  refine Ev.neg (by simp) (Ev.bind (Make_ev cf u n (by omega)) (Ev.bind (Make_ev cg v m (by omega)) ?_))
  have bad : ∀ x y, Ev (fun k => screelaw02_KeyOrder.j1 k x y true cf (lb u) (n : Int) cg (lb v) (m : Int)) true := by
    intro x y
    refine Ev.step (fun k => by rw [screelaw02_KeyOrder.j1]) ?_
    exact Ev.pos rfl (Ev.now _)
  by_cases hg : good cf u n
  case neg => exact Ev.neg (mkr_no hg).2 (bad _ _)
  rw [mkr_yes hg]
  refine Ev.pos rfl ?_
  by_cases hh : good cg v m
  case neg =>
    have : ((mkr cg v m).2 != 0) = true := bne_iff_ne.mpr (mkr_no hh).2
    rw [this]; exact bad _ _
  rw [mkr_yes hh]
  refine Ev.step (fun k => by rw [screelaw02_KeyOrder.j1]) ?_
  refine Ev.neg (by simp) ?_
  obtain ⟨c, rfl, hc1, hc4⟩ := fam_nat hg.1
  obtain ⟨d, rfl, hd1, hd4⟩ := fam_nat hh.1
  have tc : ((c : Int)).toNat = c := by omega
  have td : ((d : Int)).toNat = d := by omega
  simp only [tc, td, lb_toList, lb_size, mn_nat, Int.toNat_natCast, lb_extract, List.drop_zero]
  have hless := kb_less hg hh
  have heq : (kb c u n == kb d v m) = ((c : Int) == (d : Int) && (u == v && ((n : Int) == (m : Int)))) := by
    rw [Bool.eq_iff_iff]
    simp only [beq_iff_eq, Bool.and_eq_true]
    constructor
    · intro e
      obtain ⟨h1, h2, h3⟩ := kb_pre hg hh [] [] (by rw [e])
      subst h1; subst h2; subst h3
      exact ⟨rfl, rfl, rfl⟩
    · rintro ⟨h1, h2, h3⟩
      have e1 : c = d := by omega
      have e3 : n = m := by omega
      rw [e1, h2, e3]
  rw [heq, hless]
  have tail : ∀ b : Bool, aheadK c u n d v m = b → Ev (fun k => if (aheadK c u n d v m != b) = true then (none : Option Bool) else if (((c : Int) == (d : Int) && (u == v && ((n : Int) == (m : Int)))) != ((c : Int) == (d : Int) && (u == v && ((n : Int) == (m : Int))))) = true then none else if ((c : Int) == (d : Int) && (u == v && ((n : Int) == (m : Int)))) = true then some true else if 0 ≤ ((min (kb c u n).length (kb d v m).length : Nat) : Int) then if ((min (kb c u n).length (kb d v m).length : Nat) : Int) ≤ ((kb c u n).length : Int) then if ((min (kb c u n).length (kb d v m).length : Nat) : Int) ≤ ((kb d v m).length : Int) then some ((kb c u n).take (min (kb c u n).length (kb d v m).length) != (kb d v m).take (min (kb c u n).length (kb d v m).length)) else none else none else none) true := by
    intro b hb
    refine Ev.neg (by rw [hb]; simp) (Ev.neg (by simp) ?_)
    by_cases he : ((c : Int) == (d : Int) && (u == v && ((n : Int) == (m : Int)))) = true
    · exact Ev.pos he (Ev.now _)
    · refine Ev.neg he (Ev.pos (by omega) (Ev.pos (by omega) (Ev.pos (by omega) (Ev.val ?_))))
      congr 1
      rw [bne_iff_ne]
      intro ht
      obtain ⟨r, q, hrq⟩ := take_both ht
      obtain ⟨h1, h2, h3⟩ := kb_pre hg hh r q hrq
      apply he
      rw [h1, h2, h3]; simp
  by_cases hlt : (c : Int) < (d : Int)
  · exact Ev.pos hlt (tail true (by unfold aheadK; rw [if_neg (by omega)]; exact decide_eq_true (by omega)))
  refine Ev.neg hlt ?_
  by_cases hcd : (c : Int) = (d : Int)
  · refine Ev.pos hcd ?_
    have hcd2 : c = d := by omega
    by_cases hb : Op.bytesLess u v = true
    · refine Ev.pos hb (tail true ?_)
      unfold aheadK
      rw [if_pos hcd2, if_neg (fun e => by rw [e, bl_self] at hb; cases hb), hb]
    · refine Ev.neg hb ?_
      by_cases huv : u = v
      · refine Ev.pos huv (tail _ ?_)
        unfold aheadK
        rw [if_pos hcd2, if_pos huv, Bool.eq_iff_iff]; simp only [decide_eq_true_eq]; omega
      · refine Ev.neg huv (tail false ?_)
        unfold aheadK
        rw [if_pos hcd2, if_neg huv]; simpa using hb
  · refine Ev.neg hcd (tail false ?_)
    unfold aheadK
    rw [if_neg (by omega)]; exact decide_eq_false (by omega)
end Go.Proofs.Ytachminlgcndnaa.KeyS
