/- key: what the printed functions, and the reference's, come to: over lists of bytes. -/
import Derived.Test.YtachminlgcndnaaNumL
import Derived.Test.YtachminlgcndnaaKeyT
set_option linter.unusedVariables false
set_option linter.unusedSimpArgs false
namespace Go.Proofs.Ytachminlgcndnaa.KeyS
open Go.RowKit Go.Proofs.Ytachminlgcndnaa.P Go.Proofs.Ytachminlgcndnaa.Th Go.Proofs.Ytachminlgcndnaa.NumS Go.Proofs.Ytachminlgcndnaa.KeyT Go.Proofs.YtachminlgcndnaaW.PrintWords Go.Proofs.YtachminlgcndnaaW.PrintLast Go.Proofs.YtachminlgcndnaaW.PrintMore

theorem May_f (u : List UInt8) : key_May.f (lb u) = some (mayK u) := key_Unescape.may_some u
theorem RMay_f (u : List UInt8) : screeref02_May.f (lb u) = some (mayK u) := by
  unfold screeref02_May.f mayK
  rw [lb_size]
  by_cases h : (u.length : Int) ≥ 1
  · rw [if_pos h]; congr 1; rw [Bool.eq_iff_iff]; simp only [decide_eq_true_eq]; omega
  · rw [if_neg h]; congr 1; symm; rw [decide_eq_false_iff_not]; omega
theorem mayK_len {u : List UInt8} (h : mayK u = true) : 1 ≤ u.length ∧ u.length ≤ 24 := of_decide_eq_true h
theorem E_len (u : List UInt8) : (E u).length = (esc u).length + 2 := by simp [E]
theorem E_len_le {u : List UInt8} (h : u.length ≤ 24) : (E u).length ≤ 50 := by have := esc_len u; rw [E_len]; omega
def fam (cf : Int) : Prop := 1 ≤ cf ∧ cf ≤ 4
instance (cf : Int) : Decidable (fam cf) := inferInstanceAs (Decidable (1 ≤ cf ∧ cf ≤ 4))
theorem family_f (cf : Int) : key_family.f cf = some (decide (fam cf)) := by
  unfold key_family.f
  by_cases h : cf ≥ 1
  · rw [if_pos h]
    by_cases h2 : fam cf
    · rw [decide_eq_true h2, decide_eq_true h2.2]
    · rw [decide_eq_false h2, decide_eq_false (fun e => h2 ⟨h, e⟩)]
  · rw [if_neg h, decide_eq_false (fun e : fam cf => h e.1)]
def escr (u : List UInt8) : ByteArray × Int := if mayK u = true then (lb (E u), 0) else (lb [], 20)
theorem escr_yes {u : List UInt8} (h : mayK u = true) : escr u = (lb (E u), 0) := if_pos h
theorem escr_no {u : List UInt8} (h : ¬ mayK u = true) : escr u = (lb [], 20) := if_neg h
theorem Escape_f (u : List UInt8) : key_Escape.f (lb u) = some (escr u) := by
  unfold key_Escape.f escr
  rw [bl_lb]
  split <;> rfl
theorem resc_l0 : ∀ (rest pre : List UInt8), (pre ++ rest).length ≤ 24 →
    Ev (fun k => screeref02_Escape.l0 k (lb (pre ++ rest)) (toI (esc pre)) (pre.length : Int)) (lb (E (pre ++ rest)), 0) := by
  intro rest
  induction rest with
  | nil =>
    intro pre hl
    refine Ev.step (fun k => by rw [screeref02_Escape.l0]) ?_
    have h2 := esc_len pre
    rw [List.append_nil] at hl ⊢
    refine Ev.neg (by rw [lb_size]; simp) (Ev.just rfl (Ev.pos (by rw [toI_len]; simp; omega) (Ev.val ?_)))
    have e : toI (esc pre) ++ [0, 1] = toI (E pre) := by unfold E; rw [toI_app]; rfl
    rw [e, son, ofI_toI]
  | cons c rest ih =>
    intro pre hl
    have hlen : (pre ++ c :: rest).length = pre.length + 1 + rest.length := by simp; omega
    have h2 := esc_len pre
    refine Ev.step (fun k => by rw [screeref02_Escape.l0]) ?_
    refine Ev.pos (by rw [lb_size]; omega) (Ev.pos (by omega) (Ev.pos (by rw [toI_len]; omega) (Ev.just rfl ?_)))
    have e1 : wrap64 ((pre.length : Int) + 1) = (((pre ++ [c]).length : Nat) : Int) := by rw [w64 _ (by omega) (by omega)]; simp
    rw [bt_app, e1]
    have hr : toI (esc pre) ++ [(c.toNat : Int)] = toI (esc pre ++ [c]) := by rw [toI_app]; rfl
    rw [hr]
    have ihc := ih (pre ++ [c]) (by simpa using hl)
    rw [List.append_assoc, List.singleton_append] at ihc
    by_cases hc : c = 0
    · have hz : ((c.toNat : Nat) : Int) = 0 := by rw [hc]; rfl
      refine Ev.pos hz (Ev.pos (by rw [toI_len]; simp; omega) ?_)
      have e2 : toI (esc pre ++ [c]) ++ [255] = toI (esc (pre ++ [c])) := by
        rw [esc_app, hc]
        show _ = toI (esc pre ++ [0, 255])
        simp [toI]
      rw [e2]
      exact ihc
    · have hz : ¬ ((c.toNat : Nat) : Int) = 0 := by have := u8_pos hc; omega
      refine Ev.neg hz ?_
      have e2 : esc pre ++ [c] = esc (pre ++ [c]) := by rw [esc_app, esc_cons hc]; rfl
      rw [e2]
      exact ihc
theorem REscape_ev (u : List UInt8) : Ev (fun k => screeref02_Escape.f k (lb u)) (escr u) := by
  unfold screeref02_Escape.f escr
  refine Ev.just (RMay_f u) ?_
  by_cases h : mayK u = true
  · rw [if_pos h]; exact Ev.pos h (resc_l0 u [] (by simpa using (mayK_len h).2))
  · rw [if_neg h]; exact Ev.neg h (Ev.now _)
/-! ### where a user's key begins and ends -/
theorem fam_nat {cf : Int} (h : fam cf) : ∃ n : Nat, cf = (n : Int) ∧ 1 ≤ n ∧ n ≤ 4 := ⟨cf.toNat, by unfold fam at h; omega⟩
def fstr (cf : Int) (u : List UInt8) : ByteArray × Int := if fam cf then (if mayK u = true then (lb (UInt8.ofNat cf.toNat :: E u), 0) else (lb [], 20)) else (lb [], 1)
theorem First_f (cf : Int) (u : List UInt8) : key_First.f cf (lb u) = some (fstr cf u) := by
  unfold key_First.f fstr
  rw [family_f, Option.bind_some]
  by_cases hf : fam cf
  · rw [if_pos hf, if_pos (decide_eq_true hf), Escape_f, Option.bind_some]
    by_cases hm : mayK u = true
    · rw [escr_yes hm, if_pos hm, if_pos rfl, Option.bind_some]
      obtain ⟨n, rfl, h1, h4⟩ := fam_nat hf
      have hl := E_len_le (mayK_len hm).2
      rw [son, ofI_mod, if_pos (by rw [lb_size, lb_size]; simp; omega), lb_append]
      have : ((n : Int)).toNat = n := by omega
      rw [this]; rfl
    · rw [escr_no hm, if_neg hm]; rfl
  · rw [if_neg hf, if_neg (by simpa using hf)]; rfl
theorem RFirst_ev (cf : Int) (u : List UInt8) : Ev (fun k => screeref02_First.f k cf (lb u)) (fstr cf u) := by
  unfold screeref02_First.f fstr
  have hj : ∀ b, b = decide (¬ fam cf) → Ev (fun k => screeref02_First.j0 k cf (lb u) b) (if fam cf then (if mayK u = true then (lb (UInt8.ofNat cf.toNat :: E u), 0) else (lb [], 20)) else (lb [], 1)) := by
    intro b hb
    refine Ev.step (fun k => by rw [screeref02_First.j0]) ?_
    by_cases hf : fam cf
    · rw [if_pos hf]
      refine Ev.neg (by rw [hb]; simpa using hf) (Ev.bind (REscape_ev u) ?_)
      by_cases hm : mayK u = true
      · rw [escr_yes hm, if_pos hm]
        obtain ⟨n, rfl, h1, h4⟩ := fam_nat hf
        have hl := E_len_le (mayK_len hm).2
        refine Ev.pos rfl (Ev.just rfl ?_)
        rw [son, ofI_mod]
        refine Ev.pos (by rw [lb_size, lb_size]; simp; omega) (Ev.val ?_)
        have : ((n : Int)).toNat = n := by omega
        rw [this, lb_append]; rfl
      · rw [escr_no hm, if_neg hm]; exact Ev.neg (by decide) (Ev.now _)
    · rw [if_neg hf]; exact Ev.pos (by rw [hb]; simpa using hf) (Ev.now _)
  by_cases h1 : cf < 1
  · exact Ev.pos h1 (hj true (by symm; rw [decide_eq_true_eq]; unfold fam; omega))
  · exact Ev.neg h1 (hj _ (by rw [Bool.eq_iff_iff]; simp only [decide_eq_true_eq]; unfold fam; omega))
def bhr (cf : Int) (u : List UInt8) : ByteArray × Int := if fam cf then (if mayK u = true then (lb (UInt8.ofNat cf.toNat :: (esc u ++ [0, 2])), 0) else (lb [], 20)) else (lb [], 1)
theorem Behind_f (cf : Int) (u : List UInt8) : key_Behind.f cf (lb u) = some (bhr cf u) := by
  unfold key_Behind.f bhr
  rw [First_f, Option.bind_some]
  unfold fstr
  by_cases hf : fam cf
  · rw [if_pos hf, if_pos hf]
    by_cases hm : mayK u = true
    · rw [if_pos hm, if_pos hm, if_pos rfl]
      have hl := E_len_le (mayK_len hm).2
      have hl2 := E_len u
      rw [if_pos (by simp only [lb_size, List.length_cons]; omega)]
      congr 2
      have e : UInt8.ofNat cf.toNat :: E u = (UInt8.ofNat cf.toNat :: (esc u ++ [0])) ++ [1] := by simp [E]
      have e2 : UInt8.ofNat cf.toNat :: (esc u ++ [0, 2]) = (UInt8.ofNat cf.toNat :: (esc u ++ [0])) ++ [2] := by simp
      show strOfNums (key_Behind.up (bytesOf (lb (UInt8.ofNat cf.toNat :: E u)))) = _
      rw [bytesOf_lb, e, e2]
      generalize UInt8.ofNat cf.toNat :: (esc u ++ [0]) = q
      unfold key_Behind.up
      have h3 : toI (q ++ [1]) = toI q ++ [1] := by rw [toI_app]; rfl
      rw [h3, son]
      have h4 : (toI q ++ [1]).length - 1 = (toI q).length := by simp
      rw [h4, List.getD_eq_getElem?_getD, List.getElem?_append_right (Nat.le_refl _), Nat.sub_self]
      rw [List.set_append_right _ _ (Nat.le_refl _), Nat.sub_self]
      show lb (ofI (toI q ++ [2])) = _
      rw [ofI_app, ofI_toI]; rfl
    · rw [if_neg hm, if_neg hm]; rfl
  · rw [if_neg hf, if_neg hf]; rfl
theorem RBehind_ev (cf : Int) (u : List UInt8) : Ev (fun k => screeref02_Behind.f k cf (lb u)) (bhr cf u) := by
  unfold screeref02_Behind.f bhr
  refine Ev.bind (RFirst_ev cf u) ?_
  unfold fstr
  by_cases hf : fam cf
  · rw [if_pos hf, if_pos hf]
    by_cases hm : mayK u = true
    · rw [if_pos hm, if_pos hm]
      have hl := E_len_le (mayK_len hm).2
      have hl2 := E_len u
      have hs : (UInt8.ofNat cf.toNat :: E u).length = (E u).length + 1 := by simp
      have hw : wrap64 ((((UInt8.ofNat cf.toNat :: E u).length : Nat) : Int) - 1) = (((E u).length : Nat) : Int) := by rw [w64 _ (by omega) (by omega)]; omega
      refine Ev.pos rfl ?_
      simp only [lb_size, hw, Int.toNat_natCast, lb_extract]
      refine Ev.pos (by omega) (Ev.pos (by omega) (Ev.pos (by simp; omega) (Ev.val ?_)))
      have e : UInt8.ofNat cf.toNat :: E u = (UInt8.ofNat cf.toNat :: (esc u ++ [0])) ++ [1] := by simp [E]
      have e2 : UInt8.ofNat cf.toNat :: (esc u ++ [0, 2]) = (UInt8.ofNat cf.toNat :: (esc u ++ [0])) ++ [2] := by simp
      have hq : (E u).length = (UInt8.ofNat cf.toNat :: (esc u ++ [0])).length := by rw [hl2]; simp
      rw [hq, e, e2, List.take_left, List.drop_zero, lb_arr, lb_append]
    · rw [if_neg hm, if_neg hm]; exact Ev.neg (by decide) (Ev.now _)
  · rw [if_neg hf, if_neg hf]; exact Ev.neg (by decide) (Ev.now _)
def famr (cf : Int) : ByteArray × ByteArray × Int := if fam cf then (lb [UInt8.ofNat cf.toNat], lb [UInt8.ofNat (cf.toNat + 1)], 0) else (lb [], lb [], 1)
theorem Family_f (cf : Int) : key_Family.f cf = some (famr cf) := by
  unfold key_Family.f famr
  rw [family_f, Option.bind_some]
  by_cases hf : fam cf
  · rw [if_pos hf, if_pos (decide_eq_true hf)]
    obtain ⟨n, rfl, h1, h4⟩ := fam_nat hf
    have hw : wrap64 ((n : Int) + 1) = ((n + 1 : Nat) : Int) := by rw [w64 _ (by omega) (by omega)]; omega
    have : ((n : Int)).toNat = n := by omega
    rw [hw, son, son, ofI_mod, ofI_mod, this]
  · rw [if_neg hf, if_neg (by simpa using hf)]; rfl
/-! ### a store's key -/
def fl (t : Nat) : List UInt8 := long (18446744073709551615 - t)
theorem fl_len (t : Nat) : (fl t).length = 8 := long_len _
theorem fl_be (r : List UInt8) (h : r.length = 8) : fl (18446744073709551615 - be 0 r) = r := by
  have := be_lt8 r h
  unfold fl
  have e : 18446744073709551615 - (18446744073709551615 - be 0 r) = be 0 r := by omega
  rw [e, long_be r h]
theorem be_fl (t : Nat) (h : t ≤ 1099511627776) : 18446744073709551615 - be 0 (fl t) = t := by
  unfold fl
  rw [be_long _ (by omega)]; omega
def kb (c : Nat) (u : List UInt8) (t : Nat) : List UInt8 := UInt8.ofNat c :: (E u ++ (if c = 1 then [] else fl t))
def good (cf : Int) (u : List UInt8) (t : Nat) : Prop := fam cf ∧ mayK u = true ∧ t ≤ 1099511627776 ∧ (cf = 1 → t = 0)
instance (cf : Int) (u : List UInt8) (t : Nat) : Decidable (good cf u t) := inferInstanceAs (Decidable (fam cf ∧ mayK u = true ∧ t ≤ 1099511627776 ∧ (cf = 1 → t = 0)))
def mkr (cf : Int) (u : List UInt8) (t : Nat) : ByteArray × Int := if good cf u t then (lb (kb cf.toNat u t), 0) else (lb [], if ¬ fam cf then 1 else if ¬ mayK u = true then 20 else 3)
theorem mkr_yes {cf : Int} {u : List UInt8} {t : Nat} (h : good cf u t) : mkr cf u t = (lb (kb cf.toNat u t), 0) := if_pos h
theorem mkr_no {cf : Int} {u : List UInt8} {t : Nat} (h : ¬ good cf u t) : (mkr cf u t).1 = lb [] ∧ (mkr cf u t).2 ≠ 0 := by
  unfold mkr; rw [if_neg h]
  refine ⟨rfl, ?_⟩
  simp only
  split
  · decide
  · split <;> decide
theorem kb_len {u : List UInt8} (c t : Nat) (h : u.length ≤ 24) : (kb c u t).length ≤ 59 := by
  have := E_len_le h
  unfold kb
  split
  · simp; omega
  · simp only [List.length_cons, List.length_append, fl_len]; omega
theorem Make_ev (cf : Int) (u : List UInt8) (t : Nat) (ht : t < 18446744073709551616) : Ev (fun k => key_Make.f k cf (lb u) (t : Int)) (mkr cf u t) := by
  unfold key_Make.f
  refine Ev.just (First_f cf u) ?_
  by_cases hf : fam cf
  · by_cases hm : mayK u = true
    · have h1 : fstr cf u = (lb (UInt8.ofNat cf.toNat :: E u), 0) := by unfold fstr; rw [if_pos hf, if_pos hm]
      rw [h1]
      refine Ev.pos rfl ?_
      have hl := E_len_le (mayK_len hm).2
      obtain ⟨n, rfl, hn1, hn4⟩ := fam_nat hf
      have hn : ((n : Int)).toNat = n := by omega
      rw [hn]
      have hj : ∀ b, (b = true ↔ ¬ good (n : Int) u t) → Ev (fun k => key_Make.j0 k (lb (UInt8.ofNat n :: E u)) b (n : Int) (lb u) (t : Int)) (mkr (n : Int) u t) := by
        intro b hb
        refine Ev.step (fun k => by rw [key_Make.j0]) ?_
        by_cases hg : good (n : Int) u t
        · rw [mkr_yes hg, hn]
          refine Ev.neg (fun e => hb.1 e hg) ?_
          unfold kb
          by_cases hc : n = 1
          · rw [if_pos hc]; exact Ev.pos (by omega) (Ev.val (by simp))
          · rw [if_neg hc]
            refine Ev.neg (by omega) (Ev.just (Fall_f t ht) ?_)
            refine Ev.pos (by rw [lb_size, lb_size, long_len]; simp; omega) (Ev.val ?_)
            rw [lb_append]; rfl
        · have : mkr (n : Int) u t = (lb [], 3) := by unfold mkr; rw [if_neg hg, if_neg (by simpa using hf), if_neg (by simpa using hm)]
          rw [this]
          exact Ev.pos (hb.2 hg) (Ev.now _)
      by_cases hb : (t : Int) > 1099511627776
      · exact Ev.pos hb (hj true (by simp; intro hg; have := hg.2.2.1; omega))
      · refine Ev.neg hb ?_
        by_cases hc : (n : Int) = 1
        · refine Ev.pos hc (hj _ ?_)
          rw [bne_iff_ne]
          unfold good
          constructor
          · intro h1 h2; exact h1 (by have := h2.2.2.2 hc; omega)
          · intro h1 h2; exact h1 ⟨hf, hm, by omega, fun _ => by omega⟩
        · refine Ev.neg hc (hj false ?_)
          constructor
          · intro h; cases h
          · intro h; exact absurd ⟨hf, hm, by omega, fun h => absurd h hc⟩ h
    · have h1 : fstr cf u = (lb [], 20) := by unfold fstr; rw [if_pos hf, if_neg hm]
      have h2 : mkr cf u t = (lb [], 20) := by unfold mkr; rw [if_neg (fun g => hm g.2.1), if_neg (by simpa using hf), if_pos hm]
      rw [h1, h2]
      exact Ev.neg (by decide) (Ev.now _)
  · have h1 : fstr cf u = (lb [], 1) := by unfold fstr; rw [if_neg hf]
    have h2 : mkr cf u t = (lb [], 1) := by unfold mkr; rw [if_neg (fun g => hf g.1), if_pos hf]
    rw [h1, h2]
    exact Ev.neg (by decide) (Ev.now _)
theorem RMake_ev (cf : Int) (u : List UInt8) (t : Nat) (ht : t < 18446744073709551616) : Ev (fun k => screeref02_Make.f k cf (lb u) (t : Int)) (mkr cf u t) := by
  unfold screeref02_Make.f
  refine Ev.bind (RFirst_ev cf u) ?_
  by_cases hf : fam cf
  · by_cases hm : mayK u = true
    · have h1 : fstr cf u = (lb (UInt8.ofNat cf.toNat :: E u), 0) := by unfold fstr; rw [if_pos hf, if_pos hm]
      rw [h1]
      refine Ev.pos rfl ?_
      have hl := E_len_le (mayK_len hm).2
      obtain ⟨n, rfl, hn1, hn4⟩ := fam_nat hf
      have hn : ((n : Int)).toNat = n := by omega
      rw [hn]
      have hj : ∀ b, (b = true ↔ ¬ good (n : Int) u t) → Ev (fun k => screeref02_Make.j0 k (lb (UInt8.ofNat n :: E u)) b (n : Int) (lb u) (t : Int)) (mkr (n : Int) u t) := by
        intro b hb
        refine Ev.step (fun k => by rw [screeref02_Make.j0]) ?_
        by_cases hg : good (n : Int) u t
        · rw [mkr_yes hg, hn]
          refine Ev.neg (fun e => hb.1 e hg) ?_
          unfold kb
          by_cases hc : n = 1
          · rw [if_pos hc]; exact Ev.pos (by omega) (Ev.val (by simp))
          · rw [if_neg hc]
            refine Ev.neg (by omega) (Ev.bind (RFall_ev t ht) ?_)
            refine Ev.pos (by rw [lb_size, lb_size, long_len]; simp; omega) (Ev.val ?_)
            rw [lb_append]; rfl
        · have : mkr (n : Int) u t = (lb [], 3) := by unfold mkr; rw [if_neg hg, if_neg (by simpa using hf), if_neg (by simpa using hm)]
          rw [this]
          exact Ev.pos (hb.2 hg) (Ev.now _)
      by_cases hb : (t : Int) > 1099511627776
      · exact Ev.pos hb (hj true (by simp; intro hg; have := hg.2.2.1; omega))
      · refine Ev.neg hb ?_
        by_cases hc : (n : Int) = 1
        · refine Ev.pos hc (hj _ ?_)
          rw [decide_eq_true_eq]
          unfold good
          constructor
          · intro h1 h2; have := h2.2.2.2 hc; omega
          · intro h1
            rcases Nat.eq_zero_or_pos t with h0 | h0
            · exact absurd ⟨hf, hm, by omega, fun _ => h0⟩ h1
            · omega
        · refine Ev.neg hc (hj false ?_)
          constructor
          · intro h; cases h
          · intro h; exact absurd ⟨hf, hm, by omega, fun h => absurd h hc⟩ h
    · have h1 : fstr cf u = (lb [], 20) := by unfold fstr; rw [if_pos hf, if_neg hm]
      have h2 : mkr cf u t = (lb [], 20) := by unfold mkr; rw [if_neg (fun g => hm g.2.1), if_neg (by simpa using hf), if_pos hm]
      rw [h1, h2]
      exact Ev.neg (by decide) (Ev.now _)
  · have h1 : fstr cf u = (lb [], 1) := by unfold fstr; rw [if_neg hf]
    have h2 : mkr cf u t = (lb [], 1) := by unfold mkr; rw [if_neg (fun g => hf g.1), if_pos hf]
    rw [h1, h2]
    exact Ev.neg (by decide) (Ev.now _)
end Go.Proofs.Ytachminlgcndnaa.KeyS
