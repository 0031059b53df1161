/- key: three more laws. -/
import Derived.Test.YtachminlgcndnaaKey3
set_option linter.unusedVariables false
set_option linter.unusedSimpArgs false
namespace Go.Proofs.Ytachminlgcndnaa.KeyS
open Go.RowKit Go.Proofs.Ytachminlgcndnaa.P Go.Proofs.Ytachminlgcndnaa.Th Go.Proofs.Ytachminlgcndnaa.NumS Go.Proofs.Ytachminlgcndnaa.KeyT Go.Proofs.YtachminlgcndnaaW.PrintWords Go.Proofs.YtachminlgcndnaaW.PrintLast Go.Proofs.YtachminlgcndnaaW.PrintMore

/-- a key lies from where its user's key begins on .. -/
theorem from_first {c d : Nat} {u v : List UInt8} {s : Nat} (hc : 1 ≤ c ∧ c ≤ 4) (hd : good (d : Int) v s) :
    Op.bytesLess (kb d v s) (UInt8.ofNat c :: E u) = (if d = c then (if v = u then false else Op.bytesLess v u) else decide (d < c)) := by
  have hd4 : 1 ≤ d ∧ d ≤ 4 := by have := hd.1; unfold fam at this; omega
  have ec : (UInt8.ofNat c).toNat = c := u8_ofNat_toNat _ (by omega)
  have ed : (UInt8.ofNat d).toNat = d := u8_ofNat_toNat _ (by omega)
  unfold kb
  by_cases hcd : d = c
  · subst hcd
    rw [if_pos rfl, bl_cons]
    by_cases huv : v = u
    · subst huv
      rw [if_pos rfl]
      have := E_same v (if d = 1 then [] else fl s) []
      rw [List.append_nil] at this
      rw [this]
      cases (if d = 1 then [] else fl s) <;> rfl
    · rw [if_neg huv]
      have := E_less v u (if d = 1 then [] else fl s) [] huv
      rwa [List.append_nil] at this
  · rw [if_neg hcd]
    rcases Nat.lt_or_gt_of_ne hcd with h | h
    · rw [bl_lt (by omega), decide_eq_true h]
    · rw [bl_gt (by omega), decide_eq_false (by omega)]
/-- .. and ahead of where it ends -/
theorem to_behind {c d : Nat} {u v : List UInt8} {s : Nat} (hc : 1 ≤ c ∧ c ≤ 4) (hd : good (d : Int) v s) :
    Op.bytesLess (kb d v s) (UInt8.ofNat c :: (esc u ++ [0, 2])) = (if d = c then (if v = u then true else Op.bytesLess v u) else decide (d < c)) := by
  have hd4 : 1 ≤ d ∧ d ≤ 4 := by have := hd.1; unfold fam at this; omega
  have ec : (UInt8.ofNat c).toNat = c := u8_ofNat_toNat _ (by omega)
  have ed : (UInt8.ofNat d).toNat = d := u8_ofNat_toNat _ (by omega)
  unfold kb E
  by_cases hcd : d = c
  · subst hcd
    rw [if_pos rfl, bl_cons, List.append_assoc]
    by_cases huv : v = u
    · subst huv
      rw [if_pos rfl, bl_app]
      show Op.bytesLess (0 :: 1 :: _) (0 :: 2 :: []) = true
      rw [bl_cons, bl_lt (by decide)]
    · rw [if_neg huv]
      exact esc_less 1 2 (by decide) (by decide) _ _ v u huv
  · rw [if_neg hcd]
    rcases Nat.lt_or_gt_of_ne hcd with h | h
    · rw [bl_lt (by omega), decide_eq_true h]
    · rw [bl_gt (by omega), decide_eq_false (by omega)]
theorem one_less {c d : Nat} {v : List UInt8} {s : Nat} (hc : c ≤ 5) (hd : good (d : Int) v s) : Op.bytesLess (kb d v s) [UInt8.ofNat c] = decide (d < c) := by
  have hd4 : 1 ≤ d ∧ d ≤ 4 := by have := hd.1; unfold fam at this; omega
  have ec : (UInt8.ofNat c).toNat = c := u8_ofNat_toNat _ (by omega)
  have ed : (UInt8.ofNat d).toNat = d := u8_ofNat_toNat _ (by omega)
  unfold kb
  rcases Nat.lt_trichotomy d c with h | h | h
  · rw [bl_lt (by omega), decide_eq_true h]
  · subst h; rw [bl_cons, decide_eq_false (by omega)]
    cases (E v ++ if d = 1 then [] else fl s) <;> rfl
  · rw [bl_gt (by omega), decide_eq_false (by omega)]
theorem KeyBounds : ∀ (a0_0 : Int) (a0_1 : ByteArray) (a0_2 : Int) (a1_0 : Int) (a1_1 : ByteArray) (a1_2 : Int), ((Lit.int .i64 a0_0).wf = true ∧ a0_1.size ≤ 140737488351232 ∧ (Lit.int .u64 a0_2).wf = true) → ((Lit.int .i64 a1_0).wf = true ∧ a1_1.size ≤ 140737488351232 ∧ (Lit.int .u64 a1_2).wf = true) → ∃ k, screelaw02_KeyBounds.f k a0_0 a0_1 a0_2 a1_0 a1_1 a1_2 = some true := by
  intro cf s t cg s1 t1 ⟨_, hs, ht⟩ ⟨_, hs1, ht1⟩
  obtain ⟨u, rfl⟩ := ex_lb s
  obtain ⟨v, rfl⟩ := ex_lb s1
  obtain ⟨hb0, hb1⟩ := wf_u64 ht1
  obtain ⟨m, rfl⟩ := Int.eq_ofNat_of_zero_le hb0
  refine Ev.rounds ?_
  unfold screelaw02_KeyBounds.f
  refine Ev.bind awake_ev (Ev.pos rfl ?_)
  have big : Ev (fun k => screelaw02_KeyBounds.j0 k true cf (lb u) t cg (lb v) (m : Int)) true := by
    refine Ev.step (fun k => by rw [screelaw02_KeyBounds.j0]) ?_
    exact Ev.pos rfl (Ev.now _)
  by_cases h1 : (((lb u).size : Nat) : Int) > 1024
  · exact Ev.pos h1 big
  refine Ev.neg h1 ?_
  by_cases h2 : (((lb v).size : Nat) : Int) > 1024
  · rw [decide_eq_true h2]; exact big
  rw [decide_eq_false h2]
  refine Ev.step (fun k => by rw [screelaw02_KeyBounds.j0]) ?_
  refine Ev.neg (by simp) (Ev.just (First_f cf u) (Ev.just (Behind_f cf u) (Ev.just (Family_f cf) ?_)))
  have heq : (fstr cf u).2 = (bhr cf u).2 := by unfold fstr bhr; split <;> (try split) <;> rfl
  have hne : ((fstr cf u).2 != (bhr cf u).2) = false := by rw [heq]; simp
  -- what is left: the key against the bounds
  have main : Ev (fun k => screelaw02_KeyBounds.j1 k (fstr cf u).1 (fstr cf u).2 (bhr cf u).1 (famr cf).1 (famr cf).2.1 ((fstr cf u).2 != (bhr cf u).2) cf (lb u) t cg (lb v) (m : Int)) true := by
    rw [hne]
    refine Ev.step (fun k => by rw [screelaw02_KeyBounds.j1]) ?_
    refine Ev.neg (by simp) (Ev.bind (Make_ev cg v m (by omega)) ?_)
    by_cases hf : fam cf
    case neg =>
      have e1 : fstr cf u = (lb [], 1) := by unfold fstr; rw [if_neg hf]
      have e2 : bhr cf u = (lb [], 1) := by unfold bhr; rw [if_neg hf]
      rw [e1, e2]
      exact Ev.neg (by decide) (Ev.pos (lb_toList []) (Ev.val (by rw [lb_toList]; rfl)))
    by_cases hm : mayK u = true
    case neg =>
      have e1 : fstr cf u = (lb [], 20) := by unfold fstr; rw [if_pos hf, if_neg hm]
      have e2 : bhr cf u = (lb [], 20) := by unfold bhr; rw [if_pos hf, if_neg hm]
      rw [e1, e2]
      exact Ev.neg (by decide) (Ev.pos (lb_toList []) (Ev.val (by rw [lb_toList]; rfl)))
    have e1 : fstr cf u = (lb (UInt8.ofNat cf.toNat :: E u), 0) := by unfold fstr; rw [if_pos hf, if_pos hm]
    have e2 : bhr cf u = (lb (UInt8.ofNat cf.toNat :: (esc u ++ [0, 2])), 0) := by unfold bhr; rw [if_pos hf, if_pos hm]
    have e3 : famr cf = (lb [UInt8.ofNat cf.toNat], lb [UInt8.ofNat (cf.toNat + 1)], 0) := by unfold famr; rw [if_pos hf]
    rw [e1, e2, e3]
    refine Ev.pos rfl ?_
    by_cases hg : good cg v m
    case neg => exact Ev.neg (mkr_no hg).2 (Ev.now _)
    rw [mkr_yes hg]
    refine Ev.pos rfl ?_
    obtain ⟨c, rfl, hc1, hc4⟩ := fam_nat hf
    obtain ⟨d, rfl, hd1, hd4⟩ := fam_nat hg.1
    have tc : ((c : Int)).toNat = c := by omega
    have td : ((d : Int)).toNat = d := by omega
    simp only [tc, td, lb_toList]
    have b1 := from_first (u := u) ⟨hc1, hc4⟩ hg
    have b2 := to_behind (u := u) ⟨hc1, hc4⟩ hg
    have b3 := one_less (c := c) (by omega) hg
    have b4 := one_less (c := c + 1) (by omega) hg
    rw [b1, b2, b3, b4]
    have hlast : Ev (fun _ => if decide (d < c) = true then some (false == ((d : Int) == (c : Int))) else some (decide (d < c + 1) == ((d : Int) == (c : Int)))) true := by
      by_cases h : d < c
      · refine Ev.pos (decide_eq_true h) (Ev.val ?_)
        have : ((d : Int) == (c : Int)) = false := beq_eq_false_iff_ne.mpr (by omega)
        rw [this]; rfl
      · refine Ev.neg (by simpa using h) (Ev.val ?_)
        by_cases e : d = c
        · subst e
          have : decide (d < d + 1) = true := decide_eq_true (by omega)
          rw [this]; simp
        · have h1 : ((d : Int) == (c : Int)) = false := beq_eq_false_iff_ne.mpr (by omega)
          have h2 : decide (d < c + 1) = false := decide_eq_false (by omega)
          rw [h1, h2]; rfl
    by_cases hdc : d = c
    · have hdi : (d : Int) = (c : Int) := by omega
      rw [if_pos hdc, if_pos hdc]
      by_cases hvu : v = u
      · rw [if_pos hvu, if_pos hvu]
        refine Ev.neg (by simp) (Ev.pos hdi (Ev.pos (by rw [hvu]; simp) hlast))
      · rw [if_neg hvu, if_neg hvu]
        have hb : (v == u) = false := beq_eq_false_iff_ne.mpr hvu
        by_cases hl : Op.bytesLess v u = true
        · exact Ev.pos hl (Ev.pos hdi (Ev.pos (by rw [hb]; rfl) hlast))
        · exact Ev.neg hl (Ev.pos hdi (Ev.pos (by rw [hb]; simpa using hl) hlast))
    · have hdi : ¬ (d : Int) = (c : Int) := by omega
      rw [if_neg hdc, if_neg hdc]
      by_cases hl : d < c
      · exact Ev.pos (decide_eq_true hl) (Ev.neg hdi (Ev.pos rfl hlast))
      · exact Ev.neg (by simpa using hl) (Ev.neg hdi (Ev.pos (by rw [decide_eq_false hl]; rfl) hlast))
  have hfam : (famr cf).2.2 = if fam cf then 0 else 1 := by unfold famr; split <;> rfl
  by_cases hc : cf ≥ 1
  · refine Ev.pos hc (Ev.neg ?_ main)
    rw [hfam]
    by_cases h4 : cf ≤ 4
    · rw [if_pos ⟨hc, h4⟩, decide_eq_true h4]; simp
    · rw [if_neg (fun e : fam cf => h4 e.2), decide_eq_false h4]; simp
  · refine Ev.neg hc (Ev.neg ?_ main)
    rw [hfam, if_neg (fun e : fam cf => hc e.1)]; simp
theorem KeyEscapes : ∀ (a0 : ByteArray) (a1 : ByteArray), (a0.size ≤ 140737488351232) → (a1.size ≤ 140737488351232) → ∃ k, screelaw02_KeyEscapes.f k a0 a1 = some true := by
  intro s s1 hs hs1
  obtain ⟨u, rfl⟩ := ex_lb s
  obtain ⟨v, rfl⟩ := ex_lb s1
  refine Ev.rounds ?_
  unfold screelaw02_KeyEscapes.f
  refine Ev.bind awake_ev (Ev.pos rfl ?_)
  by_cases h1 : 1024 < (lb u).size ∨ 1024 < (lb v).size
  · exact Ev.pos h1 (Ev.now _)
  refine Ev.neg h1 (Ev.just (Escape_f u) (Ev.just (Escape_f v) (Ev.val ?_)))
  unfold screelaw02_KeyEscapes.fin
  rw [lb_size]
  by_cases hm : mayK u = true
  · have hu := mayK_len hm
    rw [escr_yes hm, if_pos (by simpa using hu)]
    by_cases hn : mayK v = true
    · rw [escr_yes hn, if_neg (by simp)]
      have lu := E_len_le hu.2
      have lv := E_len_le (mayK_len hn).2
      simp only [lb_toList, lb_size, lb_extract, List.drop_zero]
      rw [if_pos]
      refine ⟨?_, by omega, by omega, ?_⟩
      · by_cases e : u = v
        · rw [e, bl_self, bl_self]
        · have := E_less u v [] [] e
          simpa using this
      · by_cases e : u = v
        · left; exact ⟨e, by rw [e]⟩
        · right
          refine ⟨e, fun h => e (E_inj h), fun h => e ?_⟩
          obtain ⟨r, q, hrq⟩ := take_both h
          exact (E_free u v r q hrq).1
    · rw [escr_no hn, if_pos (Or.inr (by decide))]
  · rw [escr_no hm, if_pos ⟨fun h => absurd h (by decide), fun h => absurd (decide_eq_true h) hm⟩, if_pos (by simp)]
theorem KeyBegins : ∀ (a0_0 : Int) (a0_1 : ByteArray) (a0_2 : Int), ((Lit.int .i64 a0_0).wf = true ∧ a0_1.size ≤ 140737488351232 ∧ (Lit.int .u64 a0_2).wf = true) → ∃ k, screelaw02_KeyBegins.f k a0_0 a0_1 a0_2 = some true := by
  intro cf s t ⟨_, hs, ht⟩
  obtain ⟨u, rfl⟩ := ex_lb s
  obtain ⟨ht0, ht1⟩ := wf_u64 ht
  obtain ⟨n, rfl⟩ := Int.eq_ofNat_of_zero_le ht0
  refine Ev.rounds ?_
  unfold screelaw02_KeyBegins.f
  refine Ev.bind awake_ev (Ev.pos rfl ?_)
  by_cases h1 : (((lb u).size : Nat) : Int) > 1024
  · exact Ev.pos h1 (Ev.now _)
  refine Ev.neg h1 (Ev.bind (Make_ev cf u n (by omega)) (Ev.just (First_f cf u) ?_))
  by_cases hg : good cf u n
  · rw [mkr_yes hg]
    have e1 : fstr cf u = (lb (UInt8.ofNat cf.toNat :: E u), 0) := by unfold fstr; rw [if_pos hg.1, if_pos hg.2.1]
    rw [e1]
    obtain ⟨c, rfl, hc1, hc4⟩ := fam_nat hg.1
    have tc : ((c : Int)).toNat = c := by omega
    have hE := E_len_le (mayK_len hg.2.1).2
    simp only [tc, lb_toList, lb_size, Int.toNat_natCast, lb_extract, List.drop_zero]
    have hl : (kb c u n).length = (UInt8.ofNat c :: E u).length + (if c = 1 then 0 else 8) := by
      unfold kb
      by_cases h : c = 1
      · rw [if_pos h, if_pos h]; simp
      · rw [if_neg h, if_neg h]; simp [fl_len]
    have htk : (kb c u n).take (UInt8.ofNat c :: E u).length = UInt8.ofNat c :: E u := by
      unfold kb
      rw [← List.cons_append]
      exact List.take_left
    have hl1 : (UInt8.ofNat c :: E u).length = (E u).length + 1 := by simp
    refine Ev.pos trivial ?_
    by_cases h : c = 1
    · rw [if_pos h] at hl
      refine Ev.pos (by omega) (Ev.pos trivial (Ev.pos ?_ (Ev.pos (by omega) (Ev.pos (by omega) (Ev.val ?_)))))
      · rw [w64 _ (by omega) (by omega)]; omega
      · rw [htk]; simp
    · rw [if_neg h] at hl
      refine Ev.neg (by omega) (Ev.pos trivial (Ev.pos ?_ (Ev.pos (by omega) (Ev.pos (by omega) (Ev.val ?_)))))
      · rw [w64 _ (by omega) (by omega)]; omega
      · rw [htk]; simp
  · have hno := mkr_no hg
    refine Ev.neg hno.2 (Ev.pos (by rw [hno.1, lb_toList]) ?_)
    by_cases hz : (fstr cf u).2 = 0
    · refine Ev.pos hz (Ev.val ?_)
      have hf : fam cf := by
        by_cases h : fam cf
        · exact h
        · unfold fstr at hz; rw [if_neg h] at hz; exact absurd hz (by decide)
      have hm : mayK u = true := by
        by_cases h : mayK u = true
        · exact h
        · unfold fstr at hz; rw [if_pos hf, if_neg h] at hz; exact absurd hz (by decide)
      unfold mkr
      rw [if_neg hg, if_neg (by simpa using hf), if_neg (by simpa using hm)]
      rfl
    · exact Ev.neg hz (Ev.now _)
end Go.Proofs.Ytachminlgcndnaa.KeyS
