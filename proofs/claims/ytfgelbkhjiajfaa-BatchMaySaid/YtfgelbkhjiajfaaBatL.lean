/- batch: the laws that have no reference. -/
import Derived.Test.YtfgelbkhjiajfaaBat3
set_option linter.unusedVariables false
set_option linter.unusedSimpArgs false
namespace Go.Proofs.Ytfgelbkhjiajfaa.BatS
open Go.RowKit Go.Proofs.Ytfgelbkhjiajfaa.P Go.Proofs.Ytfgelbkhjiajfaa.Th Go.Proofs.Ytfgelbkhjiajfaa.NumS Go.Proofs.YtfgelbkhjiajfaaW.PrintWords Go.Proofs.YtfgelbkhjiajfaaW.PrintLast Go.Proofs.YtfgelbkhjiajfaaW.PrintMore

theorem len_of {l : List OS} (h : l.length * 40 ≤ 140737488351232) : l.length < 4611686018427387904 := by omega
theorem BatchBack : ∀ (a0 : Int) (l1 : List OS) (a2 : ByteArray), ((Lit.int .u64 a0).wf = true) → (((∀ x ∈ l1, (True ∧ x.f1.size ≤ 140737488351232 ∧ x.f2.size ≤ 140737488351232)) ∧ l1.length * 40 ≤ 140737488351232)) → (a2.size ≤ 140737488351232) → ∃ k, screelaw05_BatchBack.f k a0 l1 a2 = some true := by
  intro a l s _ ⟨_, hl⟩ hs
  obtain ⟨t, rfl⟩ := ex_lb s
  rw [lb_size] at hs
  have hL := len_of hl
  refine Ev.rounds ?_
  unfold screelaw05_BatchBack.f
  refine Ev.bind awake_ev (Ev.pos rfl (Ev.bind (large_ev l) ?_))
  have big : Ev (fun k => screelaw05_BatchBack.j0 k a l (lb t) true) true := by
    refine Ev.step (fun k => by rw [screelaw05_BatchBack.j0]) ?_
    exact Ev.pos rfl (Ev.val rfl)
  cases hg : lrg l with
  | true => exact Ev.pos rfl big
  | false =>
    refine Ev.neg (by simp) ?_
    by_cases h1 : ((lb t).size : Int) > 8192
    · rw [decide_eq_true h1]; exact big
    rw [decide_eq_false h1]
    rw [lb_size] at h1
    have e1 : Ev (fun k => screelaw05_BatchBack.j1 k (lb t)) true := by
      refine Ev.step (fun k => by rw [screelaw05_BatchBack.j1]) ?_
      refine Ev.bind (Decode_ev t hs) ?_
      rcases decr_cases t with e | ⟨b, m, h3, h4, h5, e⟩
      · rw [e]
        exact Ev.neg (by simp [noB]) (Ev.pos rfl (Ev.val (by simp [noB])))
      · rw [e]
        have e2 := Encode_ev b m (by have := mayB_len h3; omega)
        rw [encr_yes h3 h4] at e2
        refine Ev.pos rfl (Ev.bind e2 (Ev.pos rfl (Ev.pos (by simp only; rw [h5]) (Ev.just (May_f m (by have := mayB_len h3; omega)) (Ev.val ?_)))))
        rw [h3]
    refine Ev.step (fun k => by rw [screelaw05_BatchBack.j0]) ?_
    refine Ev.neg (by simp) (Ev.bind (Encode_ev a l hL) ?_)
    rcases encr_cases a l with ⟨h3, h4, e⟩ | ⟨_, c, hc, e⟩
    · rw [e]
      have e2 := Decode_ev (enc a l) (by have := enc_len h3 (numB_u h4 (mayB_len h3).1); omega)
      rw [decr_enc h3 h4] at e2
      refine Ev.pos rfl (Ev.bind e2 (Ev.pos rfl (Ev.pos rfl (Ev.bind (Same_self l (by have := mayB_len h3; omega)) (Ev.pos rfl e1)))))
    · rw [e]
      exact Ev.neg (by simp only; omega) (Ev.pos (lb_toList []) e1)
theorem BatchMay : ∀ (l0 : List OS), (((∀ x ∈ l0, (True ∧ x.f1.size ≤ 140737488351232 ∧ x.f2.size ≤ 140737488351232)) ∧ l0.length * 40 ≤ 140737488351232)) → ∃ k, screelaw05_BatchMay.f k l0 = some true := by
  intro l ⟨_, hl⟩
  have hL := len_of hl
  refine Ev.rounds ?_
  unfold screelaw05_BatchMay.f
  refine Ev.bind awake_ev (Ev.pos rfl (Ev.bind (large_ev l) ?_))
  cases hg : lrg l with
  | true => exact Ev.pos rfl (Ev.val rfl)
  | false =>
    have h40 := (lrg_no hg).1
    refine Ev.neg (by simp) ?_
    have fin : ∀ (b : Bool), b = mayB l → Ev (fun k => screelaw05_BatchMay.l0 k l b (l.length : Int) (l.length : Int)) true := by
      intro b hb
      refine Ev.step (fun k => by rw [screelaw05_BatchMay.l0]) ?_
      refine Ev.neg (by omega) (Ev.bind (Encode_ev 1 l hL) (Ev.just (May_f l hL) ?_))
      refine Ev.pos (by rw [hb]; simp) (Ev.val ?_)
      rcases encr_cases 1 l with ⟨h3, h4, e⟩ | ⟨h3, c, hc, e⟩
      · rw [e, hb, h3]; rfl
      · rw [e, hb]
        have : mayB l = false := by
          rw [Bool.eq_false_iff]
          intro h5
          apply h3
          refine ⟨h5, ?_⟩
          have := mayB_len h5
          exact decide_eq_true ⟨by omega, by omega⟩
        rw [this]
        have h6 : (c == 0) = false := by rw [beq_eq_false_iff_ne]; omega
        simp [h6]
    have loop : ∀ (n i : Nat) (b : Bool), i + n = l.length → b = (decide (1 ≤ l.length ∧ l.length ≤ 16) && (l.take i).all okO) → Ev (fun k => screelaw05_BatchMay.l0 k l b (l.length : Int) (i : Int)) true := by
      intro n
      induction n with
      | zero =>
        intro i b hi hb
        obtain rfl : i = l.length := by omega
        refine fin b ?_
        rw [hb, List.take_length]; rfl
      | succ n ih =>
        intro i b hi hb
        have h1 : i < l.length := by omega
        have e1 : wrap64 ((i : Int) + 1) = ((i + 1 : Nat) : Int) := by rw [w64 _ (by omega) (by omega)]; omega
        have et : l.take (i + 1) = l.take i ++ [l[i]] := by rw [List.take_succ_eq_append_getElem h1]
        refine Ev.step (fun k => by rw [screelaw05_BatchMay.l0]) ?_
        refine Ev.pos (by omega) ?_
        rw [e1]
        cases b with
        | false =>
          refine Ev.neg (by simp) (ih (i + 1) false (by omega) ?_)
          rw [et, List.all_append, ← Bool.and_assoc, ← hb]; rfl
        | true =>
          refine Ev.pos rfl (Ev.pos (by omega) (Ev.pos (by omega) (Ev.pos (by omega) ?_)))
          have e2 : (l.take (((i + 1 : Nat) : Int)).toNat).drop ((i : Int)).toNat = [l[i]] := by
            rw [Int.toNat_natCast, Int.toNat_natCast, et, List.drop_append_of_le_length (by simp; omega)]
            rw [List.drop_eq_nil_of_le (by simp; omega)]; rfl
          rw [e2]
          refine Ev.just (May_f [l[i]] (by simp)) (ih (i + 1) _ (by omega) ?_)
          rw [et, List.all_append, ← Bool.and_assoc, ← hb]
          simp [mayB]
    by_cases h1 : (l.length : Int) > 0
    · refine Ev.pos h1 ?_
      refine Ev.step (fun k => by rw [screelaw05_BatchMay.j0]) ?_
      refine loop l.length 0 _ (by omega) ?_
      rw [Bool.eq_iff_iff]
      simp
      omega
    · refine Ev.neg h1 ?_
      refine Ev.step (fun k => by rw [screelaw05_BatchMay.j0]) ?_
      refine loop l.length 0 _ (by omega) ?_
      symm
      rw [Bool.and_eq_false_iff]
      left
      rw [decide_eq_false_iff_not]
      omega
theorem BatchNumbers : ∀ (a0 : Int) (l1 : List OS), ((Lit.int .u64 a0).wf = true) → (((∀ x ∈ l1, (True ∧ x.f1.size ≤ 140737488351232 ∧ x.f2.size ≤ 140737488351232)) ∧ l1.length * 40 ≤ 140737488351232)) → ∃ k, screelaw05_BatchNumbers.f k a0 l1 = some true := by
  intro a l ha ⟨_, hl⟩
  have hL := len_of hl
  have hu := wf_u64 ha
  refine Ev.rounds ?_
  unfold screelaw05_BatchNumbers.f
  refine Ev.bind awake_ev (Ev.pos rfl (Ev.bind (large_ev l) ?_))
  cases hg : lrg l with
  | true => exact Ev.pos rfl (Ev.val rfl)
  | false =>
    have h40 := (lrg_no hg).1
    refine Ev.neg (by simp) (Ev.bind (Encode_ev a l hL) (Ev.bind (Entries_ev a l (by omega)) (Ev.pos (by rw [ents_len]) ?_)))
    rw [ents_len]
    have hok : (encr a l).2 = 0 → ∀ j, j < l.length → ¬ (ent a j Y[0]).f1 < 1 ∧ ¬ (ent a j Y[0]).f1 > 1099511627776 := by
      intro h0 j hj
      rcases encr_cases a l with ⟨h3, h4, e⟩ | ⟨h3, c, hc, e⟩
      · have h5 := of_decide_eq_true h4
        have h6 : (ent a j Y[0]).f1 = a + j := wu_in _ (by omega) (by omega)
        rw [h6]; omega
      · rw [e] at h0; simp only at h0; omega
    have loop : ∀ (n i : Nat), i + n = l.length → Ev (fun k => screelaw05_BatchNumbers.l0 k a l (encr a l).2 (ents a 0 l) (l.length : Int) (i : Int)) true := by
      intro n
      induction n with
      | zero =>
        intro i hi
        refine Ev.step (fun k => by rw [screelaw05_BatchNumbers.l0]) ?_
        exact Ev.neg (by omega) (Ev.val rfl)
      | succ n ih =>
        intro i hi
        have h1 : i < l.length := by omega
        have e1 : wrap64 ((i : Int) + 1) = ((i + 1 : Nat) : Int) := by rw [w64 _ (by omega) (by omega)]; omega
        refine Ev.step (fun k => by rw [screelaw05_BatchNumbers.l0]) ?_
        refine Ev.pos (by omega) (Ev.pos (by omega) (Ev.pos (by rw [ents_len]; omega) ?_))
        rw [rdE h1, rdO h1, wu_nat i (by omega), e1]
        refine Ev.pos rfl (Ev.pos (by omega) (Ev.pos rfl (Ev.neg (by simp [ent]) (Ev.pos rfl ?_))))
        by_cases h0 : (encr a l).2 = 0
        · have h2 := hok h0 i h1
          refine Ev.pos h0 (Ev.neg h2.1 (Ev.neg h2.2 (ih (i + 1) (by omega))))
        · exact Ev.neg h0 (ih (i + 1) (by omega))
    exact loop l.length 0 (by omega)
theorem BatchApart : ∀ (a0 : Int) (a1 : Int) (l2 : List OS) (l3 : List OS), ((Lit.int .u64 a0).wf = true) → ((Lit.int .u64 a1).wf = true) → (((∀ x ∈ l2, (True ∧ x.f1.size ≤ 140737488351232 ∧ x.f2.size ≤ 140737488351232)) ∧ l2.length * 40 ≤ 140737488351232)) → (((∀ x ∈ l3, (True ∧ x.f1.size ≤ 140737488351232 ∧ x.f2.size ≤ 140737488351232)) ∧ l3.length * 40 ≤ 140737488351232)) → ∃ k, screelaw05_BatchApart.f k a0 a1 l2 l3 = some true := by
  intro a b l m _ _ ⟨_, hl⟩ ⟨_, hm⟩
  have hL := len_of hl
  have hM := len_of hm
  refine Ev.rounds ?_
  unfold screelaw05_BatchApart.f
  refine Ev.bind awake_ev (Ev.pos rfl (Ev.bind (large_ev l) ?_))
  have big : Ev (fun k => screelaw05_BatchApart.j0 k a b l m true) true := by
    refine Ev.step (fun k => by rw [screelaw05_BatchApart.j0]) ?_
    exact Ev.pos rfl (Ev.val rfl)
  cases hg : lrg l with
  | true => exact Ev.pos rfl big
  | false =>
    refine Ev.neg (by simp) (Ev.bind (large_ev m) ?_)
    cases hg2 : lrg m with
    | true => exact big
    | false =>
      refine Ev.step (fun k => by rw [screelaw05_BatchApart.j0]) ?_
      refine Ev.neg (by simp) (Ev.bind (Encode_ev a l hL) (Ev.bind (Encode_ev b m hM) ?_))
      rcases encr_cases a l with ⟨h1, h2, e1⟩ | ⟨_, c, hc, e1⟩
      · rcases encr_cases b m with ⟨h3, h4, e2⟩ | ⟨_, c, hc, e2⟩
        · rw [e1, e2]
          refine Ev.pos rfl (Ev.pos rfl ?_)
          simp only [lb_size, mn_nat]
          have p1 : 1 ≤ (enc a l).length := by
            unfold enc; rw [List.length_append]; have := short_pos a.toNat; unfold sh; omega
          have p2 : 1 ≤ (enc b m).length := by
            unfold enc; rw [List.length_append]; have := short_pos b.toNat; unfold sh; omega
          refine Ev.pos (by omega) (Ev.pos (by omega) (Ev.pos (by omega) (Ev.pos (by omega) ?_)))
          rw [Int.toNat_natCast, lb_extract, lb_extract, lb_toList, lb_toList, List.drop_zero, List.drop_zero]
          have key : ((enc a l).take (min (enc a l).length (enc b m).length) == (enc b m).take (min (enc a l).length (enc b m).length)) = true ↔ a = b ∧ l = m := by
            rw [beq_iff_eq]
            constructor
            · intro h
              obtain ⟨r, t, h5⟩ := take_both h
              have h6 := enc_free h1 h2 h3 h4 h5
              exact ⟨h6.1, h6.2.1⟩
            · rintro ⟨rfl, rfl⟩; rfl
          by_cases hab : a = b
          · refine Ev.pos hab (Ev.bind (Same_ev l m (by have := mayB_len h1; omega)) (Ev.val ?_))
            congr 1
            rw [beq_iff_eq, Bool.eq_iff_iff, key, sms_iff]
            simp [hab]
          · refine Ev.neg hab (Ev.val ?_)
            congr 1
            rw [beq_iff_eq, Bool.eq_false_iff]
            intro h
            exact hab (key.1 h).1
        · rw [e1, e2]
          exact Ev.pos rfl (Ev.neg (by simp only; omega) (Ev.val rfl))
      · rw [e1]
        exact Ev.neg (by simp only; omega) (Ev.val rfl)
theorem decr_less {a : Int} {l : List OS} {n : Nat} (h1 : mayB l = true) (h2 : numB a l.length = true) (hn : n < (enc a l).length) : decr ((enc a l).take n) = noB := by
  rcases decr_cases ((enc a l).take n) with h | ⟨b, m, h3, h4, h5, _⟩
  · exact h
  · exfalso
    have e1 := List.take_append_drop n (enc a l)
    rw [h5] at e1
    have := enc_free (r := (enc a l).drop n) (t := []) h3 h4 h1 h2 (by rw [List.append_nil]; exact e1)
    have e2 := congrArg List.length this.2.2
    rw [List.length_drop] at e2
    simp at e2
    omega
theorem BatchCuts : ∀ (a0 : Int) (l1 : List OS) (a2 : Int) (a3 : ByteArray), ((Lit.int .u64 a0).wf = true) → (((∀ x ∈ l1, (True ∧ x.f1.size ≤ 140737488351232 ∧ x.f2.size ≤ 140737488351232)) ∧ l1.length * 40 ≤ 140737488351232)) → ((Lit.int .u16 a2).wf = true) → (a3.size ≤ 140737488351232) → ∃ k, screelaw05_BatchCuts.f k a0 l1 a2 a3 = some true := by
  intro a l c s _ ⟨_, hl⟩ hc hs
  obtain ⟨t, rfl⟩ := ex_lb s
  rw [lb_size] at hs
  have hL := len_of hl
  have hc2 := wf_u16 hc
  refine Ev.rounds ?_
  unfold screelaw05_BatchCuts.f
  refine Ev.bind awake_ev (Ev.pos rfl (Ev.bind (large_ev l) ?_))
  have big : Ev (fun k => screelaw05_BatchCuts.j0 k a l c (lb t) true) true := by
    refine Ev.step (fun k => by rw [screelaw05_BatchCuts.j0]) ?_
    exact Ev.pos rfl (Ev.val rfl)
  cases hg : lrg l with
  | true => exact Ev.pos rfl big
  | false =>
    refine Ev.neg (by simp) ?_
    by_cases h1 : ((lb t).size : Int) > 300
    · rw [decide_eq_true h1]; exact big
    rw [decide_eq_false h1]
    rw [lb_size] at h1
    refine Ev.step (fun k => by rw [screelaw05_BatchCuts.j0]) ?_
    refine Ev.neg (by simp) (Ev.bind (Encode_ev a l hL) ?_)
    rcases encr_cases a l with ⟨h3, h4, e⟩ | ⟨_, d, hd, e⟩
    · rw [e]
      have hlen := enc_len h3 (numB_u h4 (mayB_len h3).1)
      have p1 : 1 ≤ (enc a l).length := by
        unfold enc; rw [List.length_append]; have := short_pos a.toNat; unfold sh; omega
      obtain ⟨d, rfl⟩ := Int.eq_ofNat_of_zero_le hc2.1
      simp only [lb_size]
      rw [w64 (d : Int) (by omega) (by omega)]
      have em : Int.tmod (d : Int) ((enc a l).length : Int) = ((d % (enc a l).length : Nat) : Int) := by
        rw [Int.tmod_eq_emod_of_nonneg (by omega)]; omega
      have hlt : d % (enc a l).length < (enc a l).length := Nat.mod_lt _ (by omega)
      rw [em]
      refine Ev.pos trivial (Ev.neg (by omega) (Ev.pos (by omega) (Ev.pos (by omega) ?_)))
      rw [Int.toNat_natCast, lb_extract, List.drop_zero, lb_append]
      have e2 := Decode_ev ((enc a l).take (d % (enc a l).length)) (by rw [List.length_take]; omega)
      rw [decr_less h3 h4 hlt] at e2
      refine Ev.bind e2 (Ev.pos (by omega) ?_)
      refine Ev.bind (Decode_ev (enc a l ++ t) (by rw [List.length_append]; omega)) ?_
      refine Ev.pos rfl (Ev.val ?_)
      rw [lb_toList]
      by_cases ht : t = []
      · subst ht
        rw [List.append_nil, decr_enc h3 h4]; rfl
      · rw [decr_more h3 h4 ht]
        have : (t != []) = true := bne_iff_ne.mpr ht
        rw [this]; rfl
    · rw [e]
      exact Ev.neg (by simp only; omega) (Ev.val rfl)
end Go.Proofs.Ytfgelbkhjiajfaa.BatS
