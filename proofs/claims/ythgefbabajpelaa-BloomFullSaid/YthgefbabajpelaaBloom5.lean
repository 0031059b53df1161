/- What is fixed of bloom; its laws but for two. -/
import Derived.Test.YthgefbabajpelaaBloom4
set_option linter.unusedVariables false
set_option linter.unusedSimpArgs false
namespace Go.Proofs.Ythgefbabajpelaa.BloomS
open Go.RowKit Go.Proofs.Ythgefbabajpelaa.P Go.Proofs.Ythgefbabajpelaa.Th Go.Proofs.YthgefbabajpelaaW.PrintWords Go.Proofs.YthgefbabajpelaaW.PrintLast Go.Proofs.YthgefbabajpelaaW.PrintMore

theorem large_ev (ks : List (List UInt8)) (hl : ks.length ≤ 17592186044416) (hk : ∀ l ∈ ks, l.length ≤ 140737488351232) : ∃ b : Bool, Ev (fun k => screelaw10_large.f k (ks.map lb)) b ∧
    (b = false → (ks.length ≤ 60 ∨ 1000 < ks.length) ∧ (ks.length ≤ 1000 → ∀ l ∈ ks, l.length ≤ 300)) := by
  obtain ⟨b, hb, hb2⟩ := large_l0 ks [] (by simpa using hl) hk
  by_cases h60 : ks.length > 60
  · by_cases h1000 : ks.length ≤ 1000
    · refine ⟨true, ?_, by simp⟩
      unfold screelaw10_large.f
      refine Ev.pos (by simp; omega) (Ev.step (fun k => by rw [screelaw10_large.j0]) ?_)
      exact Ev.pos (by simp; omega) (Ev.now _)
    · refine ⟨b, ?_, fun h => ⟨by omega, fun h' => by omega⟩⟩
      unfold screelaw10_large.f
      refine Ev.pos (by simp; omega) (Ev.step (fun k => by rw [screelaw10_large.j0]) ?_)
      exact Ev.neg (by simp; omega) hb
  · refine ⟨b, ?_, fun h => ⟨by omega, fun h' => hb2 h (by simp; omega)⟩⟩
    unfold screelaw10_large.f
    refine Ev.neg (by simp; omega) (Ev.step (fun k => by rw [screelaw10_large.j0]) ?_)
    exact Ev.neg (by simp) hb

/-- Of each key of which a filter is made it is told that it may be. -/
theorem may_of_mem (ks : List (List UInt8)) (hl : ks.length ≤ 1000) (l : List UInt8) (h : l ∈ ks) : mayS (filt (ks.length + 1) (places ks (8 * ((ks.length : Int) + 1)))) l = true := by
  have en : (8 * ((ks.length : Int) + 1)) = 8 * ((ks.length + 1 : Nat) : Int) := by omega
  rw [en]
  have hpl := places_in ks (8 * ((ks.length + 1 : Nat) : Int)) (by omega)
  unfold mayS
  rw [filt_len _ _ hpl, List.all_eq_true]
  intro p hp
  have hr := bitsOf_in l (8 * ((ks.length + 1 : Nat) : Int)) (by omega) p hp
  rw [filt_bit _ _ hpl, decide_eq_true_eq]
  have : ((p.toNat : Nat) : Int) = p := by omega
  rw [this]
  exact List.mem_flatMap.2 ⟨l, h, hp⟩
theorem may_zero (l : List UInt8) : mayS [0] l = false := by
  unfold mayS
  have hlen := bitsOf_len l 8 (by decide)
  have e : (8 * (([(0 : UInt8)].length : Nat) : Int)) = 8 := by decide
  rw [e]
  cases hb : bitsOf l 8 with
  | nil => rw [hb] at hlen; simp at hlen
  | cons p r =>
    rw [List.all_cons]
    have : bitN [0] p.toNat = false := bitN_zero 1 p.toNat
    rw [this]; rfl
theorem awake_ev : Ev (fun k => screelaw10_awake.f k) true := by
  have hM : Ev (fun k => bloom_Make.f k [(⟨#[97]⟩ : ByteArray), (⟨#[98]⟩ : ByteArray)]) (makeS [[97], [98]]) := Make_ev [[97], [98]] (fun _ l hl => by simp at hl; rcases hl with rfl | rfl <;> simp)
  have hE : Ev (fun k => bloom_Make.f k ([] : List ByteArray)) (makeS []) := Make_ev [] (fun _ l hl => by simp at hl)
  have hG : Ev (fun k => bloom_Make.f k (List.replicate 1001 (⟨#[]⟩ : ByteArray))) (makeS (List.replicate 1001 [])) := by
    have := Make_ev (List.replicate 1001 []) (fun h => absurd h (by rw [List.length_replicate]; omega))
    rw [List.map_replicate] at this
    exact this
  have mE : makeS [] = (lb [0], 0) := by unfold makeS; rw [if_neg (by decide)]; rfl
  have mG : makeS (List.replicate 1001 []) = (lb [], 4) := by unfold makeS; rw [if_pos (by rw [List.length_replicate]; omega)]
  have mM : makeS [[97], [98]] = (lb (filt 3 (places [[97], [98]] 24)), 0) := by unfold makeS; rw [if_neg (by decide)]; rfl
  have hpl := places_in [[97], [98]] 24 (by decide)
  have hlen : (filt 3 (places [[97], [98]] 24)).length = 3 := filt_len 3 _ (by simpa using hpl)
  have ma : mayS (filt 3 (places [[97], [98]] 24)) [97] = true := may_of_mem [[97], [98]] (by decide) [97] (by simp)
  have mb : mayS (filt 3 (places [[97], [98]] 24)) [98] = true := may_of_mem [[97], [98]] (by decide) [98] (by simp)
  have x0 : mix [] = 14695981039346656037 := rfl
  have xa : mix [97] = 12638187200555641996 := by decide +kernel
  have c4 : cnt [7, 128] = 4 := by decide +kernel
  have m0 : mayS [] [97] = true := by unfold mayS bitsOf; simp
  unfold screelaw10_awake.f
  refine Ev.bind hM (Ev.bind hE (Ev.pos (by decide) (Ev.bind hG ?_)))
  rw [mE, mG, mM]
  refine Ev.bind (Mix_ev [] (by simp)) (Ev.pos x0 (Ev.bind (Mix_ev [97] (by simp)) (Ev.pos xa ?_)))
  refine Ev.pos (by rw [lb_size, hlen]; rfl) (Ev.pos rfl ?_)
  refine Ev.bind (May_ev _ [97] (by simp) (by rw [hlen]; decide)) (Ev.pos ma ?_)
  refine Ev.bind (May_ev _ [98] (by simp) (by rw [hlen]; decide)) (Ev.pos mb ?_)
  refine Ev.pos (by rw [lb_toList]) ?_
  refine Ev.bind (May_ev [0] [97] (by simp) (by simp)) (Ev.neg (by rw [may_zero]; simp) ?_)
  refine Ev.bind (May_ev [] [97] (by simp) (by simp)) (Ev.pos m0 (Ev.pos rfl ?_))
  refine Ev.bind (Bits_ev [97] 10 (by simp) (by decide)) (Ev.pos (by rw [bitsOf_len _ _ (by decide)]; rfl) ?_)
  refine Ev.bind (Full_ev [7, 128] (by simp)) (Ev.pos (by rw [c4]; rfl) (Ev.now _))

theorem makeS_same (ks : List (List UInt8)) : (makeS ks).1.toList = (makeS ks).1.toList := rfl
theorem tells_l0 (b : List Int) (hb : b.length ≤ 4) : ∀ (d i : Nat), i + d = b.length → Ev (fun k => screelaw10_BloomTells.l0 k b b (b.length : Int) (i : Int)) true := by
  intro d
  induction d with
  | zero =>
    intro i hi
    refine Ev.step (fun k => by rw [screelaw10_BloomTells.l0]) ?_
    exact Ev.neg (by omega) (Ev.now _)
  | succ d ih =>
    intro i hi
    have e2 : wrap64 ((i : Int) + 1) = ((i + 1 : Nat) : Int) := by rw [w64 _ (by omega) (by omega)]; omega
    refine Ev.step (fun k => by rw [screelaw10_BloomTells.l0]) ?_
    rw [e2]
    exact Ev.pos (by omega) (Ev.pos (by omega) (Ev.pos (by omega) (Ev.pos (by omega) (Ev.pos rfl (ih (i + 1) (by omega))))))
theorem BloomTells : ∀ (l0 : List ByteArray) (a1 : ByteArray) (a2 : ByteArray) (a3 : Int), (((∀ x ∈ l0, x.size ≤ 140737488351232) ∧ l0.length * 16 ≤ 140737488351232)) → (a1.size ≤ 140737488351232) → (a2.size ≤ 140737488351232) → ((Lit.int .i64 a3).wf = true) → ∃ k, screelaw10_BloomTells.f k l0 a1 a2 a3 = some true := by
  intro l0 a1 a2 n ⟨hks, hlen⟩ h1 h2 w3
  obtain ⟨n0, n1⟩ := wf_i64 w3
  obtain ⟨ks, rfl⟩ := ex_map l0
  obtain ⟨F, rfl⟩ := ex_lb a1
  obtain ⟨key, rfl⟩ := ex_lb a2
  rw [lb_size] at h1 h2
  rw [List.length_map] at hlen
  have hk : ∀ l ∈ ks, l.length ≤ 140737488351232 := fun l hl => by have := hks (lb l) (List.mem_map.2 ⟨l, hl, rfl⟩); rwa [lb_size] at this
  obtain ⟨b, hb, _⟩ := large_ev ks (by omega) hk
  have htrue : Ev (fun k => screelaw10_BloomTells.j0 k (ks.map lb) (lb F) (lb key) n true) true := by
    refine Ev.step (fun k => by rw [screelaw10_BloomTells.j0]) ?_
    exact Ev.pos rfl (Ev.now _)
  have hfalse : Ev (fun k => screelaw10_BloomTells.j0 k (ks.map lb) (lb F) (lb key) n false) true := by
    refine Ev.step (fun k => by rw [screelaw10_BloomTells.j0]) ?_
    refine Ev.neg (by simp) (Ev.bind (Make_ev ks (fun _ => hk)) (Ev.bind (RMake_ev ks (fun _ => hk)) ?_))
    refine Ev.pos rfl (Ev.pos rfl (Ev.bind (Mix_ev key h2) (Ev.bind (RMix_ev key h2) (Ev.pos rfl ?_))))
    refine Ev.bind (May_ev F key h2 h1) (Ev.bind (RMay_ev F key h2 h1) (Ev.neg (by simp) ?_))
    refine Ev.bind (Full_ev F h1) (Ev.bind (RFull_ev F h1) ?_)
    refine Ev.step (fun k => by rw [screelaw10_BloomTells.j1]) ?_
    refine Ev.neg (by simp) (Ev.bind (Bits_ev key n h2 (by omega)) (Ev.bind (RBits_ev key n h2 (by omega)) (Ev.pos rfl ?_)))
    exact tells_l0 (bitsOf key n) (bitsOf_less key n) (bitsOf key n).length 0 (by omega)
  refine Ev.rounds ?_
  unfold screelaw10_BloomTells.f
  refine Ev.bind awake_ev (Ev.pos rfl (Ev.bind hb ?_))
  cases b with
  | true => exact Ev.pos rfl htrue
  | false =>
    refine Ev.neg (by simp) ?_
    by_cases g1 : (((lb F).size : Nat) : Int) > 200
    · exact Ev.pos g1 htrue
    · refine Ev.neg g1 ?_
      by_cases g2 : (((lb key).size : Nat) : Int) > 300
      · rw [decide_eq_true g2]; exact htrue
      · rw [decide_eq_false g2]; exact hfalse

/-! ### counting -/
theorem cntP_or_le (f : Nat → Bool) (a : Nat) : ∀ d, cntP (fun q => f q || decide (q = a)) d ≤ cntP f d + (if a < d then 1 else 0)
  | 0 => by simp [cntP]
  | d + 1 => by
    have := cntP_or_le f a d
    unfold cntP
    by_cases h : d = a
    · subst h
      rw [if_neg (by omega)] at this
      rw [if_pos (by omega)]
      unfold b2n; split <;> split <;> omega
    · have e : (f d || decide (d = a)) = f d := by simp [h]
      rw [e]
      by_cases h2 : a < d
      · rw [if_pos h2] at this; rw [if_pos (by omega)]; omega
      · rw [if_neg h2] at this; rw [if_neg (by omega)]; omega
theorem cntP_mem_le : ∀ (ps : List Int) (d : Nat), (∀ p ∈ ps, 0 ≤ p) → cntP (fun q => decide ((q : Int) ∈ ps)) d ≤ ps.length
  | [], d, _ => by
    have : ∀ d, cntP (fun q => decide ((q : Int) ∈ ([] : List Int))) d = 0 := by
      intro d
      induction d with
      | zero => rfl
      | succ d ih => rw [cntP, ih]; simp [b2n]
    rw [this]; simp
  | p :: ps, d, h => by
    have h0 := h p (by simp)
    have ih := cntP_mem_le ps d (fun x hx => h x (by simp [hx]))
    have e : cntP (fun q => decide ((q : Int) ∈ p :: ps)) d = cntP (fun q => decide ((q : Int) ∈ ps) || decide (q = p.toNat)) d := by
      apply cntP_congr
      intro q _
      rw [Bool.eq_iff_iff, Bool.or_eq_true, decide_eq_true_eq, decide_eq_true_eq, decide_eq_true_eq, List.mem_cons]
      constructor
      · rintro (h | h)
        · right; omega
        · exact .inl h
      · rintro (h | h)
        · exact .inr h
        · left; omega
    rw [e]
    have := cntP_or_le (fun q => decide ((q : Int) ∈ ps)) p.toNat d
    rw [List.length_cons]
    split at this <;> omega
theorem cntP_pos (f : Nat → Bool) : ∀ d q, q < d → f q = true → 0 < cntP f d
  | 0, q, h, _ => by omega
  | d + 1, q, h, hf => by
    unfold cntP
    rcases Nat.lt_or_ge q d with h1 | h1
    · have := cntP_pos f d q h1 hf; omega
    · have : q = d := by omega
      subst this; rw [hf]; simp [b2n]
theorem places_len (ks : List (List UInt8)) (n : Int) (h : 1 ≤ n) : (places ks n).length = 4 * ks.length := by
  induction ks with
  | nil => rfl
  | cons l ks ih =>
    unfold places at *
    rw [List.flatMap_cons, List.length_append, ih, bitsOf_len l n h, List.length_cons]; omega
theorem cnt_filt (m : Nat) (ps : List Int) (h : ∀ p ∈ ps, 0 ≤ p ∧ p < 8 * (m : Int)) : cnt (filt m ps) = cntP (fun q => decide ((q : Int) ∈ ps)) (8 * m) := by
  unfold cnt
  rw [filt_len m ps h]
  exact cntP_congr _ fun q _ => filt_bit m ps h q
theorem has_l0 (ks all : List (List UInt8)) (F : List UInt8) (hF : F.length ≤ 140737488351232) (hall : all.length ≤ 1000) (hk : ∀ l ∈ all, l.length ≤ 140737488351232) (hm : ∀ l ∈ all, mayS F l = true) (hc : cnt F ≤ 4 * all.length) (hz : all.length = 0 ↔ cnt F = 0) :
    ∀ (d i : Nat), i + d = all.length → Ev (fun k => screelaw10_BloomHas.l0 k (all.map lb) (lb F) (((all.map lb).length : Nat) : Int) (i : Int)) true := by
  intro d
  induction d with
  | zero =>
    intro i hi
    refine Ev.step (fun k => by rw [screelaw10_BloomHas.l0]) ?_
    refine Ev.neg (by simp; omega) (Ev.bind (Full_ev F hF) ?_)
    have e1 : wrap64 (4 * (((all.map lb).length : Nat) : Int)) = 4 * (all.length : Int) := by rw [List.length_map]; exact w64 _ (by omega) (by omega)
    refine Ev.pos (by rw [e1]; omega) (Ev.bind (Full_ev F hF) (Ev.val ?_))
    congr 1
    rw [List.length_map, beq_iff_eq, Bool.eq_iff_iff, beq_iff_eq, beq_iff_eq]
    omega
  | succ d ih =>
    intro i hi
    have e2 : wrap64 ((i : Int) + 1) = ((i + 1 : Nat) : Int) := by rw [w64 _ (by omega) (by omega)]; omega
    have hlt : i < all.length := by omega
    have er : rdOf ByteArray.empty (all.map lb) (i : Int) = lb all[i] := by simp [rdOf, hlt]
    refine Ev.step (fun k => by rw [screelaw10_BloomHas.l0]) ?_
    rw [e2, er]
    refine Ev.pos (by simp; omega) (Ev.pos (by omega) (Ev.pos (by simp; omega) ?_))
    refine Ev.bind (May_ev F all[i] (hk _ (List.getElem_mem hlt)) hF) (Ev.pos (hm _ (List.getElem_mem hlt)) (ih (i + 1) (by omega)))
theorem BloomHas : ∀ (l0 : List ByteArray), (((∀ x ∈ l0, x.size ≤ 140737488351232) ∧ l0.length * 16 ≤ 140737488351232)) → ∃ k, screelaw10_BloomHas.f k l0 = some true := by
  intro l0 ⟨hks, hlen⟩
  obtain ⟨ks, rfl⟩ := ex_map l0
  rw [List.length_map] at hlen
  have hk : ∀ l ∈ ks, l.length ≤ 140737488351232 := fun l hl => by have := hks (lb l) (List.mem_map.2 ⟨l, hl, rfl⟩); rwa [lb_size] at this
  obtain ⟨b, hb, _⟩ := large_ev ks (by omega) hk
  have htrue : Ev (fun k => screelaw10_BloomHas.j0 k (ks.map lb) true) true := by
    refine Ev.step (fun k => by rw [screelaw10_BloomHas.j0]) ?_
    exact Ev.pos rfl (Ev.now _)
  refine Ev.rounds ?_
  unfold screelaw10_BloomHas.f
  refine Ev.bind awake_ev (Ev.pos rfl (Ev.bind hb ?_))
  cases b with
  | true => exact Ev.pos rfl htrue
  | false =>
    refine Ev.neg (by simp) ?_
    by_cases g1 : (((ks.map lb).length : Nat) : Int) > 1000
    · rw [decide_eq_true g1]; exact htrue
    · rw [decide_eq_false g1]
      rw [List.length_map] at g1
      have hl : ks.length ≤ 1000 := by omega
      refine Ev.step (fun k => by rw [screelaw10_BloomHas.j0]) ?_
      refine Ev.neg (by simp) (Ev.bind (Make_ev ks (fun _ => hk)) ?_)
      have mM : makeS ks = (lb (filt (ks.length + 1) (places ks (8 * ((ks.length : Int) + 1)))), 0) := by unfold makeS; rw [if_neg (by omega)]
      have en : (8 * ((ks.length : Int) + 1)) = 8 * ((ks.length + 1 : Nat) : Int) := by omega
      have hpl := places_in ks (8 * ((ks.length : Int) + 1)) (by omega)
      rw [en] at hpl
      have hfl : (filt (ks.length + 1) (places ks (8 * ((ks.length : Int) + 1)))).length = ks.length + 1 := by rw [en]; exact filt_len _ _ hpl
      rw [mM]
      refine Ev.pos rfl (Ev.step (fun k => by rw [screelaw10_BloomHas.j1]) ?_)
      have e1 : wrap64 ((((ks.map lb).length : Nat) : Int) + 1) = ((ks.length + 1 : Nat) : Int) := by rw [List.length_map, w64 _ (by omega) (by omega)]; omega
      refine Ev.neg (by rw [e1, lb_size, hfl]; simp) ?_
      have hcf : cnt (filt (ks.length + 1) (places ks (8 * ((ks.length : Int) + 1)))) = cntP (fun q => decide ((q : Int) ∈ places ks (8 * ((ks.length + 1 : Nat) : Int)))) (8 * (ks.length + 1)) := by
        rw [en]; exact cnt_filt _ _ hpl
      have hcl : cnt (filt (ks.length + 1) (places ks (8 * ((ks.length : Int) + 1)))) ≤ 4 * ks.length := by
        rw [hcf]
        refine Nat.le_trans (cntP_mem_le _ _ (fun p hp => (hpl p hp).1)) ?_
        rw [places_len ks _ (by omega)]
        exact Nat.le_refl _
      refine has_l0 ks ks _ (by omega) hl hk (fun l hl' => may_of_mem ks hl l hl') hcl ?_ ks.length 0 (by omega)
      constructor
      · intro h0; omega
      · intro h0
        rcases Nat.eq_zero_or_pos ks.length with h | h
        · exact h
        · exfalso
          have hpos : 0 < (places ks (8 * ((ks.length + 1 : Nat) : Int))).length := by rw [places_len ks _ (by omega)]; omega
          obtain ⟨p, hp⟩ := List.exists_mem_of_length_pos hpos
          obtain ⟨p0, p1⟩ := hpl p hp
          have := cntP_pos (fun q => decide ((q : Int) ∈ places ks (8 * ((ks.length + 1 : Nat) : Int)))) (8 * (ks.length + 1)) p.toNat (by omega) (by
            rw [decide_eq_true_eq]
            have e : ((p.toNat : Nat) : Int) = p := by omega
            rw [e]; exact hp)
          rw [hcf] at h0
          omega
end Go.Proofs.Ythgefbabajpelaa.BloomS
