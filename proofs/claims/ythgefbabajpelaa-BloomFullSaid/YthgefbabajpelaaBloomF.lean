/- bloom: as many bits are set as keys' bits tell, each counted once. -/
import Derived.Test.YthgefbabajpelaaBloom5
set_option linter.unusedVariables false
set_option linter.unusedSimpArgs false
namespace Go.Proofs.Ythgefbabajpelaa.BloomS
open Go.RowKit Go.Proofs.Ythgefbabajpelaa.P Go.Proofs.Ythgefbabajpelaa.Th Go.Proofs.YthgefbabajpelaaW.PrintWords Go.Proofs.YthgefbabajpelaaW.PrintLast Go.Proofs.YthgefbabajpelaaW.PrintMore

theorem cntP_one (f : Nat → Bool) (a : Nat) (ha : f a = false) : ∀ d, cntP (fun q => decide (q = a) || f q) d = cntP f d + (if a < d then 1 else 0)
  | 0 => rfl
  | d + 1 => by
    rw [cntP, cntP, cntP_one f a ha d]
    by_cases h : d = a
    · subst h
      rw [ha, if_neg (Nat.lt_irrefl _), if_pos (Nat.lt_succ_self _)]
      simp [b2n]
    · have e : (decide (d = a) || f d) = f d := by simp [h]
      rw [e]
      by_cases h2 : a < d
      · rw [if_pos h2, if_pos (by omega)]; omega
      · rw [if_neg h2, if_neg (by omega)]; omega
theorem cntP_zero : ∀ d, cntP (fun _ => false) d = 0
  | 0 => rfl
  | d + 1 => by rw [cntP, cntP_zero d]; rfl
theorem cntP_nodup : ∀ (L : List Int) (d : Nat), L.Nodup → (∀ x ∈ L, 0 ≤ x ∧ x < (d : Int)) → cntP (fun q => decide ((q : Int) ∈ L)) d = L.length
  | [], d, _, _ => by simp [cntP_zero]
  | x :: L, d, hn, h => by
    rw [List.nodup_cons] at hn
    have hx := h x (by simp)
    have ih := cntP_nodup L d hn.2 (fun y hy => h y (by simp [hy]))
    have e : ((x.toNat : Nat) : Int) = x := by omega
    have := cntP_one (fun q => decide ((q : Int) ∈ L)) x.toNat (by rw [decide_eq_false_iff_not, e]; exact hn.1) d
    rw [if_pos (by omega), ih] at this
    rw [List.length_cons, ← this]
    refine cntP_congr d fun q _ => ?_
    rw [Bool.eq_iff_iff, Bool.or_eq_true, decide_eq_true_eq, decide_eq_true_eq, decide_eq_true_eq, List.mem_cons]
    constructor
    · rintro (h1 | h1)
      · exact Or.inl (by omega)
      · exact Or.inr h1
    · rintro (h1 | h1)
      · exact Or.inl (by omega)
      · exact Or.inr h1
theorem ins_nodup (L : List Int) (x : Int) (h : L.Nodup) : (Mp.ins L x).Nodup := by
  unfold Mp.ins
  split
  · exact h
  · rename_i hx; exact List.nodup_cons.2 ⟨hx, h⟩
theorem ins_len (L : List Int) (x : Int) : (Mp.ins L x).length ≤ L.length + 1 := by
  unfold Mp.ins
  split
  · omega
  · simp
theorem fold_ins : ∀ (ps L : List Int), L.Nodup → (ps.foldl Mp.ins L).Nodup ∧ (∀ x, x ∈ ps.foldl Mp.ins L ↔ x ∈ L ∨ x ∈ ps) ∧ (ps.foldl Mp.ins L).length ≤ L.length + ps.length
  | [], L, h => by simp [h]
  | p :: ps, L, h => by
    have := fold_ins ps (Mp.ins L p) (ins_nodup L p h)
    have hl := ins_len L p
    refine ⟨this.1, fun x => ?_, by simp only [List.foldl_cons, List.length_cons]; omega⟩
    rw [List.foldl_cons, this.2.1 x, Mp.mem_ins, List.mem_cons]
    exact or_assoc
theorem bit_one (F : List UInt8) (p : Int) (h0 : 0 ≤ p) (h1 : p < 8 * (F.length : Int)) (h : bitN F p.toNat = true) : bloom_May.bit (lb F) p = 1 := by
  have hb := may_bit F p h0 h1
  rw [h, bne_iff_ne] at hb
  obtain ⟨q, rfl⟩ := Int.eq_ofNat_of_zero_le h0
  unfold bloom_May.bit at hb ⊢
  have e1 : (q : Int) / 8 = ((q / 8 : Nat) : Int) := by omega
  have e2 : ((q : Int) % 8).toNat = q % 8 := by omega
  rw [e1, e2, bt_getD F (q / 8) (by omega)] at hb ⊢
  have hc := u8_lt (F.getD (q / 8) 0)
  have e3 : (((F.getD (q / 8) 0).toNat : Nat) : Int) / 2 ^ (q % 8) = (((F.getD (q / 8) 0).toNat / 2 ^ (q % 8) : Nat) : Int) := by simp
  have e4 : (F.getD (q / 8) 0).toNat / 2 ^ (q % 8) ≤ (F.getD (q / 8) 0).toNat := Nat.div_le_self _ _
  rw [e3, u8_and1 _ (by omega)] at hb ⊢
  generalize (F.getD (q / 8) 0).toNat / 2 ^ (q % 8) = z at hb
  omega
theorem goB_eq (F : List UInt8) (hF : F.length ≤ 2000) : ∀ (bs L : List Int), L.length + bs.length ≤ 100000 → (∀ p ∈ bs, 0 ≤ p ∧ p < 8 * (F.length : Int) ∧ bitN F p.toNat = true) → screelaw10_BloomFull.goB (lb F) bs L = some (bs.foldl Mp.ins L)
  | [], L, _, _ => rfl
  | b :: bs, L, hl, h => by
    obtain ⟨h0, h1, h2⟩ := h b (by simp)
    have hn := ins_len L b
    rw [List.length_cons] at hl
    rw [screelaw10_BloomFull.goB, if_pos ⟨h0, by omega, by rw [lb_size]; omega, bit_one F b h0 h1 h2, by omega⟩]
    exact goB_eq F hF bs (Mp.ins L b) (by omega) (fun p hp => h p (by simp [hp]))
theorem full_go (F : List UInt8) (hF : F.length ≤ 2000) (n : Int) (hn : n = 8 * (F.length : Int)) (h1 : 1 ≤ n) : ∀ (ks : List (List UInt8)) (L : List Int), (∀ l ∈ ks, l.length ≤ 140737488351232) → L.length + 4 * ks.length ≤ 100000 → L.Nodup → (∀ p ∈ places ks n, bitN F p.toNat = true) →
    Ev (fun k => screelaw10_BloomFull.go k (lb F) n (ks.map lb) L) ((places ks n).foldl Mp.ins L)
  | [], L, _, _, _, _ => Ev.val rfl
  | l :: ks, L, hk, hl, hd, hp => by
    have hb := bitsOf_len l n h1
    have hin := bitsOf_in l n (by omega)
    rw [List.length_cons] at hl
    have hf := fold_ins (bitsOf l n) L hd
    have hpl : ∀ p ∈ bitsOf l n, p ∈ places (l :: ks) n := fun p hp => by unfold places; rw [List.flatMap_cons]; exact List.mem_append_left _ hp
    have hpr : ∀ p ∈ places ks n, p ∈ places (l :: ks) n := fun p hp => by unfold places at hp ⊢; rw [List.flatMap_cons]; exact List.mem_append_right _ hp
    refine Ev.bind (Bits_ev l n (hk l (by simp)) (by omega)) (Ev.pos (by rw [hb]; omega) (Ev.just (goB_eq F hF (bitsOf l n) L (by omega) (fun p hp' => ⟨(hin p hp').1, by have := (hin p hp').2; omega, hp p (hpl p hp')⟩)) ?_))
    have ih := full_go F hF n hn h1 ks ((bitsOf l n).foldl Mp.ins L) (fun x hx => hk x (by simp [hx])) (by omega) hf.1 (fun p hp' => hp p (hpr p hp'))
    refine Ev.eq ih ?_
    unfold places
    rw [List.flatMap_cons, List.foldl_append]
theorem BloomFull : ∀ (l0 : List ByteArray), (((∀ x ∈ l0, x.size ≤ 140737488351232) ∧ l0.length * 16 ≤ 140737488351232)) → ∃ k, screelaw10_BloomFull.f k l0 = some true := by
  intro l0 ⟨hks, hlen⟩
  obtain ⟨ks, rfl⟩ := ex_map l0
  rw [List.length_map] at hlen
  have hk : ∀ l ∈ ks, l.length ≤ 140737488351232 := fun l hl => by have := hks (lb l) (List.mem_map.2 ⟨l, hl, rfl⟩); rwa [lb_size] at this
  obtain ⟨b, hb, _⟩ := large_ev ks (by omega) hk
  refine Ev.rounds ?_
  unfold screelaw10_BloomFull.f
  refine Ev.bind awake_ev (Ev.pos rfl (Ev.bind hb ?_))
  cases b with
  | true => exact Ev.pos rfl (Ev.val rfl)
  | false =>
    refine Ev.neg (by simp) ?_
    by_cases g1 : 1000 < (ks.map lb).length
    · exact Ev.pos g1 (Ev.val rfl)
    · refine Ev.neg g1 (Ev.bind (Make_ev ks (fun _ => hk)) ?_)
      rw [List.length_map] at g1 ⊢
      have mM : makeS ks = (lb (filt (ks.length + 1) (places ks (8 * ((ks.length : Int) + 1)))), 0) := by unfold makeS; rw [if_neg (by omega)]
      have en : (8 * ((ks.length : Int) + 1)) = 8 * ((ks.length + 1 : Nat) : Int) := by omega
      have hpl := places_in ks (8 * ((ks.length : Int) + 1)) (by omega)
      rw [mM, en]
      rw [en] at hpl
      have hfl : (filt (ks.length + 1) (places ks (8 * ((ks.length + 1 : Nat) : Int)))).length = ks.length + 1 := filt_len _ _ hpl
      have hcf := cnt_filt (ks.length + 1) (places ks (8 * ((ks.length + 1 : Nat) : Int))) hpl
      have hbit : ∀ p ∈ places ks (8 * ((ks.length + 1 : Nat) : Int)), bitN (filt (ks.length + 1) (places ks (8 * ((ks.length + 1 : Nat) : Int)))) p.toNat = true := fun p hp => by
        rw [filt_bit _ _ hpl, decide_eq_true_eq]
        have := (hpl p hp).1
        have e : ((p.toNat : Nat) : Int) = p := by omega
        rw [e]; exact hp
      generalize hFF : filt (ks.length + 1) (places ks (8 * ((ks.length + 1 : Nat) : Int))) = F at hfl hcf hbit ⊢
      have hg := full_go F (by omega) (8 * ((ks.length + 1 : Nat) : Int)) (by rw [hfl]) (by omega) ks [] hk (by simp; omega) List.nodup_nil hbit
      have hf := fold_ins (places ks (8 * ((ks.length + 1 : Nat) : Int))) [] List.nodup_nil
      refine Ev.bind hg (Ev.pos rfl (Ev.bind (Full_ev F (by omega)) (Ev.pos ?_ (Ev.val rfl))))
      congr 1
      rw [hcf, ← cntP_nodup _ (8 * (ks.length + 1)) hf.1 (fun x hx => ?_)]
      · refine cntP_congr _ fun q _ => ?_
        rw [Bool.eq_iff_iff, decide_eq_true_eq, decide_eq_true_eq, hf.2.1]
        simp
      · rw [hf.2.1] at hx
        rcases hx with hx | hx
        · simp at hx
        · have := hpl x hx; omega
end Go.Proofs.Ythgefbabajpelaa.BloomS
