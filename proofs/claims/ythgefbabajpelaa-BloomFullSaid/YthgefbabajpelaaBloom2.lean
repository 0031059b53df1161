/- Filters by their bits: what May, Make and Full, and the reference's, come to. -/
import Derived.Test.YthgefbabajpelaaBloom
set_option linter.unusedVariables false
set_option linter.unusedSimpArgs false
namespace Go.Proofs.Ythgefbabajpelaa.BloomS
open Go.RowKit Go.Proofs.Ythgefbabajpelaa.P Go.Proofs.Ythgefbabajpelaa.Th Go.Proofs.YthgefbabajpelaaW.PrintWords Go.Proofs.YthgefbabajpelaaW.PrintLast Go.Proofs.YthgefbabajpelaaW.PrintMore

def bitN (F : List UInt8) (p : Nat) : Bool := (F.getD (p / 8) 0).toNat.testBit (p % 8)
theorem tb_div (x i : Nat) : x.testBit i = decide (x / 2 ^ i % 2 = 1) := Nat.testBit_eq_decide_div_mod_eq
theorem u8_testBit_ge (c : UInt8) (i : Nat) (h : 8 ≤ i) : c.toNat.testBit i = false :=
  Nat.testBit_lt_two_pow (Nat.lt_of_lt_of_le (u8_lt c) (Nat.pow_le_pow_right (by decide : 0 < 2) h))
theorem u8_eq_of_bits {a b : UInt8} (h : ∀ i, i < 8 → a.toNat.testBit i = b.toNat.testBit i) : a = b := by
  apply u8_ext
  apply Nat.eq_of_testBit_eq
  intro i
  rcases Nat.lt_or_ge i 8 with h8 | h8
  · exact h i h8
  · rw [u8_testBit_ge a i h8, u8_testBit_ge b i h8]
theorem bits_ext {a b : List UInt8} (hl : a.length = b.length) (h : ∀ p, p < 8 * a.length → bitN a p = bitN b p) : a = b := by
  apply List.ext_getElem hl
  intro i h1 h2
  apply u8_eq_of_bits
  intro j hj
  have := h (8 * i + j) (by omega)
  unfold bitN at this
  have e1 : (8 * i + j) / 8 = i := by omega
  have e2 : (8 * i + j) % 8 = j := by omega
  rw [e1, e2, List.getD_eq_getElem?_getD, List.getD_eq_getElem?_getD, List.getElem?_eq_getElem h1, List.getElem?_eq_getElem h2] at this
  exact this

/-! ### May -/
theorem bt_getD (F : List UInt8) (i : Nat) (h : i < F.length) : bt (lb F) (i : Int) = (((F.getD i 0).toNat : Nat) : Int) := by
  rw [bt_nat _ _ h, List.getD_eq_getElem?_getD, List.getElem?_eq_getElem h]; rfl
theorem u8_and1 (n : Nat) (h : n < 256) : Go.bits .and .u8 (n : Int) 1 = ((n % 2 : Nat) : Int) := by
  have : ∀ y : Fin 256, Go.bits .and .u8 (y.val : Int) 1 = ((y.val % 2 : Nat) : Int) := by decide +kernel
  exact this ⟨n, h⟩
theorem may_bit (F : List UInt8) (p : Int) (h0 : 0 ≤ p) (h1 : p < 8 * (F.length : Int)) : (bloom_May.bit (lb F) p != 0) = bitN F p.toNat := by
  obtain ⟨q, rfl⟩ := Int.eq_ofNat_of_zero_le h0
  unfold bloom_May.bit bitN
  have e1 : (q : Int) / 8 = ((q / 8 : Nat) : Int) := by omega
  have e2 : ((q : Int) % 8).toNat = q % 8 := by omega
  rw [e1, e2, bt_getD F (q / 8) (by omega), Int.toNat_natCast, tb_div]
  have hc := u8_lt (F.getD (q / 8) 0)
  have e3 : (((F.getD (q / 8) 0).toNat : Nat) : Int) / 2 ^ (q % 8) = (((F.getD (q / 8) 0).toNat / 2 ^ (q % 8) : Nat) : Int) := by simp
  have e4 : (F.getD (q / 8) 0).toNat / 2 ^ (q % 8) ≤ (F.getD (q / 8) 0).toNat := Nat.div_le_self _ _
  rw [e3, u8_and1 _ (by omega)]
  generalize (F.getD (q / 8) 0).toNat / 2 ^ (q % 8) = z
  rw [Bool.eq_iff_iff, bne_iff_ne, decide_eq_true_eq]
  omega
theorem all_congr {α : Type} {l : List α} {f g : α → Bool} (h : ∀ x ∈ l, f x = g x) : l.all f = l.all g := by
  induction l with
  | nil => rfl
  | cons a l ih => simp only [List.all_cons]; rw [h a (by simp), ih (fun x hx => h x (by simp [hx]))]
def mayS (F key : List UInt8) : Bool := (bitsOf key (8 * (F.length : Int))).all fun p => bitN F p.toNat
theorem May_ev (F key : List UInt8) (hk : key.length ≤ 140737488351232) (hF : F.length ≤ 140737488351232) : Ev (fun k => bloom_May.f k (lb F) (lb key)) (mayS F key) := by
  unfold bloom_May.f mayS
  by_cases h0 : F.length = 0
  · refine Ev.pos (by rw [lb_size]; exact h0) (Ev.val ?_)
    have : bitsOf key (8 * (F.length : Int)) = [] := by unfold bitsOf; rw [if_pos (by omega)]
    rw [this]; rfl
  · refine Ev.neg (by rw [lb_size]; exact h0) (Ev.pos (by rw [lb_size]; exact hF) (Ev.bind (Mix_ev key hk) (Ev.val ?_)))
    rw [lb_size]
    congr 1
    have hb := bitsOf_in key (8 * (F.length : Int)) (by omega)
    unfold bitsOf at hb ⊢
    rw [if_neg (by omega)] at hb ⊢
    exact all_congr fun p hp => may_bit F p (hb p hp).1 (hb p hp).2
theorem set_l0 (q : Nat) : ∀ (d b j : Nat), j + d = q % 8 → b < 256 → Ev (fun k => screeref10_Set.l0 k (q : Int) (b : Int) (j : Int)) (decide (b / 2 ^ d % 2 = 1)) := by
  intro d
  induction d with
  | zero =>
    intro b j hj hb
    refine Ev.step (fun k => by rw [screeref10_Set.l0]) (Ev.neg ?_ (Ev.val ?_))
    · rw [Int.tmod_eq_emod_of_nonneg (by omega)]; omega
    · rw [Int.tmod_eq_emod_of_nonneg (by omega)]
      congr 1
      rw [Bool.eq_iff_iff, beq_iff_eq, decide_eq_true_eq]; simp; omega
  | succ d ih =>
    intro b j hj hb
    refine Ev.step (fun k => by rw [screeref10_Set.l0]) (Ev.pos ?_ ?_)
    · rw [Int.tmod_eq_emod_of_nonneg (by omega)]; omega
    · have e1 : wrap64 (Int.tdiv (b : Int) 2) = ((b / 2 : Nat) : Int) := by
        rw [Int.tdiv_eq_ediv_of_nonneg (by omega), w64 _ (by omega) (by omega)]; omega
      have e2 : wrap64 ((j : Int) + 1) = ((j + 1 : Nat) : Int) := by rw [w64 _ (by omega) (by omega)]; omega
      rw [e1, e2]
      refine Ev.eq (ih (b / 2) (j + 1) (by omega) (by omega)) ?_
      rw [Nat.div_div_eq_div_mul, Nat.pow_succ, Nat.mul_comm]
theorem Set_ev (F : List UInt8) (p : Int) (h0 : 0 ≤ p) (h1 : p < 8 * (F.length : Int)) (h2 : p < 9223372036854775808) : Ev (fun k => screeref10_Set.f k (lb F) p) (bitN F p.toNat) := by
  obtain ⟨q, rfl⟩ := Int.eq_ofNat_of_zero_le h0
  unfold screeref10_Set.f
  have e1 : wrap64 (Int.tdiv (q : Int) 8) = ((q / 8 : Nat) : Int) := by
    rw [Int.tdiv_eq_ediv_of_nonneg (by omega), w64 _ (by omega) (by omega)]; omega
  rw [e1]
  refine Ev.pos (by omega) (Ev.pos (by rw [lb_size]; omega) ?_)
  have hc := u8_lt (F.getD (q / 8) 0)
  rw [bt_getD F (q / 8) (by omega), w64 _ (by omega) (by omega)]
  refine Ev.eq (set_l0 q (q % 8) _ 0 (by omega) hc) ?_
  unfold bitN
  rw [Int.toNat_natCast, tb_div]
theorem rmay_l0 (F : List UInt8) (hF : F.length ≤ 140737488351232) : ∀ (rest pre : List Int), pre.length + rest.length ≤ 4 → (∀ p ∈ rest, 0 ≤ p ∧ p < 8 * (F.length : Int)) →
    Ev (fun k => screeref10_May.l0 k (lb F) (pre ++ rest) (pre.length : Int)) (rest.all fun p => bitN F p.toNat) := by
  intro rest
  induction rest with
  | nil =>
    intro pre h hp
    refine Ev.step (fun k => by rw [screeref10_May.l0]) ?_
    exact Ev.neg (by simp) (Ev.now _)
  | cons p rest ih =>
    intro pre h hp
    have h' : pre.length + (rest.length + 1) ≤ 4 := by simpa using h
    refine Ev.step (fun k => by rw [screeref10_May.l0]) (Ev.pos (by simp; omega) (Ev.pos (by omega) ?_))
    have er : rd (pre ++ p :: rest) (pre.length : Int) = p := by simp [rd]
    obtain ⟨p0, p1⟩ := hp p (by simp)
    rw [er]
    refine Ev.bind (Set_ev F p p0 p1 (by omega)) ?_
    cases hb : bitN F p.toNat with
    | true =>
      refine Ev.pos rfl ?_
      have e2 : wrap64 ((pre.length : Int) + 1) = ((pre.length + 1 : Nat) : Int) := by rw [w64 _ (by omega) (by omega)]; omega
      rw [e2]
      have := ih (pre ++ [p]) (by simp; omega) (fun q hq => hp q (by simp [hq]))
      simpa [hb] using this
    | false => exact Ev.neg (by simp) (Ev.val (by simp [hb]))
theorem RMay_ev (F key : List UInt8) (hk : key.length ≤ 140737488351232) (hF : F.length ≤ 140737488351232) : Ev (fun k => screeref10_May.f k (lb F) (lb key)) (mayS F key) := by
  unfold screeref10_May.f mayS
  have e1 : wrap64 (8 * (((lb F).size : Nat) : Int)) = 8 * (F.length : Int) := by rw [lb_size]; exact w64 _ (by omega) (by omega)
  rw [e1]
  refine Ev.bind (RBits_ev key _ hk (by omega)) ?_
  exact rmay_l0 F hF (bitsOf key (8 * (F.length : Int))) [] (by have := bitsOf_less key (8 * (F.length : Int)); simpa using this) (bitsOf_in key _ (by omega))

/-! ### Make -/
/-- A bit more. -/
def setN (F : List UInt8) (p : Nat) : List UInt8 := F.set (p / 8) (UInt8.ofNat ((F.getD (p / 8) 0).toNat ||| 2 ^ (p % 8)))
theorem setN_len (F : List UInt8) (p : Nat) : (setN F p).length = F.length := by simp [setN]
theorem bitN_setN (F : List UInt8) (p q : Nat) (hp : p < 8 * F.length) : bitN (setN F p) q = (bitN F q || decide (q = p)) := by
  unfold bitN setN
  by_cases h : q / 8 = p / 8
  · have e : (F.set (p / 8) (UInt8.ofNat ((F.getD (p / 8) 0).toNat ||| 2 ^ (p % 8)))).getD (q / 8) 0 = UInt8.ofNat ((F.getD (p / 8) 0).toNat ||| 2 ^ (p % 8)) := by
      rw [h, List.getD_eq_getElem?_getD, List.getElem?_set_self (by omega)]; rfl
    have hc := u8_lt (F.getD (p / 8) 0)
    have h2 : 2 ^ (p % 8) < 2 ^ 8 := Nat.pow_lt_pow_right (by decide) (by omega)
    have h3 : (F.getD (p / 8) 0).toNat ||| 2 ^ (p % 8) < 2 ^ 8 := Nat.or_lt_two_pow hc h2
    rw [e, u8_ofNat_toNat _ h3, Nat.testBit_or, Nat.testBit_two_pow, h]
    congr 1
    rw [Bool.eq_iff_iff, decide_eq_true_eq, decide_eq_true_eq]
    omega
  · have e : (F.set (p / 8) (UInt8.ofNat ((F.getD (p / 8) 0).toNat ||| 2 ^ (p % 8)))).getD (q / 8) 0 = F.getD (q / 8) 0 := by
      rw [List.getD_eq_getElem?_getD, List.getElem?_set_ne (by omega), List.getD_eq_getElem?_getD]
    rw [e]
    have : ¬ q = p := by intro e; rw [e] at h; exact h rfl
    simp [this]
theorem u8_or (a b : Nat) (ha : a < 256) (hb : b < 256) : Go.bits .or .u8 (a : Int) (b : Int) = ((a ||| b : Nat) : Int) :=
  (bits_nat .u8 8 (by decide) wraps_u8 a b (by simpa using ha) (by simpa using hb)).2
theorem put_eq (F : List UInt8) (p : Nat) (hp : p < 8 * F.length) : bloom_Make.put (toI F) (p : Int) = toI (setN F p) := by
  unfold bloom_Make.put setN
  have e1 : ((p : Int) / 8).toNat = p / 8 := by omega
  have e2 : ((p : Int) % 8).toNat = p % 8 := by omega
  have e3 : rdOf 0 (toI F) ((p : Int) / 8) = (((F.getD (p / 8) 0).toNat : Nat) : Int) := by
    unfold rdOf
    rw [e1]
    simp only [toI, List.getD_eq_getElem?_getD, List.getElem?_map]
    cases F[p / 8]? <;> rfl
  have h2 : 2 ^ (p % 8) < 2 ^ 8 := Nat.pow_lt_pow_right (by decide) (by omega)
  have e4 : (2 : Int) ^ (p % 8) % 256 = ((2 ^ (p % 8) : Nat) : Int) := by
    have : ((2 : Int) ^ (p % 8)) = ((2 ^ (p % 8) : Nat) : Int) := by simp
    rw [this]
    generalize 2 ^ (p % 8) = z at h2 ⊢
    omega
  have hc := u8_lt (F.getD (p / 8) 0)
  rw [e1, e2, e3, e4, u8_or _ _ hc (by simpa using h2)]
  have h3 : (F.getD (p / 8) 0).toNat ||| 2 ^ (p % 8) < 2 ^ 8 := Nat.or_lt_two_pow hc h2
  simp only [toI, List.map_set]
  congr 1
  rw [u8_ofNat_toNat _ h3]
theorem foldl_put : ∀ (ps : List Int) (F : List UInt8), (∀ p ∈ ps, 0 ≤ p ∧ p < 8 * (F.length : Int)) → ps.foldl bloom_Make.put (toI F) = toI (ps.foldl (fun G p => setN G p.toNat) F)
  | [], F, _ => rfl
  | p :: ps, F, h => by
    obtain ⟨h0, h1⟩ := h p (by simp)
    obtain ⟨q, rfl⟩ := Int.eq_ofNat_of_zero_le h0
    rw [List.foldl_cons, List.foldl_cons, put_eq F q (by omega), Int.toNat_natCast]
    exact foldl_put ps (setN F q) (fun x hx => by rw [setN_len]; exact h x (by simp [hx]))
theorem foldl_setN : ∀ (ps : List Int) (F : List UInt8), (∀ p ∈ ps, 0 ≤ p ∧ p < 8 * (F.length : Int)) → (ps.foldl (fun G p => setN G p.toNat) F).length = F.length ∧ ∀ q, bitN (ps.foldl (fun G p => setN G p.toNat) F) q = (bitN F q || decide ((q : Int) ∈ ps))
  | [], F, _ => ⟨rfl, fun q => by simp⟩
  | p :: ps, F, h => by
    obtain ⟨h0, h1⟩ := h p (by simp)
    obtain ⟨i1, i2⟩ := foldl_setN ps (setN F p.toNat) (fun x hx => by rw [setN_len]; exact h x (by simp [hx]))
    refine ⟨by rw [List.foldl_cons, i1, setN_len], fun q => ?_⟩
    rw [List.foldl_cons, i2, bitN_setN F p.toNat q (by omega), Bool.or_assoc]
    congr 1
    rw [Bool.eq_iff_iff, Bool.or_eq_true, decide_eq_true_eq, decide_eq_true_eq, decide_eq_true_eq, List.mem_cons]
    constructor
    · rintro (e | e)
      · left; omega
      · exact .inr e
    · rintro (e | e)
      · left; omega
      · exact .inr e
/-- The places of keys' bits. -/
def places (ks : List (List UInt8)) (n : Int) : List Int := ks.flatMap fun l => bitsOf l n
theorem places_in (ks : List (List UInt8)) (n : Int) (h2 : n ≤ 9223372036854775807) : ∀ p ∈ places ks n, 0 ≤ p ∧ p < n := by
  intro p hp
  obtain ⟨l, _, hl⟩ := List.mem_flatMap.1 hp
  exact bitsOf_in l n h2 p hl
/-- The filter of so many bytes with these bits set. -/
def filt (m : Nat) (ps : List Int) : List UInt8 := ps.foldl (fun G p => setN G p.toNat) (List.replicate m 0)
theorem bitN_zero (m q : Nat) : bitN (List.replicate m 0) q = false := by
  unfold bitN
  have : (List.replicate m (0 : UInt8)).getD (q / 8) 0 = 0 := by
    rw [List.getD_eq_getElem?_getD, List.getElem?_replicate]; split <;> rfl
  rw [this]; simp
theorem filt_len (m : Nat) (ps : List Int) (h : ∀ p ∈ ps, 0 ≤ p ∧ p < 8 * (m : Int)) : (filt m ps).length = m := by
  have := (foldl_setN ps (List.replicate m 0) (by simpa using h)).1
  simpa [filt] using this
theorem filt_bit (m : Nat) (ps : List Int) (h : ∀ p ∈ ps, 0 ≤ p ∧ p < 8 * (m : Int)) (q : Nat) : bitN (filt m ps) q = decide ((q : Int) ∈ ps) := by
  have := (foldl_setN ps (List.replicate m 0) (by simpa using h)).2 q
  rw [bitN_zero, Bool.false_or] at this
  exact this
theorem filt_congr (m : Nat) (ps qs : List Int) (h : ∀ p ∈ ps, 0 ≤ p ∧ p < 8 * (m : Int)) (h' : ∀ p ∈ qs, 0 ≤ p ∧ p < 8 * (m : Int)) (hm : ∀ x, x ∈ ps ↔ x ∈ qs) : filt m ps = filt m qs := by
  apply bits_ext (by rw [filt_len m ps h, filt_len m qs h'])
  intro p _
  rw [filt_bit m ps h, filt_bit m qs h']
  simp only [hm]
theorem make_go (n : Int) (h1 : 1 ≤ n) (h2 : n ≤ 9223372036854775807) (m : Nat) (hm : n = 8 * (m : Int)) : ∀ (ks : List (List UInt8)) (F : List UInt8), F.length = m → (∀ l ∈ ks, l.length ≤ 140737488351232) →
    Ev (fun k => bloom_Make.go k n (ks.map lb) (toI F)) (toI ((places ks n).foldl (fun G p => setN G p.toNat) F)) := by
  intro ks
  induction ks with
  | nil => intro F hF hk; exact Ev.now _
  | cons l ks ih =>
    intro F hF hk
    have hb : bitsOf l n = bloom_probes.ps (mix l) n := by unfold bitsOf; rw [if_neg (by omega)]
    have hin := bitsOf_in l n h2
    refine Ev.bind (Mix_ev l (hk l (by simp))) ?_
    rw [← hb, foldl_put _ F (by rw [hF, ← hm]; exact hin)]
    refine Ev.eq (ih _ ?_ (fun x hx => hk x (by simp [hx]))) ?_
    · rw [(foldl_setN _ F (by rw [hF, ← hm]; exact hin)).1, hF]
    · unfold places
      rw [List.flatMap_cons, List.foldl_append]
theorem toI_rep (m : Nat) : toI (List.replicate m 0) = List.replicate m 0 := by simp [toI]
def makeS (ks : List (List UInt8)) : ByteArray × Int :=
  if ks.length > 1000 then (lb [], 4) else (lb (filt (ks.length + 1) (places ks (8 * ((ks.length : Int) + 1)))), 0)
theorem Make_ev (ks : List (List UInt8)) (hk : ks.length ≤ 1000 → ∀ l ∈ ks, l.length ≤ 140737488351232) : Ev (fun k => bloom_Make.f k (ks.map lb)) (makeS ks) := by
  unfold bloom_Make.f makeS
  by_cases h : ks.length > 1000
  · rw [if_pos h]; exact Ev.pos (by simp; omega) (Ev.now _)
  · rw [if_neg h]
    refine Ev.neg (by simp; omega) ?_
    rw [List.length_map, ← toI_rep]
    refine Ev.bind (make_go _ (by omega) (by omega) (ks.length + 1) (by omega) ks (List.replicate (ks.length + 1) 0) (by simp) (hk (by omega))) (Ev.val ?_)
    rw [son, ofI_toI]
    rfl
end Go.Proofs.Ythgefbabajpelaa.BloomS
