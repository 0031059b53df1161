/- bloom: with more bits set no less may be. -/
import Derived.Test.YthgefbabajpelaaBloom5
set_option linter.unusedVariables false
set_option linter.unusedSimpArgs false
namespace Go.Proofs.Ythgefbabajpelaa.BloomS
open Go.RowKit Go.Proofs.Ythgefbabajpelaa.P Go.Proofs.Ythgefbabajpelaa.Th Go.Proofs.YthgefbabajpelaaW.PrintWords Go.Proofs.YthgefbabajpelaaW.PrintLast Go.Proofs.YthgefbabajpelaaW.PrintMore

def orL : List UInt8 → List UInt8 → List UInt8
  | x :: xs, y :: ys => UInt8.ofNat (x.toNat ||| y.toNat) :: orL xs ys
  | [], _ => []
  | x :: xs, [] => x :: xs
theorem orL_len : ∀ (a b : List UInt8), (orL a b).length = a.length
  | x :: a, y :: b => by simp [orL, orL_len a b]
  | [], b => by cases b <;> rfl
  | x :: a, [] => rfl
theorem or_byte (x y : UInt8) : (UInt8.ofNat (x.toNat ||| y.toNat)).toNat = x.toNat ||| y.toNat :=
  u8_ofNat_toNat _ (Nat.or_lt_two_pow (n := 8) (u8_lt x) (u8_lt y))
theorem orl_toI : ∀ (a b : List UInt8), screelaw10_BloomMore.orl (toI a) (toI b) = toI (orL a b)
  | x :: a, y :: b => by
    have h := orl_toI a b
    unfold toI at h ⊢
    simp only [List.map_cons, screelaw10_BloomMore.orl, orL, h, or_byte, u8_or _ _ (u8_lt x) (u8_lt y)]
  | [], b => by cases b <;> rfl
  | x :: a, [] => rfl
theorem orL_bit : ∀ (a b : List UInt8) (i j : Nat), (a.getD i 0).toNat.testBit j = true → ((orL a b).getD i 0).toNat.testBit j = true
  | x :: a, y :: b, i, j, h => by
    cases i with
    | zero =>
      simp only [orL, List.getD_cons_zero] at h ⊢
      rw [or_byte, Nat.testBit_or, h]; rfl
    | succ i =>
      simp only [orL, List.getD_cons_succ] at h ⊢
      exact orL_bit a b i j h
  | [], b, i, j, h => by simp at h
  | x :: a, [], i, j, h => h
theorem orL_bitN (a b : List UInt8) (p : Nat) (h : bitN a p = true) : bitN (orL a b) p = true := orL_bit a b _ _ h
theorem cntP_mono {f g : Nat → Bool} (h : ∀ q, f q = true → g q = true) : ∀ d, cntP f d ≤ cntP g d
  | 0 => Nat.le_refl _
  | d + 1 => by
    have := cntP_mono h d
    unfold cntP b2n
    cases hf : f d
    · simp; omega
    · rw [h d hf]; simp; omega
theorem cnt_or (a b : List UInt8) : cnt a ≤ cnt (orL a b) := by
  unfold cnt
  rw [orL_len]
  exact cntP_mono (fun q => orL_bitN a b q) _
theorem may_or (a b key : List UInt8) (h : mayS a key = true) : mayS (orL a b) key = true := by
  unfold mayS at h ⊢
  rw [orL_len]
  rw [List.all_eq_true] at h ⊢
  exact fun p hp => orL_bitN a b _ (h p hp)
theorem all_255 (n p : Nat) (h : p < 8 * n) : bitN (List.replicate n 255) p = true := by
  unfold bitN
  have h1 : p / 8 < n := by omega
  rw [List.getD_eq_getElem?_getD, List.getElem?_replicate, if_pos h1]
  have h2 : p % 8 < 8 := Nat.mod_lt _ (by omega)
  have : ∀ y : Fin 8, (255 : UInt8).toNat.testBit y.val = true := by decide
  exact this ⟨p % 8, h2⟩
theorem may_255 (n : Nat) (hn : n ≤ 1000) (key : List UInt8) : mayS (List.replicate n 255) key = true := by
  unfold mayS
  rw [List.length_replicate, List.all_eq_true]
  intro p hp
  have := bitsOf_in key (8 * (n : Int)) (by omega) p hp
  exact all_255 n _ (by omega)
theorem BloomMore : ∀ (a0 : ByteArray) (a1 : ByteArray) (a2 : ByteArray), (a0.size ≤ 140737488351232) → (a1.size ≤ 140737488351232) → (a2.size ≤ 140737488351232) → ∃ k, screelaw10_BloomMore.f k a0 a1 a2 = some true := by
  intro a b c ha hb hc
  obtain ⟨a, rfl⟩ := ex_lb a
  obtain ⟨b, rfl⟩ := ex_lb b
  obtain ⟨c, rfl⟩ := ex_lb c
  refine Ev.rounds ?_
  unfold screelaw10_BloomMore.f
  simp only [lb_size] at ha hb hc ⊢
  refine Ev.bind awake_ev (Ev.pos rfl ?_)
  by_cases hbig : 200 < a.length ∨ 200 < b.length ∨ 300 < c.length
  · exact Ev.pos hbig (Ev.val rfl)
  refine Ev.neg hbig ?_
  have e1 : strOfNums (screelaw10_BloomMore.orl (bytesOf (lb a)) (bytesOf (lb b))) = lb (orL a b) := by
    rw [bytesOf_lb, bytesOf_lb, orl_toI, son, ofI_toI]
  have e2 : strOfNums (List.replicate a.length 255) = lb (List.replicate a.length 255) := by
    have : List.replicate a.length (255 : Int) = toI (List.replicate a.length 255) := by simp [toI]
    rw [this, son, ofI_toI]
  rw [e1, e2]
  have hl := orL_len a b
  refine Ev.bind (May_ev a c (by omega) (by omega)) ?_
  have q : Ev (fun k => if mayS a c = true then bloom_May.f k (lb (orL a b)) (lb c) else some true) true := by
    by_cases h : mayS a c = true
    · exact Ev.pos h (Ev.eq (May_ev (orL a b) c (by omega) (by omega)) (may_or a b c h))
    · exact Ev.neg h (Ev.val rfl)
  have hcnt := cnt_or a b
  refine Ev.bind q (Ev.pos rfl (Ev.bind (Full_ev a (by omega)) (Ev.bind (Full_ev (orL a b) (by omega)) (Ev.pos (by omega) ?_))))
  exact Ev.eq (May_ev (List.replicate a.length 255) c (by omega) (by rw [List.length_replicate]; omega)) (may_255 _ (by omega) c)
end Go.Proofs.Ythgefbabajpelaa.BloomS
