/- num: folding, unfolding, fitting; what is fixed of it. -/
import Derived.Test.YtodblgdpnjdnkaaNum
set_option linter.unusedVariables false
set_option linter.unusedSimpArgs false
namespace Go.Proofs.Ytodblgdpnjdnkaa.NumS
open Go.RowKit Go.Proofs.Ytodblgdpnjdnkaa.P Go.Proofs.Ytodblgdpnjdnkaa.Th Go.Proofs.YtodblgdpnjdnkaaW.PrintWords Go.Proofs.YtodblgdpnjdnkaaW.PrintLast Go.Proofs.YtodblgdpnjdnkaaW.PrintMore

def fold (a : Int) : Int := if 0 ≤ a then 2 * a else -2 * a - 1
def unfold (n : Int) : Int := if n % 2 = 0 then n / 2 else -(n / 2) - 1
theorem unfold_fold (a : Int) : unfold (fold a) = a := by unfold fold unfold; split <;> split <;> omega
theorem fold_unfold (n : Int) (h : 0 ≤ n) : fold (unfold n) = n := by unfold fold unfold; split <;> split <;> omega
theorem xor_zero (n : Nat) (h : n < 18446744073709551616) : Go.bits .xor .u64 (n : Int) 0 = (n : Int) := by
  have e : Go.bits .xor .u64 (n : Int) 0 = IntKind.u64.wrap (((BitVec.ofNat 64 n ^^^ BitVec.ofNat 64 0).toNat : Nat) : Int) := rfl
  rw [e]
  have e2 : BitVec.ofNat 64 n ^^^ BitVec.ofNat 64 0 = BitVec.ofNat 64 n := by
    have : BitVec.ofNat 64 0 = 0#64 := rfl
    rw [this, BitVec.xor_zero]
  rw [e2, BitVec.toNat_ofNat, wu]
  omega
theorem xor_max (n : Nat) (h : n < 18446744073709551616) : Go.bits .xor .u64 (n : Int) ((18446744073709551615 : Nat) : Int) = ((18446744073709551615 - n : Nat) : Int) := by
  have e : Go.bits .xor .u64 (n : Int) ((18446744073709551615 : Nat) : Int) = IntKind.u64.wrap (((BitVec.ofNat 64 n ^^^ BitVec.ofNat 64 18446744073709551615).toNat : Nat) : Int) := rfl
  rw [e, BitVec.xor_comm, bv_max, BitVec.toNat_not, BitVec.toNat_ofNat, wu]
  omega
theorem Fold_f (a : Int) (h0 : -9223372036854775808 ≤ a) (h1 : a < 9223372036854775808) : num_Fold.f a = some (fold a) := by
  unfold num_Fold.f fold
  congr 1
  by_cases h : 0 ≤ a
  · rw [if_pos h]
    have e1 : IntKind.u64.wrap (IntKind.u64.wrap a * 2) = (((2 * a).toNat : Nat) : Int) := by rw [wu, wu]; omega
    have e2 : IntKind.u64.wrap (a / 9223372036854775808) = 0 := by
      have : a / 9223372036854775808 = 0 := by omega
      rw [this]; decide
    rw [e1, e2, xor_zero _ (by omega)]; omega
  · rw [if_neg h]
    have e1 : IntKind.u64.wrap (IntKind.u64.wrap a * 2) = (((2 * a + 18446744073709551616).toNat : Nat) : Int) := by rw [wu, wu]; omega
    have e2 : IntKind.u64.wrap (a / 9223372036854775808) = ((18446744073709551615 : Nat) : Int) := by
      have : a / 9223372036854775808 = -1 := by omega
      rw [this]; decide
    rw [e1, e2, xor_max _ (by omega)]; omega
theorem RFold_f (a : Int) (h0 : -9223372036854775808 ≤ a) (h1 : a < 9223372036854775808) : screeref01_Fold.f a = some (fold a) := by
  unfold screeref01_Fold.f fold
  by_cases h : 0 ≤ a
  · rw [if_pos h, if_pos (by omega), wu, wu]; congr 1; omega
  · rw [if_neg h, if_neg (by omega)]
    have e1 : wrap64 (a + 1) = a + 1 := w64 _ (by omega) (by omega)
    have e2 : wrap64 (-(a + 1)) = -(a + 1) := w64 _ (by omega) (by omega)
    rw [e1, e2, wu, wu, wu]; congr 1; omega
theorem and_one (n : Nat) (h : n < 18446744073709551616) : Go.bits .and .u64 (n : Int) 1 = ((n % 2 : Nat) : Int) := by
  have := bits_mask .u64 64 (by decide) wraps_u64 1 (by decide) (n : Int) (by omega) (by simpa using (by omega : (n : Int) < 18446744073709551616))
  simpa using this
theorem i64_xor0 (n : Nat) (h : n < 9223372036854775808) : Go.bits .xor .i64 (n : Int) 0 = (n : Int) := by
  have e : Go.bits .xor .i64 (n : Int) 0 = IntKind.i64.wrap (((BitVec.ofNat 64 n ^^^ BitVec.ofNat 64 0).toNat : Nat) : Int) := rfl
  rw [e]
  have e2 : BitVec.ofNat 64 n ^^^ BitVec.ofNat 64 0 = BitVec.ofNat 64 n := by
    have : BitVec.ofNat 64 0 = 0#64 := rfl
    rw [this, BitVec.xor_zero]
  rw [e2, BitVec.toNat_ofNat, IntKind.wrap_i64]
  omega
theorem i64_xor1 (n : Nat) (h : n < 9223372036854775808) : Go.bits .xor .i64 (n : Int) (-1) = -1 - (n : Int) := by
  have e : Go.bits .xor .i64 (n : Int) (-1) = IntKind.i64.wrap (((BitVec.ofNat 64 n ^^^ BitVec.ofNat 64 18446744073709551615).toNat : Nat) : Int) := rfl
  rw [e, BitVec.xor_comm, bv_max, BitVec.toNat_not, BitVec.toNat_ofNat, IntKind.wrap_i64]
  omega
theorem Unfold_f (n : Nat) (h : n < 18446744073709551616) : num_Unfold.f (n : Int) = some (unfold (n : Int)) := by
  unfold num_Unfold.f unfold
  congr 1
  have e1 : wrap64 ((n : Int) / 2) = ((n / 2 : Nat) : Int) := by rw [w64 _ (by omega) (by omega)]; omega
  rw [and_one n h, e1]
  rcases Nat.mod_two_eq_zero_or_one n with h2 | h2
  · rw [h2, if_pos (by omega)]
    have : wrap64 (-(wrap64 ((0 : Nat) : Int))) = 0 := by unfold wrap64; omega
    rw [this, i64_xor0 _ (by omega)]; omega
  · rw [h2, if_neg (by omega)]
    have : wrap64 (-(wrap64 ((1 : Nat) : Int))) = -1 := by unfold wrap64; omega
    rw [this, i64_xor1 _ (by omega)]; omega
theorem RUnfold_f (n : Nat) (h : n < 18446744073709551616) : screeref01_Unfold.f (n : Int) = some (unfold (n : Int)) := by
  unfold screeref01_Unfold.f unfold
  rw [Int.tmod_eq_emod_of_nonneg (by omega), Int.tdiv_eq_ediv_of_nonneg (by omega)]
  have e1 : IntKind.u64.wrap ((n : Int) / 2) = (n : Int) / 2 := wu_in _ (by omega) (by omega)
  rw [e1]
  by_cases h2 : (n : Int) % 2 = 0
  · rw [if_pos h2, if_pos h2, w64 _ (by omega) (by omega)]
  · rw [if_neg h2, if_neg h2, w64 ((n : Int) / 2) (by omega) (by omega), w64 (-((n : Int) / 2)) (by omega) (by omega), w64 _ (by omega) (by omega)]
theorem unfold_range (n : Nat) (h : n < 18446744073709551616) : -9223372036854775808 ≤ unfold (n : Int) ∧ unfold (n : Int) < 9223372036854775808 := by
  unfold unfold; split <;> omega
theorem fold_range (a : Int) (h0 : -9223372036854775808 ≤ a) (h1 : a < 9223372036854775808) : 0 ≤ fold a ∧ fold a < 18446744073709551616 := by
  unfold fold; split <;> omega

/-- So few bits. -/
def fits (n : Nat) (b : Int) : Bool := decide (64 ≤ b) || decide (n < 2 ^ b.toNat)
theorem div_pow_zero (n j : Nat) : ((((n / 2 ^ j : Nat) : Int)) == 0) = decide (n < 2 ^ j) := by
  rw [Bool.eq_iff_iff, beq_iff_eq, decide_eq_true_eq]
  have h := Nat.div_eq_zero_iff (a := n) (b := 2 ^ j)
  have hp : 2 ^ j ≠ 0 := Nat.pos_iff_ne_zero.1 (Nat.two_pow_pos j)
  constructor
  · intro e
    have e' : n / 2 ^ j = 0 := by exact_mod_cast e
    rcases h.1 e' with h' | h'
    · exact absurd h' hp
    · exact h'
  · intro e
    have := h.2 (.inr e)
    rw [this]; rfl
theorem Fits_f (n : Nat) (b : Int) : num_Fits.f (n : Int) b = some (fits n b) := by
  unfold num_Fits.f fits
  by_cases h : 64 ≤ b
  · rw [if_pos h, decide_eq_true h]; rfl
  · rw [if_neg h, decide_eq_false h, Bool.false_or]
    have e : mx b 0 = ((b.toNat : Nat) : Int) := by unfold mx; split <;> omega
    rw [e, shr_nat _ _ (by omega), div_pow_zero]
theorem rfits_l0 : ∀ (d n : Nat) (b i : Int), b < 64 → 0 ≤ i → (b - i).toNat = d → n < 18446744073709551616 → Ev (fun k => screeref01_Fits.l0 k (n : Int) b i) (decide (n < 2 ^ d)) := by
  intro d
  induction d with
  | zero =>
    intro n b i hb hi hd hn
    refine Ev.step (fun k => by rw [screeref01_Fits.l0]) ?_
    refine Ev.neg (by omega) (Ev.val ?_)
    have := div_pow_zero n 0
    simpa using this
  | succ d ih =>
    intro n b i hb hi hd hn
    refine Ev.step (fun k => by rw [screeref01_Fits.l0]) ?_
    refine Ev.pos (by omega) ?_
    have t1 : IntKind.u64.wrap (Int.tdiv (n : Int) 2) = ((n / 2 : Nat) : Int) := by
      rw [Int.tdiv_eq_ediv_of_nonneg (by omega), wu_in _ (by omega) (by omega)]; omega
    rw [t1, w64 (i + 1) (by omega) (by omega)]
    refine Ev.eq (ih (n / 2) b (i + 1) hb (by omega) (by omega) (by omega)) ?_
    have : n / 2 < 2 ^ d ↔ n < 2 ^ (d + 1) := by rw [Nat.pow_succ, Nat.div_lt_iff_lt_mul (by decide)]
    simp only [this]
theorem RFits_ev (n : Nat) (b : Int) (hn : n < 18446744073709551616) : Ev (fun k => screeref01_Fits.f k (n : Int) b) (fits n b) := by
  unfold screeref01_Fits.f fits
  by_cases h : 64 ≤ b
  · rw [decide_eq_true h, Bool.true_or]; exact Ev.pos h (Ev.now _)
  · rw [decide_eq_false h, Bool.false_or]
    exact Ev.neg h (rfits_l0 b.toNat n b 0 (by omega) (by omega) (by omega) hn)
end Go.Proofs.Ytodblgdpnjdnkaa.NumS
