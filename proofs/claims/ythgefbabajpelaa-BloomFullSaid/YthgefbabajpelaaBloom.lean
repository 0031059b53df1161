/- What the printed functions of bloom, and of its reference, come to: bits of filters. -/
import Derived.Test.YthgefbabajpelaaPx
import Derived.Test.YthgefbabajpelaaTh
set_option linter.unusedVariables false
set_option linter.unusedSimpArgs false
namespace Go.Proofs.Ythgefbabajpelaa.BloomS
open Go.RowKit Go.Proofs.Ythgefbabajpelaa.P Go.Proofs.Ythgefbabajpelaa.Th Go.Proofs.YthgefbabajpelaaW.PrintWords Go.Proofs.YthgefbabajpelaaW.PrintLast Go.Proofs.YthgefbabajpelaaW.PrintMore

/-! ### a key's mix -/
def mixI (x : Int) (c : UInt8) : Int := IntKind.u64.wrap ((Go.bits .xor .u64 x (c.toNat : Int)) * 1099511628211)
def mix (l : List UInt8) : Int := l.foldl mixI 14695981039346656037
theorem mixI_range (x : Int) (c : UInt8) : 0 ≤ mixI x c ∧ mixI x c < 18446744073709551616 := by unfold mixI; rw [wu]; omega
theorem fold_range : ∀ (l : List UInt8) (x : Int), 0 ≤ x → x < 18446744073709551616 → 0 ≤ l.foldl mixI x ∧ l.foldl mixI x < 18446744073709551616
  | [], x, h0, h1 => ⟨h0, h1⟩
  | c :: l, x, _, _ => fold_range l _ (mixI_range x c).1 (mixI_range x c).2
theorem mix_range (l : List UInt8) : 0 ≤ mix l ∧ mix l < 18446744073709551616 := fold_range l _ (by decide) (by decide)
theorem mix_l0 : ∀ (rest pre : List UInt8) (x : Int), (pre ++ rest).length ≤ 140737488351232 →
    Ev (fun k => bloom_Mix.l0 k (lb (pre ++ rest)) x (((lb (pre ++ rest)).size : Nat) : Int) (pre.length : Int)) (rest.foldl mixI x) := by
  intro rest
  induction rest with
  | nil =>
    intro pre x hl
    refine Ev.step (fun k => by rw [bloom_Mix.l0]) ?_
    exact Ev.neg (by rw [lb_size]; simp) (Ev.now _)
  | cons c rest ih =>
    intro pre x hl
    have hlen : (pre ++ c :: rest).length = pre.length + 1 + rest.length := by simp; omega
    refine Ev.step (fun k => by rw [bloom_Mix.l0]) ?_
    refine Ev.pos (by rw [lb_size]; omega) (Ev.pos (by omega) (Ev.pos (by rw [lb_size]; omega) ?_))
    have hc := u8_lt c
    have e1 : wrap64 ((pre.length : Int) + 1) = ((pre.length + 1 : Nat) : Int) := by rw [w64 _ (by omega) (by omega)]; omega
    rw [bt_app, wu_nat _ (by omega), e1]
    have := ih (pre ++ [c]) (mixI x c) (by simpa using hl)
    simpa [mixI] using this
theorem Mix_ev (l : List UInt8) (h : l.length ≤ 140737488351232) : Ev (fun k => bloom_Mix.f k (lb l)) (mix l) := by
  have := mix_l0 l [] 14695981039346656037 (by simpa using h)
  exact this
theorem rmix_l0 : ∀ (rest pre : List UInt8) (x : Int), (pre ++ rest).length ≤ 140737488351232 →
    Ev (fun k => screeref10_Mix.l0 k (lb (pre ++ rest)) x (pre.length : Int)) (rest.foldl mixI x) := by
  intro rest
  induction rest with
  | nil =>
    intro pre x hl
    refine Ev.step (fun k => by rw [screeref10_Mix.l0]) ?_
    exact Ev.neg (by rw [lb_size]; simp) (Ev.now _)
  | cons c rest ih =>
    intro pre x hl
    have hlen : (pre ++ c :: rest).length = pre.length + 1 + rest.length := by simp; omega
    refine Ev.step (fun k => by rw [screeref10_Mix.l0]) ?_
    refine Ev.pos (by rw [lb_size]; omega) (Ev.pos (by omega) ?_)
    have hc := u8_lt c
    have e1 : wrap64 ((pre.length : Int) + 1) = ((pre.length + 1 : Nat) : Int) := by rw [w64 _ (by omega) (by omega)]; omega
    rw [bt_app, wu_nat _ (by omega), e1]
    have := ih (pre ++ [c]) (mixI x c) (by simpa using hl)
    simpa [mixI] using this
theorem RMix_ev (l : List UInt8) (h : l.length ≤ 140737488351232) : Ev (fun k => screeref10_Mix.f k (lb l)) (mix l) := by
  have := rmix_l0 l [] 14695981039346656037 (by simpa using h)
  exact this

/-! ### a key's bits -/
def bitsOf (l : List UInt8) (n : Int) : List Int := if n < 1 then [] else bloom_probes.ps (mix l) n
theorem bitsOf_in (l : List UInt8) (n : Int) (h2 : n ≤ 9223372036854775807) : ∀ p ∈ bitsOf l n, 0 ≤ p ∧ p < n := by
  unfold bitsOf
  split
  · simp
  · exact bloom_probes.in_ (mix l) n (mix_range l).1 (by omega) h2
theorem bitsOf_len (l : List UInt8) (n : Int) (h : 1 ≤ n) : (bitsOf l n).length = 4 := by
  unfold bitsOf; rw [if_neg (by omega)]; rfl
theorem bitsOf_less (l : List UInt8) (n : Int) : (bitsOf l n).length ≤ 4 := by
  unfold bitsOf; split <;> simp [bloom_probes.ps]
theorem Bits_ev (l : List UInt8) (n : Int) (h : l.length ≤ 140737488351232) (h2 : n ≤ 9223372036854775807) : Ev (fun k => bloom_Bits.f k (lb l) n) (bitsOf l n) := by
  unfold bloom_Bits.f bitsOf
  by_cases h1 : n < 1
  · rw [if_pos h1]; exact Ev.pos h1 (Ev.now _)
  · rw [if_neg h1]
    exact Ev.neg h1 (Ev.pos h2 (Ev.bind (Mix_ev l h) (Ev.now _)))
/-- How the reference turns a mix, up to bit i. -/
def tsum (h i : Nat) : Nat := h / 131072 + h % 2 ^ i * 140737488355328
theorem tsum_lt (h i : Nat) (hh : h < 18446744073709551616) (hi : i ≤ 17) : tsum h i < 18446744073709551616 := by
  unfold tsum
  have h1 : h % 2 ^ i < 2 ^ i := Nat.mod_lt _ (Nat.two_pow_pos i)
  have h2 : 2 ^ i ≤ 2 ^ 17 := Nat.pow_le_pow_right (by decide) hi
  omega
theorem tsum_succ (h i : Nat) : tsum h (i + 1) = tsum h i + h / 2 ^ i % 2 * 2 ^ (47 + i) := by
  unfold tsum
  have e1 : h % 2 ^ (i + 1) = h % 2 ^ i + 2 ^ i * (h / 2 ^ i % 2) := Nat.mod_pow_succ
  have e2 : 2 ^ (47 + i) = 140737488355328 * 2 ^ i := by rw [Nat.pow_add]
  rw [e1, e2, Nat.add_mul, Nat.add_assoc]
  congr 2
  rw [Nat.mul_comm (2 ^ i), Nat.mul_assoc, Nat.mul_comm (2 ^ i)]
theorem st_eq (h : Nat) (hh : h < 18446744073709551616) : bloom_probes.st (h : Int) = ((tsum h 17 : Nat) : Int) := by
  unfold bloom_probes.st
  have e1 : IntKind.u64.wrap ((h : Int) * 140737488355328) = ((h % 131072 * 2 ^ 47 : Nat) : Int) := by rw [wu]; omega
  have e2 : (h : Int) / 131072 = ((h / 131072 : Nat) : Int) := by omega
  rw [e1, e2, b64_or (h / 131072) (h % 131072) 47 (by omega) (by omega) (by omega)]
  rfl
theorem rbits_l2 (x1 h : Int) (out : List Int) (i : Nat) (hi : i < 17) (T : Int) {r : List Int} : ∀ (d j : Nat), j + d = 47 + i →
    Ev (fun k => screeref10_Bits.l0 k x1 out h (IntKind.u64.wrap (T + ((2 ^ (47 + i) : Nat) : Int))) ((i + 1 : Nat) : Int)) r →
    Ev (fun k => screeref10_Bits.l2 k x1 out h T (i : Int) ((2 ^ j : Nat) : Int) (j : Int)) r := by
  intro d
  induction d with
  | zero =>
    intro j hj hr
    refine Ev.step (fun k => by rw [screeref10_Bits.l2]) ?_
    have e1 : wrap64 (47 + (i : Int)) = 47 + (i : Int) := w64 _ (by omega) (by omega)
    have e2 : wrap64 ((i : Int) + 1) = ((i + 1 : Nat) : Int) := by rw [w64 _ (by omega) (by omega)]; omega
    have e3 : j = 47 + i := by omega
    rw [e1, e2, e3]
    exact Ev.neg (by omega) hr
  | succ d ih =>
    intro j hj hr
    refine Ev.step (fun k => by rw [screeref10_Bits.l2]) ?_
    have e1 : wrap64 (47 + (i : Int)) = 47 + (i : Int) := w64 _ (by omega) (by omega)
    have e2 : wrap64 ((j : Int) + 1) = ((j + 1 : Nat) : Int) := by rw [w64 _ (by omega) (by omega)]; omega
    have e4 : 2 ^ (j + 1) ≤ 2 ^ 63 := Nat.pow_le_pow_right (by decide) (by omega)
    have e3 : IntKind.u64.wrap (((2 ^ j : Nat) : Int) * 2) = ((2 ^ (j + 1) : Nat) : Int) := by
      rw [Nat.pow_succ] at e4 ⊢
      generalize 2 ^ j = q at e4 ⊢
      rw [wu_in _ (by omega) (by omega)]; omega
    rw [e1, e2, e3]
    exact Ev.pos (by omega) (ih (j + 1) (by omega) hr)
theorem rbits_l1 (x1 : Int) (h : Nat) (hh : h < 18446744073709551616) (out : List Int) (i : Nat) (hi : i < 17) {r : List Int} : ∀ (d j : Nat), j + d = i →
    Ev (fun k => screeref10_Bits.l0 k x1 out (h : Int) ((tsum h (i + 1) : Nat) : Int) ((i + 1 : Nat) : Int)) r →
    Ev (fun k => screeref10_Bits.l1 k x1 out (h : Int) ((tsum h i : Nat) : Int) (i : Int) ((h / 2 ^ j : Nat) : Int) (j : Int)) r := by
  intro d
  induction d with
  | zero =>
    intro j hj hr
    have hj : j = i := by omega
    subst hj
    refine Ev.step (fun k => by rw [screeref10_Bits.l1]) ?_
    refine Ev.neg (by omega) ?_
    have ts := tsum_succ h j
    have tl := tsum_lt h (j + 1) hh (by omega)
    have em : Int.tmod ((h / 2 ^ j : Nat) : Int) 2 = ((h / 2 ^ j % 2 : Nat) : Int) := by
      generalize h / 2 ^ j = q
      rw [Int.tmod_eq_emod_of_nonneg (by omega)]; omega
    rw [em]
    rcases Nat.mod_two_eq_zero_or_one (h / 2 ^ j) with h0 | h1
    · rw [h0] at ts ⊢
      refine Ev.neg (by omega) ?_
      have e2 : wrap64 ((j : Int) + 1) = ((j + 1 : Nat) : Int) := by rw [w64 _ (by omega) (by omega)]; omega
      rw [e2]
      rw [ts, Nat.zero_mul, Nat.add_zero] at hr
      exact hr
    · rw [h1] at ts ⊢
      refine Ev.pos (by omega) ?_
      refine rbits_l2 x1 (h : Int) out j hi _ (47 + j) 0 (by omega) ?_
      have e3 : IntKind.u64.wrap (((tsum h j : Nat) : Int) + ((2 ^ (47 + j) : Nat) : Int)) = ((tsum h (j + 1) : Nat) : Int) := by
        rw [ts, Nat.one_mul] at tl ⊢
        generalize 2 ^ (47 + j) = q at tl ⊢
        rw [wu_in _ (by omega) (by omega)]; omega
      rw [e3]
      exact hr
  | succ d ih =>
    intro j hj hr
    refine Ev.step (fun k => by rw [screeref10_Bits.l1]) ?_
    have e2 : wrap64 ((j : Int) + 1) = ((j + 1 : Nat) : Int) := by rw [w64 _ (by omega) (by omega)]; omega
    have hle : h / 2 ^ j ≤ h := Nat.div_le_self _ _
    have e3 : IntKind.u64.wrap (Int.tdiv ((h / 2 ^ j : Nat) : Int) 2) = ((h / 2 ^ (j + 1) : Nat) : Int) := by
      rw [Nat.pow_succ, ← Nat.div_div_eq_div_mul]
      generalize h / 2 ^ j = q at hle
      rw [Int.tdiv_eq_ediv_of_nonneg (by omega), wu_in _ (by omega) (by omega)]; omega
    rw [e2, e3]
    exact Ev.pos (by omega) (ih (j + 1) (by omega) hr)
theorem rbits_l0 (x1 : Int) (h : Nat) (hh : h < 18446744073709551616) (out : List Int) {r : List Int} : ∀ (d i : Nat), i + d = 17 →
    Ev (fun k => screeref10_Bits.l3 k x1 out (h : Int) ((tsum h 17 : Nat) : Int) 0) r →
    Ev (fun k => screeref10_Bits.l0 k x1 out (h : Int) ((tsum h i : Nat) : Int) (i : Int)) r := by
  intro d
  induction d with
  | zero =>
    intro i hi hr
    have hi : i = 17 := by omega
    subst hi
    refine Ev.step (fun k => by rw [screeref10_Bits.l0]) ?_
    exact Ev.neg (by omega) hr
  | succ d ih =>
    intro i hi hr
    refine Ev.step (fun k => by rw [screeref10_Bits.l0]) ?_
    refine Ev.pos (by omega) ?_
    have := rbits_l1 x1 h hh out i (by omega) i 0 (by omega) (ih (i + 1) (by omega) hr)
    simpa using this
theorem rbits_l3 (n : Int) (h1 : 1 ≤ n) (h2 : n ≤ 9223372036854775807) (h : Int) (h0 : 0 ≤ h) (hh : h < 18446744073709551616) (T : Int) (hT : T = bloom_probes.st h) :
    Ev (fun k => screeref10_Bits.l3 k n [] h T 0) (bloom_probes.ps h n) := by
  have hw : IntKind.u64.wrap n = n := wu_in _ (by omega) (by omega)
  have a0 : IntKind.u64.wrap (h + IntKind.u64.wrap (IntKind.u64.wrap 0 * T)) = h := by rw [wu, wu, wu]; omega
  have a1 : IntKind.u64.wrap (h + IntKind.u64.wrap (IntKind.u64.wrap 1 * T)) = IntKind.u64.wrap (h + T) := by
    have : IntKind.u64.wrap 1 = 1 := by decide
    rw [this, wu, wu, wu]; omega
  have a2 : IntKind.u64.wrap (h + IntKind.u64.wrap (IntKind.u64.wrap 2 * T)) = IntKind.u64.wrap (IntKind.u64.wrap (h + T) + T) := by
    have : IntKind.u64.wrap 2 = 2 := by decide
    rw [this, wu, wu, wu, wu]; omega
  have a3 : IntKind.u64.wrap (h + IntKind.u64.wrap (IntKind.u64.wrap 3 * T)) = IntKind.u64.wrap (IntKind.u64.wrap (IntKind.u64.wrap (h + T) + T) + T) := by
    have : IntKind.u64.wrap 3 = 3 := by decide
    rw [this, wu, wu, wu, wu, wu]; omega
  have w1 : wrap64 (0 + 1) = 1 := by decide +kernel
  have w2 : wrap64 (1 + 1) = 2 := by decide +kernel
  have w3 : wrap64 (2 + 1) = 3 := by decide +kernel
  have w4 : wrap64 (3 + 1) = 4 := by decide +kernel
  have hn : ¬ IntKind.u64.wrap n = 0 := by rw [hw]; omega
  refine Ev.step (fun k => by rw [screeref10_Bits.l3]) (Ev.pos (by omega) (Ev.pos (by omega) (Ev.neg hn (Ev.pos (by simp) ?_))))
  rw [w1]
  refine Ev.step (fun k => by rw [screeref10_Bits.l3]) (Ev.pos (by omega) (Ev.pos (by omega) (Ev.neg hn (Ev.pos (by simp) ?_))))
  rw [w2]
  refine Ev.step (fun k => by rw [screeref10_Bits.l3]) (Ev.pos (by omega) (Ev.pos (by omega) (Ev.neg hn (Ev.pos (by simp) ?_))))
  rw [w3]
  refine Ev.step (fun k => by rw [screeref10_Bits.l3]) (Ev.pos (by omega) (Ev.pos (by omega) (Ev.neg hn (Ev.pos (by simp) ?_))))
  rw [w4]
  refine Ev.step (fun k => by rw [screeref10_Bits.l3]) (Ev.neg (by omega) (Ev.val ?_))
  rw [a0, a1, a2, a3, hT]
  rfl
theorem RBits_ev (l : List UInt8) (n : Int) (h : l.length ≤ 140737488351232) (h2 : n ≤ 9223372036854775807) : Ev (fun k => screeref10_Bits.f k (lb l) n) (bitsOf l n) := by
  unfold screeref10_Bits.f bitsOf
  obtain ⟨m0, m1⟩ := mix_range l
  refine Ev.bind (RMix_ev l h) ?_
  obtain ⟨m, hm⟩ := Int.eq_ofNat_of_zero_le m0
  rw [hm]
  have hml : m < 18446744073709551616 := by omega
  have e1 : IntKind.u64.wrap (Int.tdiv (m : Int) 131072) = ((tsum m 0 : Nat) : Int) := by
    rw [Int.tdiv_eq_ediv_of_nonneg (by omega), wu_in _ (by omega) (by omega)]
    unfold tsum; simp [Nat.mod_one]
  rw [e1]
  by_cases h1 : n < 1
  · rw [if_pos h1]
    refine rbits_l0 n m hml [] 17 0 (by omega) ?_
    refine Ev.step (fun k => by rw [screeref10_Bits.l3]) (Ev.pos (by omega) (Ev.neg (by omega) (Ev.now _)))
  · rw [if_neg h1]
    refine rbits_l0 n m hml [] 17 0 (by omega) ?_
    exact rbits_l3 n (by omega) h2 (m : Int) (by omega) (by omega) _ (st_eq m hml).symm
end Go.Proofs.Ythgefbabajpelaa.BloomS
