/- gc: what num, key and col come to, as far as gc's own laws need it (out of the templates of those seats, by wip/gen/gc_tpl.py). -/
import Derived.Test.YtcdadhgcjkgnoaaPx0
import Derived.Test.YtcdadhgcjkgnoaaPx2
import Derived.Test.YtcdadhgcjkgnoaaPx3
import Derived.Test.YtcdadhgcjkgnoaaPx4
import Derived.Test.YtcdadhgcjkgnoaaPx5
import Derived.Test.YtcdadhgcjkgnoaaPx6
import Derived.Test.YtcdadhgcjkgnoaaPx7
import Derived.Test.YtcdadhgcjkgnoaaPx9
import Derived.Test.YtcdadhgcjkgnoaaPx10
import Derived.Test.YtcdadhgcjkgnoaaTh2
import Derived.Test.YtcdadhgcjkgnoaaKeyT
set_option linter.unusedVariables false
set_option linter.unusedSimpArgs false
namespace Go.Proofs.Ytcdadhgcjkgnoaa.NumS
open Go.RowKit Go.Proofs.Ytcdadhgcjkgnoaa.P Go.Proofs.Ytcdadhgcjkgnoaa.Th Go.Proofs.YtcdadhgcjkgnoaaW.PrintWords Go.Proofs.YtcdadhgcjkgnoaaW.PrintLast Go.Proofs.YtcdadhgcjkgnoaaW.PrintMore
theorem short_l0 (m : Nat) : ∀ (n : Nat) (acc : List Int), n < 128 ^ (m + 1) → acc.length + m + 1 < 140737488355328 →
    Ev (fun k => num_Short.l0 k (n : Int) acc) (lb (ofI acc ++ short n)) := by
  induction m with
  | zero =>
    intro n acc h hl
    refine Ev.step (fun k => by rw [num_Short.l0]) ?_
    refine Ev.neg (by omega) (Ev.pos (by omega) (Ev.val ?_))
    rw [son, ofI_app, ofI_mod, short_lt n (by omega)]
  | succ m ih =>
    intro n acc h hl
    refine Ev.step (fun k => by rw [num_Short.l0]) ?_
    rcases Nat.lt_or_ge n 128 with h1 | h1
    · refine Ev.neg (by omega) (Ev.pos (by omega) (Ev.val ?_))
      rw [son, ofI_app, ofI_mod, short_lt n h1]
    · refine Ev.pos (by omega) (Ev.pos (by omega) ?_)
      have e1 : ((n : Int) / 128) = ((n / 128 : Nat) : Int) := by omega
      have e2 : ((n : Int) % 256) = ((n % 256 : Nat) : Int) := by omega
      have e3 : n % 256 % 128 = n % 128 := by omega
      rw [e1, e2, b8_or128 _ (by omega), e3]
      have := ih (n / 128) (acc ++ [((n % 128 + 128 : Nat) : Int)]) (by rw [Nat.div_lt_iff_lt_mul (by decide)]; rw [Nat.pow_succ] at h; exact h) (by simp; omega)
      refine Ev.eq this ?_
      rw [ofI_app, ofI_one, short_ge n h1]; simp
theorem Short_ev (n : Nat) (h : n < 18446744073709551616) : Ev (fun k => num_Short.f k (n : Int)) (lb (short n)) :=
  short_l0 9 n [] (Nat.lt_of_lt_of_le h (by decide)) (by simp)

/-! ### taking -/
def tres : Option (Nat × List UInt8) → Int × ByteArray × Bool
  | some (n, r) => ((n : Int), lb r, true)
  | none => (0, lb [], false)
/-- What is taken behind i bytes that go on, of which the number x was read. -/
def tki (i x : Nat) (l : List UInt8) : Option (Nat × List UInt8) := match tka l with
  | some (m, r) => if (i = 0 ∨ m ≠ 0) ∧ x + m * 2 ^ (7 * i) < 18446744073709551616 then some (x + m * 2 ^ (7 * i), r) else none
  | none => none
theorem tki_zero (l : List UInt8) : tki 0 0 l = tk l := by
  unfold tki tk
  cases tka l with
  | none => rfl
  | some p => obtain ⟨m, r⟩ := p; simp
theorem pow7 (i : Nat) : 2 ^ (7 * (i + 1)) = 128 * 2 ^ (7 * i) := by rw [Nat.mul_add, Nat.pow_add, Nat.mul_comm]
theorem tki_step (i x : Nat) (c : UInt8) (l : List UInt8) (h : ¬ c.toNat < 128) : tki i x (c :: l) = tki (i + 1) (x + c.toNat % 128 * 2 ^ (7 * i)) l := by
  unfold tki
  cases e : tka l with
  | none => rw [tka_none h e]
  | some p =>
    obtain ⟨m, r⟩ := p
    rw [tka_some h e]
    by_cases hm : m = 0
    · simp [hm]
    · have h1 : x + (c.toNat % 128 + 128 * m) * 2 ^ (7 * i) = x + c.toNat % 128 * 2 ^ (7 * i) + m * 2 ^ (7 * (i + 1)) := by
        rw [pow7, Nat.add_mul]
        have : 128 * m * 2 ^ (7 * i) = m * (128 * 2 ^ (7 * i)) := by rw [Nat.mul_comm 128 m, Nat.mul_assoc]
        omega
      have h2 : (i = 0 ∨ c.toNat % 128 + 128 * m ≠ 0) := by omega
      simp only [if_neg hm]
      rw [h1]
      have h3 : (i + 1 = 0 ∨ m ≠ 0) := .inr hm
      simp only [h2, h3, true_and]
theorem tki_big (i x : Nat) (c : UInt8) (l : List UInt8) (hi : 10 ≤ i) : tki i x (c :: l) = none := by
  unfold tki
  cases e : tka (c :: l) with
  | none => rfl
  | some p =>
    obtain ⟨m, r⟩ := p
    simp only
    rw [if_neg]
    rintro ⟨h1, h2⟩
    have hm : m ≠ 0 := by omega
    have : 2 ^ 70 ≤ 2 ^ (7 * i) := Nat.pow_le_pow_right (by decide) (by omega)
    have h3 : 1 * 2 ^ (7 * i) ≤ m * 2 ^ (7 * i) := Nat.mul_le_mul_right _ (by omega)
    omega
theorem tki_over (i x : Nat) (c : UInt8) (l : List UInt8) (hi : 18446744073709551616 ≤ c.toNat % 128 * 2 ^ (7 * i)) : tki i x (c :: l) = none := by
  unfold tki
  cases e : tka (c :: l) with
  | none => rfl
  | some p =>
    obtain ⟨m, r⟩ := p
    simp only
    rw [if_neg]
    rintro ⟨h1, h2⟩
    have hm : c.toNat % 128 ≤ m := by
      rcases Nat.lt_or_ge c.toNat 128 with hc | hc
      · rw [tka_cons_lt _ _ hc] at e; simp at e; omega
      · cases e2 : tka l with
        | none => rw [tka_none (by omega) e2] at e; cases e
        | some q =>
          obtain ⟨m', r'⟩ := q
          rw [tka_some (by omega) e2] at e
          split at e
          · cases e
          · simp at e; omega
    have h3 : c.toNat % 128 * 2 ^ (7 * i) ≤ m * 2 ^ (7 * i) := Nat.mul_le_mul_right _ hm
    omega
theorem tki_last (i x : Nat) (c : UInt8) (l : List UInt8) (h : c.toNat < 128) :
    tki i x (c :: l) = if (i = 0 ∨ c.toNat ≠ 0) ∧ x + c.toNat * 2 ^ (7 * i) < 18446744073709551616 then some (x + c.toNat * 2 ^ (7 * i), l) else none := by
  unfold tki; rw [tka_cons_lt _ _ h]
theorem shl_nat (x y : Nat) (hy : y ≤ 64) : shl .u64 (x : Int) (y : Int) = ((x * 2 ^ y % 18446744073709551616 : Nat) : Int) := by
  unfold shl
  have h : min ((y : Int)).toNat IntKind.u64.bits = y := by show min ((y : Int)).toNat 64 = y; omega
  rw [h, wu]
  simp
theorem shr_nat (x y : Nat) (hy : y ≤ 64) : shr .u64 (x : Int) (y : Int) = ((x / 2 ^ y : Nat) : Int) := by
  unfold shr
  have h : min ((y : Int)).toNat IntKind.u64.bits = y := by show min ((y : Int)).toNat 64 = y; omega
  rw [h]
  simp
theorem shift_back (low j : Nat) (hl : low < 256) : decide ((low * 2 ^ j % 18446744073709551616) / 2 ^ j = low) = decide (low * 2 ^ j < 18446744073709551616) := by
  have hp : 0 < 2 ^ j := Nat.two_pow_pos j
  rcases Nat.lt_or_ge (low * 2 ^ j) 18446744073709551616 with h | h
  · rw [Nat.mod_eq_of_lt h, Nat.mul_div_cancel _ hp]; simp [h]
  · have h1 : (low * 2 ^ j % 18446744073709551616) / 2 ^ j < low := by
      rw [Nat.div_lt_iff_lt_mul hp]; omega
    have h2 : ¬ (low * 2 ^ j < 18446744073709551616) := by omega
    simp only [h2, decide_false, decide_eq_false_iff_not]
    omega
theorem drop_app1 (pre rest : List UInt8) (c : UInt8) : (List.take (pre ++ c :: rest).length (pre ++ c :: rest)).drop (pre.length + 1) = rest := by
  rw [List.take_length, ← List.drop_drop]; simp

theorem take_l0 : ∀ (rest pre : List UInt8) (x : Nat), (pre ++ rest).length ≤ 140737488351232 → (x < 18446744073709551616 ∧ x < 2 ^ (7 * pre.length)) →
    Ev (fun k => num_Take.l0 k (lb (pre ++ rest)) (x : Int) (((lb (pre ++ rest)).size : Nat) : Int) (pre.length : Int)) (tres (tki pre.length x rest)) := by
  intro rest
  induction rest with
  | nil =>
    intro pre x hl hx
    refine Ev.step (fun k => by rw [num_Take.l0]) ?_
    refine Ev.neg (by rw [lb_size]; simp) (Ev.val ?_)
    rfl
  | cons c rest ih =>
    intro pre x hl hx
    have hlen : (pre ++ c :: rest).length = pre.length + 1 + rest.length := by simp; omega
    have hc := u8_lt c
    have hb : IntKind.u64.wrap (bt (lb (pre ++ c :: rest)) (pre.length : Int)) = ((c.toNat : Nat) : Int) := by
      rw [bt_app]; exact wu_nat _ (by omega)
    have e7 : wrap64 (7 * (pre.length : Int)) = ((7 * pre.length : Nat) : Int) := by rw [w64 _ (by omega) (by omega)]; omega
    refine Ev.step (fun k => by rw [num_Take.l0]) ?_
    refine Ev.pos (by rw [lb_size]; omega) (Ev.pos (by omega) (Ev.pos (by rw [lb_size]; omega) ?_))
    rw [hb, e7, b64_andNot128 _ hc]
    by_cases h7 : 64 ≤ 7 * pre.length
    · refine Ev.pos (by omega) ?_
      refine Ev.step (fun k => by rw [num_Take.j1]) ?_
      refine Ev.pos rfl (Ev.val ?_)
      rw [tki_big _ _ _ _ (by omega)]; rfl
    · refine Ev.neg (by omega) (Ev.pos (by omega) ?_)
      rw [shl_nat _ _ (by omega), shr_nat _ _ (by omega)]
      have hsb := shift_back (c.toNat % 128) (7 * pre.length) (by omega)
      have hbne : (((((c.toNat % 128 * 2 ^ (7 * pre.length) % 18446744073709551616) / 2 ^ (7 * pre.length) : Nat) : Int)) != ((c.toNat % 128 : Nat) : Int)) = !decide (c.toNat % 128 * 2 ^ (7 * pre.length) < 18446744073709551616) := by
        rw [← hsb]
        by_cases e : (c.toNat % 128 * 2 ^ (7 * pre.length) % 18446744073709551616) / 2 ^ (7 * pre.length) = c.toNat % 128
        · rw [e]; simp
        · rw [decide_eq_false e]
          have : ((((c.toNat % 128 * 2 ^ (7 * pre.length) % 18446744073709551616) / 2 ^ (7 * pre.length) : Nat) : Int)) ≠ ((c.toNat % 128 : Nat) : Int) := by exact_mod_cast e
          simpa using this
      rw [hbne]
      by_cases hov : c.toNat % 128 * 2 ^ (7 * pre.length) < 18446744073709551616
      · rw [decide_eq_true hov]
        refine Ev.step (fun k => by rw [num_Take.j1]) ?_
        refine Ev.neg (by simp) (Ev.pos (by omega) ?_)
        rw [shl_nat _ _ (by omega), Nat.mod_eq_of_lt hov, b64_or x _ _ hx.2 hov hx.1]
        have e1 : wrap64 ((pre.length : Int) + 1) = ((pre.length + 1 : Nat) : Int) := by rw [w64 _ (by omega) (by omega)]; omega
        have hpow : c.toNat % 128 * 2 ^ (7 * pre.length) ≤ 127 * 2 ^ (7 * pre.length) := Nat.mul_le_mul_right _ (by omega)
        have hlt : x + c.toNat % 128 * 2 ^ (7 * pre.length) < 2 ^ (7 * (pre.length + 1)) := by rw [pow7]; omega
        have hsum : x + c.toNat % 128 * 2 ^ (7 * pre.length) < 18446744073709551616 := by
          have hdiv : (2 ^ (7 * pre.length)) * 2 ^ (64 - 7 * pre.length) = 18446744073709551616 := by
            rw [← Nat.pow_add, show 7 * pre.length + (64 - 7 * pre.length) = 64 by omega]
          have hlow : c.toNat % 128 + 1 ≤ 2 ^ (64 - 7 * pre.length) := by
            rw [← hdiv, Nat.mul_comm] at hov
            exact Nat.lt_of_mul_lt_mul_left hov
          have := Nat.mul_le_mul_left (2 ^ (7 * pre.length)) hlow
          rw [hdiv, Nat.mul_add, Nat.mul_one, Nat.mul_comm] at this
          omega
        by_cases h128 : c.toNat < 128
        · have hm : c.toNat % 128 = c.toNat := Nat.mod_eq_of_lt h128
          rw [hm] at hsum
          refine Ev.pos (by omega) ?_
          rw [tki_last _ _ _ _ h128, e1, hm]
          have hext : (lb (pre ++ c :: rest)).extract (((pre.length + 1 : Nat) : Int)).toNat (lb (pre ++ c :: rest)).size = lb rest := by
            rw [lb_extract, lb_size]
            have : (((pre.length + 1 : Nat) : Int)).toNat = pre.length + 1 := by omega
            rw [this, drop_app1]
          rw [hext]
          by_cases h0 : c.toNat = 0
          · refine Ev.pos (by omega) ?_
            by_cases hi : pre.length = 0
            · refine Ev.neg (by omega) (Ev.pos (by omega) (Ev.pos (by rw [lb_size]; omega) (Ev.val ?_)))
              rw [if_pos ⟨.inl hi, hsum⟩]; rfl
            · refine Ev.pos (by omega) (Ev.val ?_)
              rw [if_neg (by rintro ⟨h, _⟩; omega)]; rfl
          · refine Ev.neg (by omega) (Ev.pos (by omega) (Ev.pos (by rw [lb_size]; omega) (Ev.val ?_)))
            rw [if_pos ⟨.inr h0, hsum⟩]; rfl
        · refine Ev.neg (by omega) ?_
          rw [e1, tki_step _ _ _ _ h128]
          have := ih (pre ++ [c]) (x + c.toNat % 128 * 2 ^ (7 * pre.length)) (by simpa using hl) ⟨hsum, by simpa using hlt⟩
          simpa using this
      · rw [decide_eq_false hov]
        refine Ev.step (fun k => by rw [num_Take.j1]) ?_
        refine Ev.pos rfl (Ev.val ?_)
        rw [tki_over _ _ _ _ (by omega)]; rfl
theorem Take_ev (l : List UInt8) (h : l.length ≤ 140737488351232) : Ev (fun k => num_Take.f k (lb l)) (tres (tk l)) := by
  have := take_l0 l [] 0 (by simpa using h) (by simp)
  simp only [List.nil_append, List.length_nil, tki_zero] at this
  exact this
end Go.Proofs.Ytcdadhgcjkgnoaa.NumS
namespace Go.Proofs.Ytcdadhgcjkgnoaa.NumS
open Go.RowKit Go.Proofs.Ytcdadhgcjkgnoaa.P Go.Proofs.Ytcdadhgcjkgnoaa.Th Go.Proofs.YtcdadhgcjkgnoaaW.PrintWords Go.Proofs.YtcdadhgcjkgnoaaW.PrintLast Go.Proofs.YtcdadhgcjkgnoaaW.PrintMore
theorem rshort_l0 (m : Nat) : ∀ (n : Nat) (acc : List Int), n < 128 ^ (m + 1) → n < 18446744073709551616 → acc.length + m + 1 < 140737488355328 →
    Ev (fun k => screeref01_Short.l0 k (n : Int) acc) (lb (ofI acc ++ short n)) := by
  induction m with
  | zero =>
    intro n acc h hn hl
    refine Ev.step (fun k => by rw [screeref01_Short.l0]) ?_
    refine Ev.neg (by omega) (Ev.pos (by omega) (Ev.val ?_))
    rw [son, ofI_app, ofI_mod, short_lt n (by omega)]
  | succ m ih =>
    intro n acc h hn hl
    refine Ev.step (fun k => by rw [screeref01_Short.l0]) ?_
    rcases Nat.lt_or_ge n 128 with h1 | h1
    · refine Ev.neg (by omega) (Ev.pos (by omega) (Ev.val ?_))
      rw [son, ofI_app, ofI_mod, short_lt n h1]
    · refine Ev.pos (by omega) (Ev.pos (by omega) ?_)
      have t1 : Int.tdiv (n : Int) 128 = ((n / 128 : Nat) : Int) := by rw [Int.tdiv_eq_ediv_of_nonneg (by omega)]; omega
      have t2 : Int.tmod (n : Int) 128 = ((n % 128 : Nat) : Int) := by rw [Int.tmod_eq_emod_of_nonneg (by omega)]; omega
      have e1 : IntKind.u64.wrap (Int.tdiv (n : Int) 128) = ((n / 128 : Nat) : Int) := by rw [t1]; exact wu_nat _ (by omega)
      have e2 : IntKind.u64.wrap (Int.tmod (n : Int) 128 + 128) % 256 = ((n % 128 + 128 : Nat) : Int) := by
        rw [t2, wu_in _ (by omega) (by omega)]; omega
      rw [e1, e2]
      have := ih (n / 128) (acc ++ [((n % 128 + 128 : Nat) : Int)]) (by rw [Nat.div_lt_iff_lt_mul (by decide)]; rw [Nat.pow_succ] at h; exact h) (by omega) (by simp; omega)
      refine Ev.eq this ?_
      rw [ofI_app, ofI_one, short_ge n h1]; simp
theorem RShort_ev (n : Nat) (h : n < 18446744073709551616) : Ev (fun k => screeref01_Short.f k (n : Int)) (lb (short n)) :=
  rshort_l0 9 n [] (Nat.lt_of_lt_of_le h (by decide)) h (by simp)
end Go.Proofs.Ytcdadhgcjkgnoaa.NumS
namespace Go.Proofs.Ytcdadhgcjkgnoaa.NumS
open Go.RowKit Go.Proofs.Ytcdadhgcjkgnoaa.P Go.Proofs.Ytcdadhgcjkgnoaa.Th Go.Proofs.YtcdadhgcjkgnoaaW.PrintWords Go.Proofs.YtcdadhgcjkgnoaaW.PrintLast Go.Proofs.YtcdadhgcjkgnoaaW.PrintMore
theorem Long_f (n : Nat) : num_Long.f (n : Int) = some (lb (long n)) := by
  unfold num_Long.f
  congr 1
  rw [son]
  congr 1
  simp only [num_Long.bs, ofI, long, longk, List.map_cons, List.map_nil, List.nil_append, List.cons_append, Nat.div_div_eq_div_mul]
  have e0 : ((n : Int) % 256).toNat = n % 256 := by omega
  have e1 : ((n : Int) / 256 % 256).toNat = n / 256 % 256 := by omega
  have e2 : ((n : Int) / 65536 % 256).toNat = n / 65536 % 256 := by omega
  have e3 : ((n : Int) / 16777216 % 256).toNat = n / 16777216 % 256 := by omega
  have e4 : ((n : Int) / 4294967296 % 256).toNat = n / 4294967296 % 256 := by omega
  have e5 : ((n : Int) / 1099511627776 % 256).toNat = n / 1099511627776 % 256 := by omega
  have e6 : ((n : Int) / 281474976710656 % 256).toNat = n / 281474976710656 % 256 := by omega
  have e7 : ((n : Int) / 72057594037927936 % 256).toNat = n / 72057594037927936 % 256 := by omega
  rw [e0, e1, e2, e3, e4, e5, e6, e7]
theorem rlong_l0 : ∀ (j n : Nat) (t : List UInt8), j + t.length = 8 → n < 18446744073709551616 →
    Ev (fun k => screeref01_Long.l0 k (n : Int) (List.replicate j (0 : Int) ++ toI t) ((j : Int) - 1)) (lb (longk j n ++ t)) := by
  intro j
  induction j with
  | zero =>
    intro n t h hn
    refine Ev.step (fun k => by rw [screeref01_Long.l0]) ?_
    refine Ev.neg (by omega) (Ev.val ?_)
    rw [son]; simp [ofI_toI, longk]
  | succ j ih =>
    intro n t h hn
    refine Ev.step (fun k => by rw [screeref01_Long.l0]) ?_
    refine Ev.pos (by omega) (Ev.pos (by omega) (Ev.pos (by simp; omega) ?_))
    have t1 : IntKind.u64.wrap (Int.tdiv (n : Int) 256) = ((n / 256 : Nat) : Int) := by
      rw [Int.tdiv_eq_ediv_of_nonneg (by omega), wu_in _ (by omega) (by omega)]; omega
    have t2 : Int.tmod (n : Int) 256 % 256 = ((n % 256 : Nat) : Int) := by
      rw [Int.tmod_eq_emod_of_nonneg (by omega)]; omega
    have t3 : (((j + 1 : Nat) : Int) - 1).toNat = j := by omega
    have t4 : wrap64 (((j + 1 : Nat) : Int) - 1 - 1) = (j : Int) - 1 := by rw [w64 _ (by omega) (by omega)]; omega
    rw [t1, t2, t3, t4]
    have hset : (List.replicate (j + 1) (0 : Int) ++ toI t).set j ((n % 256 : Nat) : Int) = List.replicate j (0 : Int) ++ toI (UInt8.ofNat (n % 256) :: t) := by
      rw [List.replicate_succ', List.append_assoc, List.set_append_right _ _ (by simp)]
      simp [toI]
    rw [hset]
    refine Ev.eq (ih (n / 256) (UInt8.ofNat (n % 256) :: t) (by simp; omega) (by omega)) ?_
    rw [longk]; simp
theorem RLong_ev (n : Nat) (h : n < 18446744073709551616) : Ev (fun k => screeref01_Long.f k (n : Int)) (lb (long n)) := by
  have := rlong_l0 8 n [] rfl h
  simp only [toI, List.map_nil, List.append_nil] at this
  exact this
theorem Fall_f (n : Nat) (h : n < 18446744073709551616) : num_Fall.f (n : Int) = some (lb (long (18446744073709551615 - n))) := by
  unfold num_Fall.f
  rw [b64_not n h, Long_f]; rfl
theorem Turned_f (n : Nat) (h : n < 18446744073709551616) : screeref01_Turned.f (n : Int) = some ((18446744073709551615 - n : Nat) : Int) := by
  unfold screeref01_Turned.f
  rw [wu_in _ (by omega) (by omega)]
  congr 1; omega
theorem RFall_ev (n : Nat) (h : n < 18446744073709551616) : Ev (fun k => screeref01_Fall.f k (n : Int)) (lb (long (18446744073709551615 - n))) := by
  refine Ev.just (Turned_f n h) (Ev.bind (RLong_ev _ (by omega)) (Ev.now _))
theorem b64_or' (b i a : Nat) (ha : a < 2 ^ i) (hb : b * 2 ^ i < 18446744073709551616) (ha2 : a < 18446744073709551616) : Go.bits .or .u64 ((b * 2 ^ i : Nat) : Int) (a : Int) = ((b * 2 ^ i + a : Nat) : Int) := by
  rw [(bits_nat .u64 64 (by decide) wraps_u64 (b * 2 ^ i) a (by simpa using hb) (by simpa using ha2)).2]
  rw [Nat.mul_comm b, ← Nat.two_pow_add_eq_or_of_lt ha b]
theorem unlong_l0 : ∀ (rest pre : List UInt8), pre.length + rest.length = 8 →
    Ev (fun k => num_Unlong.l0 k (lb (pre ++ rest)) ((be 0 pre : Nat) : Int) (pre.length : Int)) (((be 0 (pre ++ rest) : Nat) : Int), true) := by
  intro rest
  induction rest with
  | nil =>
    intro pre h
    refine Ev.step (fun k => by rw [num_Unlong.l0]) ?_
    refine Ev.neg (by simp at h; omega) (Ev.val ?_)
    simp
  | cons c rest ih =>
    intro pre h
    have h' : pre.length + (rest.length + 1) = 8 := by simpa using h
    have hc := u8_lt c
    have hlt := be_lt pre 0
    have hp : 256 ^ pre.length ≤ 256 ^ 7 := Nat.pow_le_pow_right (by decide) (by omega)
    refine Ev.step (fun k => by rw [num_Unlong.l0]) ?_
    refine Ev.pos (by omega) (Ev.pos (by omega) (Ev.pos (by rw [lb_size]; simp; omega) ?_))
    rw [bt_app, wu_nat _ (by omega)]
    have e1 : wrap64 ((pre.length : Int) + 1) = ((pre.length + 1 : Nat) : Int) := by rw [w64 _ (by omega) (by omega)]; omega
    have e2 : IntKind.u64.wrap (((be 0 pre : Nat) : Int) * 256) = ((be 0 pre * 2 ^ 8 : Nat) : Int) := by
      rw [wu_in _ (by omega) (by omega)]; omega
    rw [e1, e2, b64_or' _ 8 _ (by omega) (by omega) (by omega)]
    have := ih (pre ++ [c]) (by simp; omega)
    rw [be_app, be_cons, be_nil] at this
    simpa using this
def ures (l : List UInt8) : Int × Bool := if l.length = 8 then (((be 0 l : Nat) : Int), true) else (0, false)
theorem Unlong_ev (l : List UInt8) : Ev (fun k => num_Unlong.f k (lb l)) (ures l) := by
  unfold ures num_Unlong.f
  by_cases h : l.length = 8
  · rw [if_pos h]
    refine Ev.pos (by rw [lb_size]; omega) ?_
    exact unlong_l0 l [] (by simpa using h)
  · rw [if_neg h]
    exact Ev.neg (by rw [lb_size]; omega) (Ev.now _)
def ufres (l : List UInt8) : Int × Bool := if l.length = 8 then (((18446744073709551615 - be 0 l : Nat) : Int), true) else (0, false)
theorem Unfall_ev (l : List UInt8) : Ev (fun k => num_Unfall.f k (lb l)) (ufres l) := by
  refine Ev.bind (Unlong_ev l) ?_
  unfold ures ufres
  by_cases h : l.length = 8
  · rw [if_pos h, if_pos h]
    refine Ev.pos rfl (Ev.val ?_)
    rw [b64_not _ (be_lt8 l h)]
  · rw [if_neg h, if_neg h]
    exact Ev.neg (by simp) (Ev.now _)
end Go.Proofs.Ytcdadhgcjkgnoaa.NumS
namespace Go.Proofs.Ytcdadhgcjkgnoaa.KeyS
open Go.RowKit Go.Proofs.Ytcdadhgcjkgnoaa.P Go.Proofs.Ytcdadhgcjkgnoaa.Th Go.Proofs.Ytcdadhgcjkgnoaa.NumS Go.Proofs.Ytcdadhgcjkgnoaa.KeyT Go.Proofs.YtcdadhgcjkgnoaaW.PrintWords Go.Proofs.YtcdadhgcjkgnoaaW.PrintLast Go.Proofs.YtcdadhgcjkgnoaaW.PrintMore
theorem May_f (u : List UInt8) : key_May.f (lb u) = some (mayK u) := key_Unescape.may_some u
theorem RMay_f (u : List UInt8) : screeref02_May.f (lb u) = some (mayK u) := by
  unfold screeref02_May.f mayK
  rw [lb_size]
  by_cases h : (u.length : Int) ≥ 1
  · rw [if_pos h]; congr 1; rw [Bool.eq_iff_iff]; simp only [decide_eq_true_eq]; omega
  · rw [if_neg h]; congr 1; symm; rw [decide_eq_false_iff_not]; omega
theorem mayK_len {u : List UInt8} (h : mayK u = true) : 1 ≤ u.length ∧ u.length ≤ 24 := of_decide_eq_true h
theorem E_len (u : List UInt8) : (E u).length = (esc u).length + 2 := by simp [E]
theorem E_len_le {u : List UInt8} (h : u.length ≤ 24) : (E u).length ≤ 50 := by have := esc_len u; rw [E_len]; omega
def fam (cf : Int) : Prop := 1 ≤ cf ∧ cf ≤ 4
instance (cf : Int) : Decidable (fam cf) := inferInstanceAs (Decidable (1 ≤ cf ∧ cf ≤ 4))
theorem family_f (cf : Int) : key_family.f cf = some (decide (fam cf)) := by
  unfold key_family.f
  by_cases h : cf ≥ 1
  · rw [if_pos h]
    by_cases h2 : fam cf
    · rw [decide_eq_true h2, decide_eq_true h2.2]
    · rw [decide_eq_false h2, decide_eq_false (fun e => h2 ⟨h, e⟩)]
  · rw [if_neg h, decide_eq_false (fun e : fam cf => h e.1)]
def escr (u : List UInt8) : ByteArray × Int := if mayK u = true then (lb (E u), 0) else (lb [], 20)
theorem escr_yes {u : List UInt8} (h : mayK u = true) : escr u = (lb (E u), 0) := if_pos h
theorem escr_no {u : List UInt8} (h : ¬ mayK u = true) : escr u = (lb [], 20) := if_neg h
theorem Escape_f (u : List UInt8) : key_Escape.f (lb u) = some (escr u) := by
  unfold key_Escape.f escr
  rw [bl_lb]
  split <;> rfl
theorem resc_l0 : ∀ (rest pre : List UInt8), (pre ++ rest).length ≤ 24 →
    Ev (fun k => screeref02_Escape.l0 k (lb (pre ++ rest)) (toI (esc pre)) (pre.length : Int)) (lb (E (pre ++ rest)), 0) := by
  intro rest
  induction rest with
  | nil =>
    intro pre hl
    refine Ev.step (fun k => by rw [screeref02_Escape.l0]) ?_
    have h2 := esc_len pre
    rw [List.append_nil] at hl ⊢
    refine Ev.neg (by rw [lb_size]; simp) (Ev.just rfl (Ev.pos (by rw [toI_len]; simp; omega) (Ev.val ?_)))
    have e : toI (esc pre) ++ [0, 1] = toI (E pre) := by unfold E; rw [toI_app]; rfl
    rw [e, son, ofI_toI]
  | cons c rest ih =>
    intro pre hl
    have hlen : (pre ++ c :: rest).length = pre.length + 1 + rest.length := by simp; omega
    have h2 := esc_len pre
    refine Ev.step (fun k => by rw [screeref02_Escape.l0]) ?_
    refine Ev.pos (by rw [lb_size]; omega) (Ev.pos (by omega) (Ev.pos (by rw [toI_len]; omega) (Ev.just rfl ?_)))
    have e1 : wrap64 ((pre.length : Int) + 1) = (((pre ++ [c]).length : Nat) : Int) := by rw [w64 _ (by omega) (by omega)]; simp
    rw [bt_app, e1]
    have hr : toI (esc pre) ++ [(c.toNat : Int)] = toI (esc pre ++ [c]) := by rw [toI_app]; rfl
    rw [hr]
    have ihc := ih (pre ++ [c]) (by simpa using hl)
    rw [List.append_assoc, List.singleton_append] at ihc
    by_cases hc : c = 0
    · have hz : ((c.toNat : Nat) : Int) = 0 := by rw [hc]; rfl
      refine Ev.pos hz (Ev.pos (by rw [toI_len]; simp; omega) ?_)
      have e2 : toI (esc pre ++ [c]) ++ [255] = toI (esc (pre ++ [c])) := by
        rw [esc_app, hc]
        show _ = toI (esc pre ++ [0, 255])
        simp [toI]
      rw [e2]
      exact ihc
    · have hz : ¬ ((c.toNat : Nat) : Int) = 0 := by have := u8_pos hc; omega
      refine Ev.neg hz ?_
      have e2 : esc pre ++ [c] = esc (pre ++ [c]) := by rw [esc_app, esc_cons hc]; rfl
      rw [e2]
      exact ihc
theorem REscape_ev (u : List UInt8) : Ev (fun k => screeref02_Escape.f k (lb u)) (escr u) := by
  unfold screeref02_Escape.f escr
  refine Ev.just (RMay_f u) ?_
  by_cases h : mayK u = true
  · rw [if_pos h]; exact Ev.pos h (resc_l0 u [] (by simpa using (mayK_len h).2))
  · rw [if_neg h]; exact Ev.neg h (Ev.now _)
/-! ### where a user's key begins and ends -/
theorem fam_nat {cf : Int} (h : fam cf) : ∃ n : Nat, cf = (n : Int) ∧ 1 ≤ n ∧ n ≤ 4 := ⟨cf.toNat, by unfold fam at h; omega⟩
def fstr (cf : Int) (u : List UInt8) : ByteArray × Int := if fam cf then (if mayK u = true then (lb (UInt8.ofNat cf.toNat :: E u), 0) else (lb [], 20)) else (lb [], 1)
theorem First_f (cf : Int) (u : List UInt8) : key_First.f cf (lb u) = some (fstr cf u) := by
  unfold key_First.f fstr
  rw [family_f, Option.bind_some]
  by_cases hf : fam cf
  · rw [if_pos hf, if_pos (decide_eq_true hf), Escape_f, Option.bind_some]
    by_cases hm : mayK u = true
    · rw [escr_yes hm, if_pos hm, if_pos rfl, Option.bind_some]
      obtain ⟨n, rfl, h1, h4⟩ := fam_nat hf
      have hl := E_len_le (mayK_len hm).2
      rw [son, ofI_mod, if_pos (by rw [lb_size, lb_size]; simp; omega), lb_append]
      have : ((n : Int)).toNat = n := by omega
      rw [this]; rfl
    · rw [escr_no hm, if_neg hm]; rfl
  · rw [if_neg hf, if_neg (by simpa using hf)]; rfl
theorem RFirst_ev (cf : Int) (u : List UInt8) : Ev (fun k => screeref02_First.f k cf (lb u)) (fstr cf u) := by
  unfold screeref02_First.f fstr
  have hj : ∀ b, b = decide (¬ fam cf) → Ev (fun k => screeref02_First.j0 k cf (lb u) b) (if fam cf then (if mayK u = true then (lb (UInt8.ofNat cf.toNat :: E u), 0) else (lb [], 20)) else (lb [], 1)) := by
    intro b hb
    refine Ev.step (fun k => by rw [screeref02_First.j0]) ?_
    by_cases hf : fam cf
    · rw [if_pos hf]
      refine Ev.neg (by rw [hb]; simpa using hf) (Ev.bind (REscape_ev u) ?_)
      by_cases hm : mayK u = true
      · rw [escr_yes hm, if_pos hm]
        obtain ⟨n, rfl, h1, h4⟩ := fam_nat hf
        have hl := E_len_le (mayK_len hm).2
        refine Ev.pos rfl (Ev.just rfl ?_)
        rw [son, ofI_mod]
        refine Ev.pos (by rw [lb_size, lb_size]; simp; omega) (Ev.val ?_)
        have : ((n : Int)).toNat = n := by omega
        rw [this, lb_append]; rfl
      · rw [escr_no hm, if_neg hm]; exact Ev.neg (by decide) (Ev.now _)
    · rw [if_neg hf]; exact Ev.pos (by rw [hb]; simpa using hf) (Ev.now _)
  by_cases h1 : cf < 1
  · exact Ev.pos h1 (hj true (by symm; rw [decide_eq_true_eq]; unfold fam; omega))
  · exact Ev.neg h1 (hj _ (by rw [Bool.eq_iff_iff]; simp only [decide_eq_true_eq]; unfold fam; omega))
/-! ### a store's key -/
def fl (t : Nat) : List UInt8 := long (18446744073709551615 - t)
theorem fl_len (t : Nat) : (fl t).length = 8 := long_len _
theorem fl_be (r : List UInt8) (h : r.length = 8) : fl (18446744073709551615 - be 0 r) = r := by
  have := be_lt8 r h
  unfold fl
  have e : 18446744073709551615 - (18446744073709551615 - be 0 r) = be 0 r := by omega
  rw [e, long_be r h]
theorem be_fl (t : Nat) (h : t ≤ 1099511627776) : 18446744073709551615 - be 0 (fl t) = t := by
  unfold fl
  rw [be_long _ (by omega)]; omega
def kb (c : Nat) (u : List UInt8) (t : Nat) : List UInt8 := UInt8.ofNat c :: (E u ++ (if c = 1 then [] else fl t))
def good (cf : Int) (u : List UInt8) (t : Nat) : Prop := fam cf ∧ mayK u = true ∧ t ≤ 1099511627776 ∧ (cf = 1 → t = 0)
instance (cf : Int) (u : List UInt8) (t : Nat) : Decidable (good cf u t) := inferInstanceAs (Decidable (fam cf ∧ mayK u = true ∧ t ≤ 1099511627776 ∧ (cf = 1 → t = 0)))
def mkr (cf : Int) (u : List UInt8) (t : Nat) : ByteArray × Int := if good cf u t then (lb (kb cf.toNat u t), 0) else (lb [], if ¬ fam cf then 1 else if ¬ mayK u = true then 20 else 3)
theorem mkr_yes {cf : Int} {u : List UInt8} {t : Nat} (h : good cf u t) : mkr cf u t = (lb (kb cf.toNat u t), 0) := if_pos h
theorem mkr_no {cf : Int} {u : List UInt8} {t : Nat} (h : ¬ good cf u t) : (mkr cf u t).1 = lb [] ∧ (mkr cf u t).2 ≠ 0 := by
  unfold mkr; rw [if_neg h]
  refine ⟨rfl, ?_⟩
  simp only
  split
  · decide
  · split <;> decide
theorem kb_len {u : List UInt8} (c t : Nat) (h : u.length ≤ 24) : (kb c u t).length ≤ 59 := by
  have := E_len_le h
  unfold kb
  split
  · simp; omega
  · simp only [List.length_cons, List.length_append, fl_len]; omega
theorem Make_ev (cf : Int) (u : List UInt8) (t : Nat) (ht : t < 18446744073709551616) : Ev (fun k => key_Make.f k cf (lb u) (t : Int)) (mkr cf u t) := by
  unfold key_Make.f
  refine Ev.just (First_f cf u) ?_
  by_cases hf : fam cf
  · by_cases hm : mayK u = true
    · have h1 : fstr cf u = (lb (UInt8.ofNat cf.toNat :: E u), 0) := by unfold fstr; rw [if_pos hf, if_pos hm]
      rw [h1]
      refine Ev.pos rfl ?_
      have hl := E_len_le (mayK_len hm).2
      obtain ⟨n, rfl, hn1, hn4⟩ := fam_nat hf
      have hn : ((n : Int)).toNat = n := by omega
      rw [hn]
      have hj : ∀ b, (b = true ↔ ¬ good (n : Int) u t) → Ev (fun k => key_Make.j0 k (lb (UInt8.ofNat n :: E u)) b (n : Int) (lb u) (t : Int)) (mkr (n : Int) u t) := by
        intro b hb
        refine Ev.step (fun k => by rw [key_Make.j0]) ?_
        by_cases hg : good (n : Int) u t
        · rw [mkr_yes hg, hn]
          refine Ev.neg (fun e => hb.1 e hg) ?_
          unfold kb
          by_cases hc : n = 1
          · rw [if_pos hc]; exact Ev.pos (by omega) (Ev.val (by simp))
          · rw [if_neg hc]
            refine Ev.neg (by omega) (Ev.just (Fall_f t ht) ?_)
            refine Ev.pos (by rw [lb_size, lb_size, long_len]; simp; omega) (Ev.val ?_)
            rw [lb_append]; rfl
        · have : mkr (n : Int) u t = (lb [], 3) := by unfold mkr; rw [if_neg hg, if_neg (by simpa using hf), if_neg (by simpa using hm)]
          rw [this]
          exact Ev.pos (hb.2 hg) (Ev.now _)
      by_cases hb : (t : Int) > 1099511627776
      · exact Ev.pos hb (hj true (by simp; intro hg; have := hg.2.2.1; omega))
      · refine Ev.neg hb ?_
        by_cases hc : (n : Int) = 1
        · refine Ev.pos hc (hj _ ?_)
          rw [bne_iff_ne]
          unfold good
          constructor
          · intro h1 h2; exact h1 (by have := h2.2.2.2 hc; omega)
          · intro h1 h2; exact h1 ⟨hf, hm, by omega, fun _ => by omega⟩
        · refine Ev.neg hc (hj false ?_)
          constructor
          · intro h; cases h
          · intro h; exact absurd ⟨hf, hm, by omega, fun h => absurd h hc⟩ h
    · have h1 : fstr cf u = (lb [], 20) := by unfold fstr; rw [if_pos hf, if_neg hm]
      have h2 : mkr cf u t = (lb [], 20) := by unfold mkr; rw [if_neg (fun g => hm g.2.1), if_neg (by simpa using hf), if_pos hm]
      rw [h1, h2]
      exact Ev.neg (by decide) (Ev.now _)
  · have h1 : fstr cf u = (lb [], 1) := by unfold fstr; rw [if_neg hf]
    have h2 : mkr cf u t = (lb [], 1) := by unfold mkr; rw [if_neg (fun g => hf g.1), if_pos hf]
    rw [h1, h2]
    exact Ev.neg (by decide) (Ev.now _)
theorem RMake_ev (cf : Int) (u : List UInt8) (t : Nat) (ht : t < 18446744073709551616) : Ev (fun k => screeref02_Make.f k cf (lb u) (t : Int)) (mkr cf u t) := by
  unfold screeref02_Make.f
  refine Ev.bind (RFirst_ev cf u) ?_
  by_cases hf : fam cf
  · by_cases hm : mayK u = true
    · have h1 : fstr cf u = (lb (UInt8.ofNat cf.toNat :: E u), 0) := by unfold fstr; rw [if_pos hf, if_pos hm]
      rw [h1]
      refine Ev.pos rfl ?_
      have hl := E_len_le (mayK_len hm).2
      obtain ⟨n, rfl, hn1, hn4⟩ := fam_nat hf
      have hn : ((n : Int)).toNat = n := by omega
      rw [hn]
      have hj : ∀ b, (b = true ↔ ¬ good (n : Int) u t) → Ev (fun k => screeref02_Make.j0 k (lb (UInt8.ofNat n :: E u)) b (n : Int) (lb u) (t : Int)) (mkr (n : Int) u t) := by
        intro b hb
        refine Ev.step (fun k => by rw [screeref02_Make.j0]) ?_
        by_cases hg : good (n : Int) u t
        · rw [mkr_yes hg, hn]
          refine Ev.neg (fun e => hb.1 e hg) ?_
          unfold kb
          by_cases hc : n = 1
          · rw [if_pos hc]; exact Ev.pos (by omega) (Ev.val (by simp))
          · rw [if_neg hc]
            refine Ev.neg (by omega) (Ev.bind (RFall_ev t ht) ?_)
            refine Ev.pos (by rw [lb_size, lb_size, long_len]; simp; omega) (Ev.val ?_)
            rw [lb_append]; rfl
        · have : mkr (n : Int) u t = (lb [], 3) := by unfold mkr; rw [if_neg hg, if_neg (by simpa using hf), if_neg (by simpa using hm)]
          rw [this]
          exact Ev.pos (hb.2 hg) (Ev.now _)
      by_cases hb : (t : Int) > 1099511627776
      · exact Ev.pos hb (hj true (by simp; intro hg; have := hg.2.2.1; omega))
      · refine Ev.neg hb ?_
        by_cases hc : (n : Int) = 1
        · refine Ev.pos hc (hj _ ?_)
          rw [decide_eq_true_eq]
          unfold good
          constructor
          · intro h1 h2; have := h2.2.2.2 hc; omega
          · intro h1
            rcases Nat.eq_zero_or_pos t with h0 | h0
            · exact absurd ⟨hf, hm, by omega, fun _ => h0⟩ h1
            · omega
        · refine Ev.neg hc (hj false ?_)
          constructor
          · intro h; cases h
          · intro h; exact absurd ⟨hf, hm, by omega, fun h => absurd h hc⟩ h
    · have h1 : fstr cf u = (lb [], 20) := by unfold fstr; rw [if_pos hf, if_neg hm]
      have h2 : mkr cf u t = (lb [], 20) := by unfold mkr; rw [if_neg (fun g => hm g.2.1), if_neg (by simpa using hf), if_pos hm]
      rw [h1, h2]
      exact Ev.neg (by decide) (Ev.now _)
  · have h1 : fstr cf u = (lb [], 1) := by unfold fstr; rw [if_neg hf]
    have h2 : mkr cf u t = (lb [], 1) := by unfold mkr; rw [if_neg (fun g => hf g.1), if_pos hf]
    rw [h1, h2]
    exact Ev.neg (by decide) (Ev.now _)
end Go.Proofs.Ytcdadhgcjkgnoaa.KeyS
namespace Go.Proofs.Ytcdadhgcjkgnoaa.KeyS
open Go.RowKit Go.Proofs.Ytcdadhgcjkgnoaa.P Go.Proofs.Ytcdadhgcjkgnoaa.Th Go.Proofs.Ytcdadhgcjkgnoaa.NumS Go.Proofs.Ytcdadhgcjkgnoaa.KeyT Go.Proofs.YtcdadhgcjkgnoaaW.PrintWords Go.Proofs.YtcdadhgcjkgnoaaW.PrintLast Go.Proofs.YtcdadhgcjkgnoaaW.PrintMore
def uner (l : List UInt8) : ByteArray × ByteArray × Int := match une [] l with
  | some (u, r) => (lb u, lb r, 0)
  | none => (lb [], lb [], 2)
theorem uner_some {l u r : List UInt8} (h : une [] l = some (u, r)) : uner l = (lb u, lb r, 0) := by unfold uner; rw [h]
theorem uner_none {l : List UInt8} (h : une [] l = none) : uner l = (lb [], lb [], 2) := by unfold uner; rw [h]
theorem Unescape_f (l : List UInt8) (h : l.length ≤ 140737488351232) : key_Unescape.f (lb l) = some (uner l) := by
  unfold key_Unescape.f uner
  rw [lb_size, if_pos h, bl_lb]
  cases une [] l with
  | none => rfl
  | some p => rfl
theorem naive_cons {c : UInt8} (h : c ≠ 0) (l : List UInt8) : naive (c :: l) = c :: naive l := by
  cases l with
  | nil => rfl
  | cons d l => rw [naive, if_neg h]
/-! ### a store's key, read -/
def rd : List UInt8 → Option (Nat × List UInt8 × Nat)
  | [] => none
  | c :: l => if 1 ≤ c.toNat ∧ c.toNat ≤ 4 then (match une [] l with
    | none => none
    | some (u, r) => if c.toNat = 1 then (if r = [] then some (1, u, 0) else none) else (if r.length = 8 ∧ 18446744073709551615 - be 0 r ≤ 1099511627776 then some (c.toNat, u, 18446744073709551615 - be 0 r) else none)) else none
theorem rd_iff (s : List UInt8) (c : Nat) (u : List UInt8) (t : Nat) : rd s = some (c, u, t) ↔ good (c : Int) u t ∧ s = kb c u t := by
  constructor
  · intro h
    cases s with
    | nil => cases h
    | cons x l =>
      rw [rd] at h
      by_cases hx : 1 ≤ x.toNat ∧ x.toNat ≤ 4
      · rw [if_pos hx] at h
        cases hu : une [] l with
        | none => rw [hu] at h; cases h
        | some p =>
          obtain ⟨v, r⟩ := p
          rw [hu] at h
          simp only at h
          obtain ⟨hm, hl⟩ := (une_iff _ _ _).1 hu
          by_cases h1 : x.toNat = 1
          · rw [if_pos h1] at h
            by_cases hr : r = []
            · rw [if_pos hr] at h
              simp only [Option.some.injEq, Prod.mk.injEq] at h
              obtain ⟨rfl, rfl, rfl⟩ := h
              refine ⟨⟨by decide, hm, by omega, fun _ => rfl⟩, ?_⟩
              have : x = UInt8.ofNat 1 := u8_ext h1
              rw [this, hl, hr]; rfl
            · rw [if_neg hr] at h; cases h
          · rw [if_neg h1] at h
            by_cases hr : r.length = 8 ∧ 18446744073709551615 - be 0 r ≤ 1099511627776
            · rw [if_pos hr] at h
              simp only [Option.some.injEq, Prod.mk.injEq] at h
              obtain ⟨rfl, rfl, rfl⟩ := h
              refine ⟨⟨⟨by omega, by omega⟩, hm, hr.2, fun e => absurd (by omega) h1⟩, ?_⟩
              unfold kb
              rw [if_neg h1, fl_be r hr.1, ← hl]
              congr 1
              exact u8_ext (by rw [u8_ofNat_toNat _ (by omega)])
            · rw [if_neg hr] at h; cases h
      · rw [if_neg hx] at h; cases h
  · rintro ⟨⟨hf, hm, ht, h0⟩, rfl⟩
    have hc : 1 ≤ c ∧ c ≤ 4 := by unfold fam at hf; omega
    have hcc : (UInt8.ofNat c).toNat = c := u8_ofNat_toNat _ (by omega)
    unfold kb
    rw [rd, hcc, if_pos hc]
    by_cases h1 : c = 1
    · have ht0 : t = 0 := h0 (by omega)
      rw [if_pos h1, List.append_nil]
      have : une [] (E u) = some (u, []) := (une_iff _ _ _).2 ⟨hm, by simp⟩
      rw [this]
      simp only
      simp [h1, ht0]
    · rw [if_neg h1]
      have : une [] (E u ++ fl t) = some (u, fl t) := (une_iff _ _ _).2 ⟨hm, rfl⟩
      rw [this]
      simp only
      rw [if_neg h1, be_fl t ht, if_pos ⟨fl_len t, ht⟩]
def rdr (s : List UInt8) : Int × ByteArray × Int × Int := match rd s with
  | some (c, u, t) => ((c : Int), lb u, (t : Int), 0)
  | none => (0, lb [], 0, 2)
theorem rdr_some {s : List UInt8} {c : Nat} {u : List UInt8} {t : Nat} (h : rd s = some (c, u, t)) : rdr s = ((c : Int), lb u, (t : Int), 0) := by unfold rdr; rw [h]
theorem rdr_none {s : List UInt8} (h : rd s = none) : rdr s = (0, lb [], 0, 2) := by unfold rdr; rw [h]
theorem Read_ev (s : List UInt8) (hs : s.length ≤ 140737488351232) : Ev (fun k => key_Read.f k (lb s)) (rdr s) := by
  unfold key_Read.f
  cases s with
  | nil =>
    refine Ev.pos (lb_toList []) ?_
    refine Ev.step (fun k => by rw [key_Read.j0]) ?_
    rw [rdr_none rfl]
    exact Ev.pos rfl (Ev.now _)
  | cons x l =>
    simp only [List.length_cons] at hs
    have hxl := u8_lt x
    have hb0 : bt (lb (x :: l)) 0 = (x.toNat : Int) := bt_nat (x :: l) 0 (by simp)
    have hw : wrap64 (x.toNat : Int) = (x.toNat : Int) := w64 _ (by omega) (by omega)
    refine Ev.neg (by rw [lb_toList]; simp) (Ev.pos (by rw [lb_size, List.length_cons]; omega) ?_)
    rw [hb0, hw, family_f]
    refine Ev.just rfl ?_
    refine Ev.step (fun k => by rw [key_Read.j0]) ?_
    by_cases hf : fam (x.toNat : Int)
    · refine Ev.neg (by simpa using hf) (Ev.pos (by rw [lb_size, List.length_cons]; omega) (Ev.pos (by rw [lb_size, List.length_cons]; omega) ?_))
      simp only [lb_extract, lb_size, List.take_length, List.drop_succ_cons, List.drop_zero, hb0, hw, lb_toList]
      refine Ev.just (Unescape_f l (by omega)) ?_
      have hfn : 1 ≤ x.toNat ∧ x.toNat ≤ 4 := by unfold fam at hf; omega
      cases hu : une [] l with
      | none =>
        rw [uner_none hu]
        have : rd (x :: l) = none := by rw [rd, if_pos hfn, hu]
        rw [rdr_none this]
        exact Ev.neg (by decide) (Ev.now _)
      | some p =>
        obtain ⟨u, r⟩ := p
        rw [uner_some hu]
        obtain ⟨hm, hl⟩ := (une_iff _ _ _).1 hu
        refine Ev.pos rfl ?_
        simp only [lb_toList]
        by_cases h1 : x.toNat = 1
        · refine Ev.pos (by omega) ?_
          by_cases hr : r = []
          · refine Ev.pos hr ?_
            have : rd (x :: l) = some (1, u, 0) := by rw [rd, if_pos hfn, hu]; simp only; rw [if_pos h1, if_pos hr]
            rw [rdr_some this, h1]
            exact Ev.now _
          · refine Ev.neg hr ?_
            have : rd (x :: l) = none := by rw [rd, if_pos hfn, hu]; simp only; rw [if_pos h1, if_neg hr]
            rw [rdr_none this]
            exact Ev.now _
        · refine Ev.neg (by omega) (Ev.bind (Unfall_ev r) ?_)
          by_cases h8 : r.length = 8
          · have hlt := be_lt8 r h8
            have hur : ufres r = (((18446744073709551615 - be 0 r : Nat) : Int), true) := by unfold ufres; rw [if_pos h8]
            rw [hur]
            refine Ev.bind (Make_ev _ u _ (by omega)) ?_
            refine Ev.pos rfl ?_
            by_cases hg : good (x.toNat : Int) u (18446744073709551615 - be 0 r)
            · rw [mkr_yes hg]
              refine Ev.pos rfl ?_
              have hk : kb x.toNat u (18446744073709551615 - be 0 r) = x :: l := by
                unfold kb
                rw [if_neg h1, fl_be r h8, ← hl]
                congr 1
                exact u8_ext (u8_ofNat_toNat _ (by omega))
              have hx2 : ((x.toNat : Int)).toNat = x.toNat := by omega
              have : rd (x :: l) = some (x.toNat, u, 18446744073709551615 - be 0 r) := (rd_iff _ _ _ _).2 ⟨hg, hk.symm⟩
              rw [rdr_some this]
              refine Ev.pos (by rw [lb_toList, hx2, hk]) (Ev.now _)
            · have hno := mkr_no hg
              have : rd (x :: l) = none := by
                rw [rd, if_pos hfn, hu]; simp only; rw [if_neg h1, if_neg]
                intro e
                exact hg ⟨hf, hm, e.2, fun e => absurd (by omega) h1⟩
              rw [rdr_none this]
              exact Ev.neg hno.2 (Ev.now _)
          · have hur : ufres r = (0, false) := by unfold ufres; rw [if_neg h8]
            rw [hur]
            have : rd (x :: l) = none := by rw [rd, if_pos hfn, hu]; simp only; rw [if_neg h1, if_neg (fun e => h8 e.1)]
            rw [rdr_none this]
            refine Ev.bind (Make_ev (x.toNat : Int) u 0 (by omega)) ?_
            exact Ev.neg (by simp) (Ev.now _)
    · have : rd (x :: l) = none := by rw [rd, if_neg]; unfold fam at hf; omega
      rw [rdr_none this]
      exact Ev.pos (by simpa using hf) (Ev.now _)
end Go.Proofs.Ytcdadhgcjkgnoaa.KeyS
namespace Go.Proofs.Ytcdadhgcjkgnoaa.ColS
open Go.RowKit Go.Proofs.Ytcdadhgcjkgnoaa.P Go.Proofs.Ytcdadhgcjkgnoaa.Th Go.Proofs.Ytcdadhgcjkgnoaa.NumS Go.Proofs.Ytcdadhgcjkgnoaa.KeyT Go.Proofs.YtcdadhgcjkgnoaaW.PrintWords Go.Proofs.YtcdadhgcjkgnoaaW.PrintLast Go.Proofs.YtcdadhgcjkgnoaaW.PrintMore
def u64 (n : Int) : Prop := 0 ≤ n ∧ n < 18446744073709551616
def tm (n : Int) : Bool := decide (0 < n ∧ n ≤ 1099511627776)
def sh (n : Int) : List UInt8 := short n.toNat
theorem time_f (a : Int) : col_time.f a = some (tm a) := by
  unfold col_time.f tm
  by_cases h : a > 0
  · rw [if_pos h]; congr 1; rw [Bool.eq_iff_iff]; simp only [decide_eq_true_eq]; omega
  · rw [if_neg h]; congr 1; symm; rw [decide_eq_false_iff_not]; omega
theorem May_f (u : List UInt8) : key_May.f (lb u) = some (mayK u) := by
  unfold key_May.f mayK
  rw [lb_size, lb_toList]
  by_cases h : u = []
  · subst h; rw [if_pos rfl]; rfl
  · rw [if_neg h]
    have : 1 ≤ u.length := List.length_pos_iff.2 h
    congr 1; rw [Bool.eq_iff_iff]; simp only [decide_eq_true_eq]; omega
theorem Sh_ev {n : Int} (h : u64 n) : Ev (fun k => num_Short.f k n) (lb (sh n)) := by
  obtain ⟨m, rfl⟩ := Int.eq_ofNat_of_zero_le h.1
  exact Short_ev m (by have := h.2; omega)
theorem sh_len {n : Int} (h : u64 n) : (sh n).length ≤ 10 := short_len10 _ (by have := h.1; have := h.2; omega)
theorem sh_pos (n : Int) : 1 ≤ (sh n).length := short_pos _
theorem sh_len6 {n : Int} (h : n ≤ 1099511627776) : (sh n).length ≤ 6 := short_len6 _ (by omega)
theorem tm_u {n : Int} (h : tm n = true) : u64 n := by have := of_decide_eq_true h; exact ⟨by omega, by omega⟩
theorem tm_le {n : Int} (h : tm n = true) : 0 < n ∧ n ≤ 1099511627776 := of_decide_eq_true h

/-! ### a lock -/
def okL (p : List UInt8) (st kd at_ : Int) : Prop := mayK p = true ∧ tm st = true ∧ (kd = 1 ∨ kd = 2) ∧ at_ ≤ 1099511627776
instance (p : List UInt8) (st kd at_ : Int) : Decidable (okL p st kd at_) := inferInstanceAs (Decidable (_ ∧ _ ∧ _ ∧ _))
def lkB (p : List UInt8) (st kd at_ : Int) : List UInt8 := ((ofI [kd % 256] ++ sh st) ++ sh at_) ++ p
def lkr (p : List UInt8) (st kd at_ : Int) : ByteArray × Int := if okL p st kd at_ then (lb (lkB p st kd at_), 0) else (lb [], 2)
theorem lkr_yes {p : List UInt8} {st kd at_ : Int} (h : okL p st kd at_) : lkr p st kd at_ = (lb (lkB p st kd at_), 0) := if_pos h
theorem lkr_no {p : List UInt8} {st kd at_ : Int} (h : ¬ okL p st kd at_) : lkr p st kd at_ = (lb [], 2) := if_neg h
theorem lj_bad (p : ByteArray) (st kd at_ : Int) : Ev (fun k => col_Lock.j0 k true p st kd at_) (lb [], 2) := by
  refine Ev.step (fun k => by rw [col_Lock.j0]) ?_
  exact Ev.pos rfl (Ev.val rfl)
theorem lj_good (p : List UInt8) (st kd at_ : Int) (hp : p.length ≤ 140737488351232) (hs : u64 st) (ha : u64 at_) :
    Ev (fun k => col_Lock.j0 k false (lb p) st kd at_) (lb (lkB p st kd at_), 0) := by
  refine Ev.step (fun k => by rw [col_Lock.j0]) ?_
  have l1 := sh_len hs
  have l2 := sh_len ha
  refine Ev.neg (by simp) (Ev.just rfl (Ev.bind (Sh_ev hs) ?_))
  rw [son]
  refine Ev.pos (by rw [lb_size, lb_size, ofI_len]; simp; omega) (Ev.bind (Sh_ev ha) ?_)
  rw [lb_append]
  refine Ev.pos (by rw [lb_size, lb_size, List.length_append, ofI_len]; simp; omega) ?_
  rw [lb_append]
  refine Ev.pos (by rw [lb_size, lb_size, List.length_append, List.length_append, ofI_len]; simp; omega) ?_
  rw [lb_append]
  exact Ev.val rfl
theorem Lock_ev (p : List UInt8) (st kd at_ : Int) (hp : p.length ≤ 140737488351232) (hs : u64 st) (ha : u64 at_) :
    Ev (fun k => col_Lock.f k (lb p) st kd at_) (lkr p st kd at_) := by
  unfold col_Lock.f
  refine Ev.just (May_f p) ?_
  by_cases h1 : mayK p = true
  · refine Ev.pos h1 (Ev.just (time_f st) ?_)
    by_cases h2 : tm st = true
    · refine Ev.pos h2 ?_
      have key : kd = 1 ∨ kd = 2 → Ev (fun k => col_Lock.j0 k (decide (at_ > 1099511627776)) (lb p) st kd at_) (lkr p st kd at_) := by
        intro h3
        by_cases h4 : at_ > 1099511627776
        · rw [decide_eq_true h4, lkr_no (fun e => by have := e.2.2.2; omega)]
          exact lj_bad _ _ _ _
        · rw [decide_eq_false h4, lkr_yes ⟨h1, h2, h3, by omega⟩]
          exact lj_good p st kd at_ hp hs ha
      by_cases h3 : kd = 1
      · exact Ev.pos h3 (key (Or.inl h3))
      · refine Ev.neg h3 ?_
        by_cases h4 : kd = 2
        · exact Ev.pos h4 (key (Or.inr h4))
        · rw [lkr_no (fun e => by rcases e.2.2.1 with e | e; exact h3 e; exact h4 e)]
          exact Ev.neg h4 (lj_bad _ _ _ _)
    · rw [lkr_no (fun e => h2 e.2.1)]
      exact Ev.neg h2 (lj_bad _ _ _ _)
  · rw [lkr_no (fun e => h1 e.1)]
    exact Ev.neg h1 (lj_bad _ _ _ _)
/-! ### a write -/
def okW (st kd : Int) : Prop := tm st = true ∧ 1 ≤ kd ∧ kd ≤ 3
instance (st kd : Int) : Decidable (okW st kd) := inferInstanceAs (Decidable (_ ∧ _ ∧ _))
def wrB (st kd : Int) : List UInt8 := ofI [kd % 256] ++ sh st
def wrr (st kd : Int) : ByteArray × Int := if okW st kd then (lb (wrB st kd), 0) else (lb [], 2)
theorem wrr_yes {st kd : Int} (h : okW st kd) : wrr st kd = (lb (wrB st kd), 0) := if_pos h
theorem wrr_no {st kd : Int} (h : ¬ okW st kd) : wrr st kd = (lb [], 2) := if_neg h
theorem Write_ev (st kd : Int) : Ev (fun k => col_Write.f k st kd) (wrr st kd) := by
  unfold col_Write.f
  refine Ev.just (time_f st) ?_
  by_cases h2 : tm st = true
  · refine Ev.pos h2 ?_
    by_cases h3 : kd < 1
    · rw [wrr_no (fun e => by have := e.2.1; omega)]
      exact Ev.pos h3 (Ev.val rfl)
    · refine Ev.neg h3 ?_
      by_cases h4 : kd > 3
      · rw [wrr_no (fun e => by have := e.2.2; omega)]
        exact Ev.pos h4 (Ev.val rfl)
      · rw [wrr_yes ⟨h2, by omega, by omega⟩]
        have l1 := sh_len (tm_u h2)
        refine Ev.neg h4 (Ev.just rfl (Ev.bind (Sh_ev (tm_u h2)) ?_))
        rw [son]
        refine Ev.pos (by rw [lb_size, lb_size, ofI_len]; simp; omega) ?_
        rw [lb_append]
        exact Ev.val rfl
  · rw [wrr_no (fun e => h2 e.1)]
    exact Ev.neg h2 (Ev.val rfl)
/-! ### numbers, one behind the other -/
def nums : Nat → List UInt8 → Option (List Nat × List UInt8)
  | 0, s => some ([], s)
  | c + 1, s => match tk s with
    | none => none
    | some (n, r) => match nums c r with
      | none => none
      | some (l, r2) => some (n :: l, r2)
def nres (acc : List Int) : Option (List Nat × List UInt8) → List Int × ByteArray × Bool
  | none => ([], lb [], false)
  | some (l, r) => (acc ++ List.map (fun (n : Nat) => (n : Int)) l, lb r, true)
theorem nums_iff : ∀ (c : Nat) (s r : List UInt8) (l : List Nat), nums c s = some (l, r) ↔ l.length = c ∧ (∀ x ∈ l, x < 18446744073709551616) ∧ s = l.flatMap short ++ r := by
  intro c
  induction c with
  | zero =>
    intro s r l
    simp only [nums, Option.some.injEq, Prod.mk.injEq, List.length_eq_zero_iff]
    constructor
    · rintro ⟨rfl, rfl⟩; simp
    · rintro ⟨rfl, _, h⟩; simpa using h
  | succ c ih =>
    intro s r l
    rw [nums]
    constructor
    · intro h
      cases e : tk s with
      | none => rw [e] at h; simp at h
      | some q =>
        obtain ⟨n, r1⟩ := q
        rw [e] at h; simp only at h
        cases e2 : nums c r1 with
        | none => rw [e2] at h; simp at h
        | some q2 =>
          obtain ⟨l2, r2⟩ := q2
          rw [e2] at h; simp only [Option.some.injEq, Prod.mk.injEq] at h
          obtain ⟨rfl, rfl⟩ := h
          obtain ⟨h1, h2, h3⟩ := (ih _ _ _).1 e2
          obtain ⟨h4, h5⟩ := (tk_iff _ _ _).1 e
          refine ⟨by simp [h1], ?_, ?_⟩
          · intro x hx
            rcases List.mem_cons.1 hx with rfl | hx
            · exact h4
            · exact h2 x hx
          · rw [h5, h3]; simp
    · rintro ⟨h1, h2, h3⟩
      cases l with
      | nil => simp at h1
      | cons n l =>
        have e : tk s = some (n, l.flatMap short ++ r) := (tk_iff _ _ _).2 ⟨h2 n (by simp), by rw [h3]; simp⟩
        have e2 : nums c (l.flatMap short ++ r) = some (l, r) := (ih _ _ _).2 ⟨by simpa using h1, fun x hx => h2 x (by simp [hx]), rfl⟩
        rw [e]; simp only; rw [e2]
theorem numbers_l0 : ∀ (c : Nat) (s : List UInt8) (acc : List Int) (n : Int), s.length ≤ 140737488351232 → 0 ≤ n → n + c ≤ 40 → acc.length + c ≤ 40 →
    Ev (fun k => col_numbers.l0 k (lb s) acc (n + c) n) (nres acc (nums c s)) := by
  intro c
  induction c with
  | zero =>
    intro s acc n hs h0 hn ha
    refine Ev.step (fun k => by rw [col_numbers.l0]) ?_
    refine Ev.neg (by simp) (Ev.val ?_)
    simp [nums, nres]
  | succ c ih =>
    intro s acc n hs h0 hn ha
    refine Ev.step (fun k => by rw [col_numbers.l0]) ?_
    refine Ev.pos (by omega) (Ev.bind (Take_ev s hs) ?_)
    rw [nums]
    cases e : tk s with
    | none => exact Ev.neg (by simp [tres]) (Ev.val rfl)
    | some q =>
      obtain ⟨m, r⟩ := q
      have hr := ((tk_iff _ _ _).1 e).2
      have hrl : r.length ≤ s.length := by rw [hr]; simp
      refine Ev.pos (by simp [tres]) (Ev.pos (by omega) ?_)
      have e1 : wrap64 (n + 1) = n + 1 := w64 _ (by omega) (by omega)
      rw [e1]
      have hI := ih r (acc ++ [(m : Int)]) (n + 1) (by omega) (by omega) (by omega) (by simp; omega)
      rw [show n + ((c + 1 : Nat) : Int) = n + 1 + (c : Int) from by omega]
      refine Ev.eq hI ?_
      simp only
      cases nums c r with
      | none => rfl
      | some q2 => simp [nres]
theorem numbers_ev (c : Nat) (s : List UInt8) (hs : s.length ≤ 140737488351232) (hc : c ≤ 40) : Ev (fun k => col_numbers.f k (lb s) c) (nres [] (nums c s)) := by
  have := numbers_l0 c s [] 0 hs (by omega) (by omega) (by simp; omega)
  rw [Int.zero_add] at this
  exact this

/-! ### a lock that is read -/
def no4 : ByteArray × Int × Int × Int × Int := (lb [], 0, 0, 0, 2)
def ulk : List UInt8 → ByteArray × Int × Int × Int × Int
  | [] => no4
  | c :: t => match nums 2 t with
    | some ([a, b], r) => if okL r a c.toNat b ∧ lkB r a c.toNat b = c :: t then (lb r, (a : Int), (c.toNat : Int), (b : Int), 0) else no4
    | _ => no4
theorem api_Lock_ev (p s : List UInt8) (st kd at_ : Int) (hp : p.length ≤ 140737488351232) (hs : u64 st) (ha : u64 at_) :
    Ev (fun k => api_Lock.f k (lb p) st kd at_ (lb s)) (if okL p st kd at_ ∧ lkB p st kd at_ = s then (lb p, st, kd, at_, 0) else no4) := by
  unfold api_Lock.f
  refine Ev.bind (Lock_ev p st kd at_ hp hs ha) ?_
  by_cases h1 : okL p st kd at_
  · rw [lkr_yes h1]
    by_cases h2 : lkB p st kd at_ = s
    · refine Ev.eq ?_ (if_pos ⟨h1, h2⟩).symm
      exact Ev.neg (by simp [lb_toList, h2]) (Ev.val rfl)
    · refine Ev.eq ?_ (if_neg (fun e => h2 e.2)).symm
      exact Ev.pos (by simp [lb_toList, h2]) (Ev.val rfl)
  · rw [lkr_no h1]
    refine Ev.eq ?_ (if_neg (fun e => h1 e.1)).symm
    exact Ev.pos (by simp) (Ev.val rfl)
theorem nums2 {t r : List UInt8} {l : List Nat} (h : nums 2 t = some (l, r)) : ∃ a b, l = [a, b] ∧ a < 18446744073709551616 ∧ b < 18446744073709551616 ∧ t = short a ++ (short b ++ r) := by
  obtain ⟨h1, h2, h3⟩ := (nums_iff _ _ _ _).1 h
  match l, h1 with
  | [a, b], _ => exact ⟨a, b, rfl, h2 a (by simp), h2 b (by simp), by rw [h3]; simp⟩
theorem bt_head (c : UInt8) (t : List UInt8) : bt (lb (c :: t)) 0 = (c.toNat : Int) := bt_app [] c t
theorem ex_tail (c : UInt8) (t : List UInt8) : (lb (c :: t)).extract 1 (lb (c :: t)).size = lb t := by
  rw [lb_extract, lb_size]; simp
theorem Unlock_ev (s : List UInt8) (hs : s.length ≤ 140737488351232) : Ev (fun k => col_Unlock.f k (lb s)) (ulk s) := by
  unfold col_Unlock.f
  cases s with
  | nil => exact Ev.pos (lb_toList []) (Ev.val rfl)
  | cons c t =>
    have ht : t.length + 1 ≤ 140737488351232 := by simpa using hs
    refine Ev.neg (by rw [lb_toList]; simp) (Ev.pos (by rw [lb_size]; simp; omega) ?_)
    rw [ex_tail, bt_head]
    have hc := u8_lt c
    rw [w64 _ (by omega) (by omega)]
    refine Ev.bind (numbers_ev 2 t (by omega) (by omega)) ?_
    rw [ulk]
    cases e : nums 2 t with
    | none => exact Ev.neg (by simp [nres]) (Ev.val rfl)
    | some q =>
      obtain ⟨l, r⟩ := q
      obtain ⟨a, b, rfl, ha, hb, hr⟩ := nums2 e
      have hl : r.length ≤ t.length := by rw [hr]; simp; omega
      refine Ev.pos (by simp [nres]) (Ev.pos (by simp [nres]) (Ev.pos (by rw [lb_size]; simp) (Ev.pos (by simp [nres]) ?_)))
      refine Ev.bind (api_Lock_ev r (c :: t) a c.toNat b (by omega) ⟨by omega, by omega⟩ ⟨by omega, by omega⟩) ?_
      exact Ev.val rfl
theorem ulk_cases (s : List UInt8) : ulk s = no4 ∨ ∃ (p : List UInt8) (st kd at_ : Int), okL p st kd at_ ∧ 0 ≤ at_ ∧ s = lkB p st kd at_ ∧ p.length ≤ s.length ∧ ulk s = (lb p, st, kd, at_, 0) := by
  cases s with
  | nil => exact Or.inl rfl
  | cons c t =>
    rw [ulk]
    cases e : nums 2 t with
    | none => exact Or.inl rfl
    | some q =>
      obtain ⟨l, r⟩ := q
      obtain ⟨a, b, rfl, ha, hb, hr⟩ := nums2 e
      simp only
      by_cases h : okL r a c.toNat b ∧ lkB r a c.toNat b = c :: t
      · rw [if_pos h]
        exact Or.inr ⟨r, a, c.toNat, b, h.1, by omega, h.2.symm, by rw [hr]; simp; omega, rfl⟩
      · rw [if_neg h]; exact Or.inl rfl
theorem ulk_good {p : List UInt8} {st kd at_ : Int} (h : okL p st kd at_) (ha : 0 ≤ at_) : ulk (lkB p st kd at_) = (lb p, st, kd, at_, 0) := by
  obtain ⟨a, rfl⟩ := Int.eq_ofNat_of_zero_le (tm_u h.2.1).1
  obtain ⟨b, rfl⟩ := Int.eq_ofNat_of_zero_le ha
  have h2 := tm_u h.2.1
  have h4 := h.2.2.2
  have e0 : ∃ c : UInt8, ofI [kd % 256] = [c] ∧ (c.toNat : Int) = kd := by
    rcases h.2.2.1 with e | e <;> subst e <;> exact ⟨_, rfl, rfl⟩
  obtain ⟨c, e1, e2⟩ := e0
  have e3 : lkB p a kd b = c :: (short a ++ (short b ++ p)) := by
    unfold lkB sh; rw [e1]; simp
  have e4 : nums 2 (short a ++ (short b ++ p)) = some ([a, b], p) := by
    refine (nums_iff _ _ _ _).2 ⟨rfl, ?_, by simp⟩
    intro x hx
    have h5 := h2.2
    simp only [List.mem_cons, List.not_mem_nil, or_false] at hx
    rcases hx with rfl | rfl <;> omega
  rw [e3, ulk, e4]
  simp only
  rw [e2, if_pos ⟨h, e3⟩]
end Go.Proofs.Ytcdadhgcjkgnoaa.ColS
namespace Go.Proofs.Ytcdadhgcjkgnoaa.ColS
open Go.RowKit Go.Proofs.Ytcdadhgcjkgnoaa.P Go.Proofs.Ytcdadhgcjkgnoaa.Th Go.Proofs.Ytcdadhgcjkgnoaa.NumS Go.Proofs.Ytcdadhgcjkgnoaa.KeyT Go.Proofs.YtcdadhgcjkgnoaaW.PrintWords Go.Proofs.YtcdadhgcjkgnoaaW.PrintLast Go.Proofs.YtcdadhgcjkgnoaaW.PrintMore
def no2 : Int × Int × Int := (0, 0, 2)
def uwr : List UInt8 → Int × Int × Int
  | [] => no2
  | c :: t => match nums 1 t with
    | some ([a], r) => if okW a c.toNat ∧ wrB a c.toNat = c :: t then ((a : Int), (c.toNat : Int), 0) else no2
    | _ => no2
theorem api_Write_ev (s : List UInt8) (st kd : Int) :
    Ev (fun k => api_Write.f k st kd (lb s)) (if okW st kd ∧ wrB st kd = s then (st, kd, 0) else no2) := by
  unfold api_Write.f
  refine Ev.bind (Write_ev st kd) ?_
  by_cases h1 : okW st kd
  · rw [wrr_yes h1]
    by_cases h2 : wrB st kd = s
    · refine Ev.eq ?_ (if_pos ⟨h1, h2⟩).symm
      exact Ev.neg (by simp [lb_toList, h2]) (Ev.val rfl)
    · refine Ev.eq ?_ (if_neg (fun e => h2 e.2)).symm
      exact Ev.pos (by simp [lb_toList, h2]) (Ev.val rfl)
  · rw [wrr_no h1]
    refine Ev.eq ?_ (if_neg (fun e => h1 e.1)).symm
    exact Ev.pos (by simp) (Ev.val rfl)
theorem nums1 {t r : List UInt8} {l : List Nat} (h : nums 1 t = some (l, r)) : ∃ a, l = [a] ∧ a < 18446744073709551616 ∧ t = short a ++ r := by
  obtain ⟨h1, h2, h3⟩ := (nums_iff _ _ _ _).1 h
  match l, h1 with
  | [a], _ => exact ⟨a, rfl, h2 a (by simp), by rw [h3]; simp⟩
theorem Unwrite_ev (s : List UInt8) (hs : s.length ≤ 140737488351232) : Ev (fun k => col_Unwrite.f k (lb s)) (uwr s) := by
  unfold col_Unwrite.f
  cases s with
  | nil => exact Ev.pos (lb_toList []) (Ev.val rfl)
  | cons c t =>
    have ht : t.length + 1 ≤ 140737488351232 := by simpa using hs
    refine Ev.neg (by rw [lb_toList]; simp) (Ev.pos (by rw [lb_size]; simp; omega) ?_)
    rw [ex_tail, bt_head]
    have hc := u8_lt c
    rw [w64 _ (by omega) (by omega)]
    refine Ev.bind (numbers_ev 1 t (by omega) (by omega)) ?_
    rw [uwr]
    cases e : nums 1 t with
    | none => exact Ev.neg (by simp [nres]) (Ev.val rfl)
    | some q =>
      obtain ⟨l, r⟩ := q
      obtain ⟨a, rfl, ha, hr⟩ := nums1 e
      refine Ev.pos (by simp [nres]) (Ev.pos (by simp [nres]) (Ev.pos (by rw [lb_size]; simp) ?_))
      refine Ev.bind (api_Write_ev (c :: t) a c.toNat) ?_
      exact Ev.val rfl
theorem uwr_cases (s : List UInt8) : uwr s = no2 ∨ ∃ (st kd : Int), okW st kd ∧ s = wrB st kd ∧ uwr s = (st, kd, 0) := by
  cases s with
  | nil => exact Or.inl rfl
  | cons c t =>
    rw [uwr]
    cases e : nums 1 t with
    | none => exact Or.inl rfl
    | some q =>
      obtain ⟨l, r⟩ := q
      obtain ⟨a, rfl, ha, hr⟩ := nums1 e
      simp only
      by_cases h : okW a c.toNat ∧ wrB a c.toNat = c :: t
      · rw [if_pos h]
        exact Or.inr ⟨a, c.toNat, h.1, h.2.symm, rfl⟩
      · rw [if_neg h]; exact Or.inl rfl
theorem uwr_good {st kd : Int} (h : okW st kd) : uwr (wrB st kd) = (st, kd, 0) := by
  obtain ⟨a, rfl⟩ := Int.eq_ofNat_of_zero_le (tm_u h.1).1
  have h2 := tm_u h.1
  have e0 : ∃ c : UInt8, ofI [kd % 256] = [c] ∧ (c.toNat : Int) = kd := by
    have := h.2.1
    have := h.2.2
    rcases (by omega : kd = 1 ∨ kd = 2 ∨ kd = 3) with e | e | e <;> subst e <;> exact ⟨_, rfl, rfl⟩
  obtain ⟨c, e1, e2⟩ := e0
  have e3 : wrB a kd = c :: short a := by
    unfold wrB sh; rw [e1]; simp
  have e4 : nums 1 (short a) = some ([a], []) := by
    refine (nums_iff _ _ _ _).2 ⟨rfl, ?_, by simp⟩
    intro x hx
    have h5 := h2.2
    simp only [List.mem_cons, List.not_mem_nil, or_false] at hx
    subst hx; omega
  rw [e3, uwr, e4]
  simp only
  rw [e2, if_pos ⟨h, e3⟩]
end Go.Proofs.Ytcdadhgcjkgnoaa.ColS
namespace Go.Proofs.Ytcdadhgcjkgnoaa.ColS
open Go.RowKit Go.Proofs.Ytcdadhgcjkgnoaa.P Go.Proofs.Ytcdadhgcjkgnoaa.Th Go.Proofs.Ytcdadhgcjkgnoaa.NumS Go.Proofs.Ytcdadhgcjkgnoaa.KeyT Go.Proofs.YtcdadhgcjkgnoaaW.PrintWords Go.Proofs.YtcdadhgcjkgnoaaW.PrintLast Go.Proofs.YtcdadhgcjkgnoaaW.PrintMore
theorem rtime_f (a : Int) : screeref15_time.f a = some (tm a) := by
  unfold screeref15_time.f tm
  by_cases h : a ≥ 1
  · rw [if_pos h]; congr 1; rw [Bool.eq_iff_iff]; simp only [decide_eq_true_eq]; omega
  · rw [if_neg h]; congr 1; symm; rw [decide_eq_false_iff_not]; omega
theorem RSh_ev {n : Int} (h : u64 n) : Ev (fun k => screeref01_Short.f k n) (lb (sh n)) := by
  obtain ⟨m, rfl⟩ := Int.eq_ofNat_of_zero_le h.1
  exact RShort_ev m (by have := h.2; omega)
theorem RWrite_ev (st kd : Int) : Ev (fun k => screeref15_Write.f k st kd) (wrr st kd) := by
  unfold screeref15_Write.f
  refine Ev.just (rtime_f st) ?_
  by_cases h2 : tm st = true
  · refine Ev.pos h2 ?_
    by_cases h3 : kd < 1
    · rw [wrr_no (fun e => by have := e.2.1; omega)]
      exact Ev.pos h3 (Ev.val rfl)
    · refine Ev.neg h3 ?_
      by_cases h4 : kd > 3
      · rw [wrr_no (fun e => by have := e.2.2; omega)]
        exact Ev.pos h4 (Ev.val rfl)
      · rw [wrr_yes ⟨h2, by omega, by omega⟩]
        have l1 := sh_len (tm_u h2)
        refine Ev.neg h4 (Ev.just rfl (Ev.bind (RSh_ev (tm_u h2)) ?_))
        rw [son]
        refine Ev.pos (by rw [lb_size, lb_size, ofI_len]; simp; omega) ?_
        rw [lb_append]
        exact Ev.val rfl
  · rw [wrr_no (fun e => h2 e.1)]
    exact Ev.neg h2 (Ev.val rfl)
end Go.Proofs.Ytcdadhgcjkgnoaa.ColS
