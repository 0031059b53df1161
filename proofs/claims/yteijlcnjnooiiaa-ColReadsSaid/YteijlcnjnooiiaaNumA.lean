/- What the printed functions of num, and of its reference, come to: over lists of bytes. -/
import Derived.Test.YteijlcnjnooiiaaPx0
import Derived.Test.YteijlcnjnooiiaaPx5
import Derived.Test.YteijlcnjnooiiaaPx9
import Derived.Test.YteijlcnjnooiiaaTh2
set_option linter.unusedVariables false
set_option linter.unusedSimpArgs false
namespace Go.Proofs.Yteijlcnjnooiiaa.NumS
open Go.RowKit Go.Proofs.Yteijlcnjnooiiaa.P Go.Proofs.Yteijlcnjnooiiaa.Th Go.Proofs.YteijlcnjnooiiaaW.PrintWords Go.Proofs.YteijlcnjnooiiaaW.PrintLast Go.Proofs.YteijlcnjnooiiaaW.PrintMore


theorem short_l0 (m : Nat) : ∀ (n : Nat) (acc : List Int), n < 128 ^ (m + 1) → acc.length + m + 1 < 140737488355328 →
    Ev (fun k => num_Short.l0 k (n : Int) acc) (lb (ofI acc ++ short n)) := by
  induction m with
  | zero =>
    intro n acc h hl
    refine Ev.step (fun k => by rw [num_Short.l0]) ?_
    refine Ev.neg (by omega) (Ev.pos (by omega) (Ev.val ?_))
    rw [son, ofI_app, ofI_mod, short_lt n (by omega)]
  | succ m ih =>
    intro n acc h hl
    refine Ev.step (fun k => by rw [num_Short.l0]) ?_
    rcases Nat.lt_or_ge n 128 with h1 | h1
    · refine Ev.neg (by omega) (Ev.pos (by omega) (Ev.val ?_))
      rw [son, ofI_app, ofI_mod, short_lt n h1]
    · refine Ev.pos (by omega) (Ev.pos (by omega) ?_)
      have e1 : ((n : Int) / 128) = ((n / 128 : Nat) : Int) := by omega
      have e2 : ((n : Int) % 256) = ((n % 256 : Nat) : Int) := by omega
      have e3 : n % 256 % 128 = n % 128 := by omega
      rw [e1, e2, b8_or128 _ (by omega), e3]
      have := ih (n / 128) (acc ++ [((n % 128 + 128 : Nat) : Int)]) (by rw [Nat.div_lt_iff_lt_mul (by decide)]; rw [Nat.pow_succ] at h; exact h) (by simp; omega)
      refine Ev.eq this ?_
      rw [ofI_app, ofI_one, short_ge n h1]; simp
theorem Short_ev (n : Nat) (h : n < 18446744073709551616) : Ev (fun k => num_Short.f k (n : Int)) (lb (short n)) :=
  short_l0 9 n [] (Nat.lt_of_lt_of_le h (by decide)) (by simp)

/-! ### taking -/
def tres : Option (Nat × List UInt8) → Int × ByteArray × Bool
  | some (n, r) => ((n : Int), lb r, true)
  | none => (0, lb [], false)
/-- What is taken behind i bytes that go on, of which the number x was read. -/
def tki (i x : Nat) (l : List UInt8) : Option (Nat × List UInt8) := match tka l with
  | some (m, r) => if (i = 0 ∨ m ≠ 0) ∧ x + m * 2 ^ (7 * i) < 18446744073709551616 then some (x + m * 2 ^ (7 * i), r) else none
  | none => none
theorem tki_zero (l : List UInt8) : tki 0 0 l = tk l := by
  unfold tki tk
  cases tka l with
  | none => rfl
  | some p => obtain ⟨m, r⟩ := p; simp
theorem pow7 (i : Nat) : 2 ^ (7 * (i + 1)) = 128 * 2 ^ (7 * i) := by rw [Nat.mul_add, Nat.pow_add, Nat.mul_comm]
theorem tki_step (i x : Nat) (c : UInt8) (l : List UInt8) (h : ¬ c.toNat < 128) : tki i x (c :: l) = tki (i + 1) (x + c.toNat % 128 * 2 ^ (7 * i)) l := by
  unfold tki
  cases e : tka l with
  | none => rw [tka_none h e]
  | some p =>
    obtain ⟨m, r⟩ := p
    rw [tka_some h e]
    by_cases hm : m = 0
    · simp [hm]
    · have h1 : x + (c.toNat % 128 + 128 * m) * 2 ^ (7 * i) = x + c.toNat % 128 * 2 ^ (7 * i) + m * 2 ^ (7 * (i + 1)) := by
        rw [pow7, Nat.add_mul]
        have : 128 * m * 2 ^ (7 * i) = m * (128 * 2 ^ (7 * i)) := by rw [Nat.mul_comm 128 m, Nat.mul_assoc]
        omega
      have h2 : (i = 0 ∨ c.toNat % 128 + 128 * m ≠ 0) := by omega
      simp only [if_neg hm]
      rw [h1]
      have h3 : (i + 1 = 0 ∨ m ≠ 0) := .inr hm
      simp only [h2, h3, true_and]
theorem tki_big (i x : Nat) (c : UInt8) (l : List UInt8) (hi : 10 ≤ i) : tki i x (c :: l) = none := by
  unfold tki
  cases e : tka (c :: l) with
  | none => rfl
  | some p =>
    obtain ⟨m, r⟩ := p
    simp only
    rw [if_neg]
    rintro ⟨h1, h2⟩
    have hm : m ≠ 0 := by omega
    have : 2 ^ 70 ≤ 2 ^ (7 * i) := Nat.pow_le_pow_right (by decide) (by omega)
    have h3 : 1 * 2 ^ (7 * i) ≤ m * 2 ^ (7 * i) := Nat.mul_le_mul_right _ (by omega)
    omega
theorem tki_over (i x : Nat) (c : UInt8) (l : List UInt8) (hi : 18446744073709551616 ≤ c.toNat % 128 * 2 ^ (7 * i)) : tki i x (c :: l) = none := by
  unfold tki
  cases e : tka (c :: l) with
  | none => rfl
  | some p =>
    obtain ⟨m, r⟩ := p
    simp only
    rw [if_neg]
    rintro ⟨h1, h2⟩
    have hm : c.toNat % 128 ≤ m := by
      rcases Nat.lt_or_ge c.toNat 128 with hc | hc
      · rw [tka_cons_lt _ _ hc] at e; simp at e; omega
      · cases e2 : tka l with
        | none => rw [tka_none (by omega) e2] at e; cases e
        | some q =>
          obtain ⟨m', r'⟩ := q
          rw [tka_some (by omega) e2] at e
          split at e
          · cases e
          · simp at e; omega
    have h3 : c.toNat % 128 * 2 ^ (7 * i) ≤ m * 2 ^ (7 * i) := Nat.mul_le_mul_right _ hm
    omega
theorem tki_last (i x : Nat) (c : UInt8) (l : List UInt8) (h : c.toNat < 128) :
    tki i x (c :: l) = if (i = 0 ∨ c.toNat ≠ 0) ∧ x + c.toNat * 2 ^ (7 * i) < 18446744073709551616 then some (x + c.toNat * 2 ^ (7 * i), l) else none := by
  unfold tki; rw [tka_cons_lt _ _ h]
theorem shl_nat (x y : Nat) (hy : y ≤ 64) : shl .u64 (x : Int) (y : Int) = ((x * 2 ^ y % 18446744073709551616 : Nat) : Int) := by
  unfold shl
  have h : min ((y : Int)).toNat IntKind.u64.bits = y := by show min ((y : Int)).toNat 64 = y; omega
  rw [h, wu]
  simp
theorem shr_nat (x y : Nat) (hy : y ≤ 64) : shr .u64 (x : Int) (y : Int) = ((x / 2 ^ y : Nat) : Int) := by
  unfold shr
  have h : min ((y : Int)).toNat IntKind.u64.bits = y := by show min ((y : Int)).toNat 64 = y; omega
  rw [h]
  simp
theorem shift_back (low j : Nat) (hl : low < 256) : decide ((low * 2 ^ j % 18446744073709551616) / 2 ^ j = low) = decide (low * 2 ^ j < 18446744073709551616) := by
  have hp : 0 < 2 ^ j := Nat.two_pow_pos j
  rcases Nat.lt_or_ge (low * 2 ^ j) 18446744073709551616 with h | h
  · rw [Nat.mod_eq_of_lt h, Nat.mul_div_cancel _ hp]; simp [h]
  · have h1 : (low * 2 ^ j % 18446744073709551616) / 2 ^ j < low := by
      rw [Nat.div_lt_iff_lt_mul hp]; omega
    have h2 : ¬ (low * 2 ^ j < 18446744073709551616) := by omega
    simp only [h2, decide_false, decide_eq_false_iff_not]
    omega
theorem drop_app1 (pre rest : List UInt8) (c : UInt8) : (List.take (pre ++ c :: rest).length (pre ++ c :: rest)).drop (pre.length + 1) = rest := by
  rw [List.take_length, ← List.drop_drop]; simp

theorem take_l0 : ∀ (rest pre : List UInt8) (x : Nat), (pre ++ rest).length ≤ 140737488351232 → (x < 18446744073709551616 ∧ x < 2 ^ (7 * pre.length)) →
    Ev (fun k => num_Take.l0 k (lb (pre ++ rest)) (x : Int) (((lb (pre ++ rest)).size : Nat) : Int) (pre.length : Int)) (tres (tki pre.length x rest)) := by
  intro rest
  induction rest with
  | nil =>
    intro pre x hl hx
    refine Ev.step (fun k => by rw [num_Take.l0]) ?_
    refine Ev.neg (by rw [lb_size]; simp) (Ev.val ?_)
    rfl
  | cons c rest ih =>
    intro pre x hl hx
    have hlen : (pre ++ c :: rest).length = pre.length + 1 + rest.length := by simp; omega
    have hc := u8_lt c
    have hb : IntKind.u64.wrap (bt (lb (pre ++ c :: rest)) (pre.length : Int)) = ((c.toNat : Nat) : Int) := by
      rw [bt_app]; exact wu_nat _ (by omega)
    have e7 : wrap64 (7 * (pre.length : Int)) = ((7 * pre.length : Nat) : Int) := by rw [w64 _ (by omega) (by omega)]; omega
    refine Ev.step (fun k => by rw [num_Take.l0]) ?_
    refine Ev.pos (by rw [lb_size]; omega) (Ev.pos (by omega) (Ev.pos (by rw [lb_size]; omega) ?_))
    rw [hb, e7, b64_andNot128 _ hc]
    by_cases h7 : 64 ≤ 7 * pre.length
    · refine Ev.pos (by omega) ?_
      refine Ev.step (fun k => by rw [num_Take.j1]) ?_
      refine Ev.pos rfl (Ev.val ?_)
      rw [tki_big _ _ _ _ (by omega)]; rfl
    · refine Ev.neg (by omega) (Ev.pos (by omega) ?_)
      rw [shl_nat _ _ (by omega), shr_nat _ _ (by omega)]
      have hsb := shift_back (c.toNat % 128) (7 * pre.length) (by omega)
      have hbne : (((((c.toNat % 128 * 2 ^ (7 * pre.length) % 18446744073709551616) / 2 ^ (7 * pre.length) : Nat) : Int)) != ((c.toNat % 128 : Nat) : Int)) = !decide (c.toNat % 128 * 2 ^ (7 * pre.length) < 18446744073709551616) := by
        rw [← hsb]
        by_cases e : (c.toNat % 128 * 2 ^ (7 * pre.length) % 18446744073709551616) / 2 ^ (7 * pre.length) = c.toNat % 128
        · rw [e]; simp
        · rw [decide_eq_false e]
          have : ((((c.toNat % 128 * 2 ^ (7 * pre.length) % 18446744073709551616) / 2 ^ (7 * pre.length) : Nat) : Int)) ≠ ((c.toNat % 128 : Nat) : Int) := by exact_mod_cast e
          simpa using this
      rw [hbne]
      by_cases hov : c.toNat % 128 * 2 ^ (7 * pre.length) < 18446744073709551616
      · rw [decide_eq_true hov]
        refine Ev.step (fun k => by rw [num_Take.j1]) ?_
        refine Ev.neg (by simp) (Ev.pos (by omega) ?_)
        rw [shl_nat _ _ (by omega), Nat.mod_eq_of_lt hov, b64_or x _ _ hx.2 hov hx.1]
        have e1 : wrap64 ((pre.length : Int) + 1) = ((pre.length + 1 : Nat) : Int) := by rw [w64 _ (by omega) (by omega)]; omega
        have hpow : c.toNat % 128 * 2 ^ (7 * pre.length) ≤ 127 * 2 ^ (7 * pre.length) := Nat.mul_le_mul_right _ (by omega)
        have hlt : x + c.toNat % 128 * 2 ^ (7 * pre.length) < 2 ^ (7 * (pre.length + 1)) := by rw [pow7]; omega
        have hsum : x + c.toNat % 128 * 2 ^ (7 * pre.length) < 18446744073709551616 := by
          have hdiv : (2 ^ (7 * pre.length)) * 2 ^ (64 - 7 * pre.length) = 18446744073709551616 := by
            rw [← Nat.pow_add, show 7 * pre.length + (64 - 7 * pre.length) = 64 by omega]
          have hlow : c.toNat % 128 + 1 ≤ 2 ^ (64 - 7 * pre.length) := by
            rw [← hdiv, Nat.mul_comm] at hov
            exact Nat.lt_of_mul_lt_mul_left hov
          have := Nat.mul_le_mul_left (2 ^ (7 * pre.length)) hlow
          rw [hdiv, Nat.mul_add, Nat.mul_one, Nat.mul_comm] at this
          omega
        by_cases h128 : c.toNat < 128
        · have hm : c.toNat % 128 = c.toNat := Nat.mod_eq_of_lt h128
          rw [hm] at hsum
          refine Ev.pos (by omega) ?_
          rw [tki_last _ _ _ _ h128, e1, hm]
          have hext : (lb (pre ++ c :: rest)).extract (((pre.length + 1 : Nat) : Int)).toNat (lb (pre ++ c :: rest)).size = lb rest := by
            rw [lb_extract, lb_size]
            have : (((pre.length + 1 : Nat) : Int)).toNat = pre.length + 1 := by omega
            rw [this, drop_app1]
          rw [hext]
          by_cases h0 : c.toNat = 0
          · refine Ev.pos (by omega) ?_
            by_cases hi : pre.length = 0
            · refine Ev.neg (by omega) (Ev.pos (by omega) (Ev.pos (by rw [lb_size]; omega) (Ev.val ?_)))
              rw [if_pos ⟨.inl hi, hsum⟩]; rfl
            · refine Ev.pos (by omega) (Ev.val ?_)
              rw [if_neg (by rintro ⟨h, _⟩; omega)]; rfl
          · refine Ev.neg (by omega) (Ev.pos (by omega) (Ev.pos (by rw [lb_size]; omega) (Ev.val ?_)))
            rw [if_pos ⟨.inr h0, hsum⟩]; rfl
        · refine Ev.neg (by omega) ?_
          rw [e1, tki_step _ _ _ _ h128]
          have := ih (pre ++ [c]) (x + c.toNat % 128 * 2 ^ (7 * pre.length)) (by simpa using hl) ⟨hsum, by simpa using hlt⟩
          simpa using this
      · rw [decide_eq_false hov]
        refine Ev.step (fun k => by rw [num_Take.j1]) ?_
        refine Ev.pos rfl (Ev.val ?_)
        rw [tki_over _ _ _ _ (by omega)]; rfl
theorem Take_ev (l : List UInt8) (h : l.length ≤ 140737488351232) : Ev (fun k => num_Take.f k (lb l)) (tres (tk l)) := by
  have := take_l0 l [] 0 (by simpa using h) (by simp)
  simp only [List.nil_append, List.length_nil, tki_zero] at this
  exact this
end Go.Proofs.Yteijlcnjnooiiaa.NumS
