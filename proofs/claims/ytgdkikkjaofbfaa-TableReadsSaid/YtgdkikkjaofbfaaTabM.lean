/- What the printed functions come to, in one text (merge.py): NumA, NumU, NumR, NumB, TNumV, TNumW, TBloom, TBloom2, TBloom3, TBloom5, TBloomM, Blk, Blk2, Blk3, Blk4, Blk5, Blk6, Blk7, Blk8, TBlkE, TBlkR, TBlkT, Tab1, Tab2, Tab3, Tab4, Tab5, TabG, TabO, TabF, TabR, TabS, TabReads. -/
import Derived.Test.YtgdkikkjaofbfaaPx
import Derived.Test.YtgdkikkjaofbfaaTh2
import Derived.Test.YtgdkikkjaofbfaaTh
set_option linter.unusedVariables false
set_option linter.unusedSimpArgs false
namespace Go.Proofs.Ytgdkikkjaofbfaa.NumS
open Go.RowKit Go.Proofs.Ytgdkikkjaofbfaa.P Go.Proofs.Ytgdkikkjaofbfaa.Th Go.Proofs.YtgdkikkjaofbfaaW.PrintWords Go.Proofs.YtgdkikkjaofbfaaW.PrintLast Go.Proofs.YtgdkikkjaofbfaaW.PrintMore


theorem short_l0 (m : Nat) : ∀ (n : Nat) (acc : List Int), n < 128 ^ (m + 1) → acc.length + m + 1 < 140737488355328 →
  Ev (fun k => qP.l0 k (n : Int) acc) (lb (ofI acc ++ short n)) := by
 induction m with
 | zero =>
  intro n acc h hl
  refine Ev.step (fun k => by rw [qP.l0]) ?_
  refine Ev.neg (by omega) (Ev.pos (by omega) (Ev.val ?_))
  rw [son, ofI_app, ofI_mod, short_lt n (by omega)]
 | succ m ih =>
  intro n acc h hl
  refine Ev.step (fun k => by rw [qP.l0]) ?_
  rcases Nat.lt_or_ge n 128 with h1 | h1
  ·refine Ev.neg (by omega) (Ev.pos (by omega) (Ev.val ?_))
   rw [son, ofI_app, ofI_mod, short_lt n h1]
  ·refine Ev.pos (by omega) (Ev.pos (by omega) ?_)
   have e1 : ((n : Int) / 128) = ((n / 128 : Nat) : Int) := by omega
   have e2 : ((n : Int) % 256) = ((n % 256 : Nat) : Int) := by omega
   have e3 : n % 256 % 128 = n % 128 := by omega
   rw [e1, e2, b8_or128 _ (by omega), e3]
   have := ih (n / 128) (acc ++ [((n % 128 + 128 : Nat) : Int)]) (by rw [Nat.div_lt_iff_lt_mul (by decide)]; rw [Nat.pow_succ] at h; exact h) (by simp; omega)
   refine Ev.eq this ?_
   rw [ofI_app, ofI_one, short_ge n h1]; simp
theorem Short_ev (n : Nat) (h : n < 18446744073709551616) : Ev (fun k => qP.f k (n : Int)) (lb (short n)) :=
 short_l0 9 n [] (Nat.lt_of_lt_of_le h (by decide)) (by simp)

def tres : Option (Nat × List UInt8) → Int × ByteArray × Bool
 | some (n, r) => ((n : Int), lb r, true)
 | none => (0, lb [], false)
def tki (i x : Nat) (l : List UInt8) : Option (Nat × List UInt8) := match tka l with
 | some (m, r) => if (i = 0 ∨ m ≠ 0) ∧ x + m * 2 ^ (7 * i) < 18446744073709551616 then some (x + m * 2 ^ (7 * i), r) else none
 | none => none
theorem tki_zero (l : List UInt8) : tki 0 0 l = tk l := by
 unfold tki tk
 cases tka l with
 | none => rfl
 | some p => obtain ⟨m, r⟩ := p; simp
theorem pow7 (i : Nat) : 2 ^ (7 * (i + 1)) = 128 * 2 ^ (7 * i) := by rw [Nat.mul_add, Nat.pow_add, Nat.mul_comm]
theorem tki_step (i x : Nat) (c : UInt8) (l : List UInt8) (h : ¬ c.toNat < 128) : tki i x (c :: l) = tki (i + 1) (x + c.toNat % 128 * 2 ^ (7 * i)) l := by
 unfold tki
 cases e : tka l with
 | none => rw [tka_none h e]
 | some p =>
  obtain ⟨m, r⟩ := p
  rw [tka_some h e]
  by_cases hm : m = 0
  ·simp [hm]
  ·have h1 : x + (c.toNat % 128 + 128 * m) * 2 ^ (7 * i) = x + c.toNat % 128 * 2 ^ (7 * i) + m * 2 ^ (7 * (i + 1)) := by
    rw [pow7, Nat.add_mul]
    have : 128 * m * 2 ^ (7 * i) = m * (128 * 2 ^ (7 * i)) := by rw [Nat.mul_comm 128 m, Nat.mul_assoc]
    omega
   have h2 : (i = 0 ∨ c.toNat % 128 + 128 * m ≠ 0) := by omega
   simp only [if_neg hm]
   rw [h1]
   have h3 : (i + 1 = 0 ∨ m ≠ 0) := .inr hm
   simp only [h2, h3, true_and]
theorem tki_big (i x : Nat) (c : UInt8) (l : List UInt8) (hi : 10 ≤ i) : tki i x (c :: l) = none := by
 unfold tki
 cases e : tka (c :: l) with
 | none => rfl
 | some p =>
  obtain ⟨m, r⟩ := p
  simp only
  rw [if_neg]
  rintro ⟨h1, h2⟩
  have hm : m ≠ 0 := by omega
  have : 2 ^ 70 ≤ 2 ^ (7 * i) := Nat.pow_le_pow_right (by decide) (by omega)
  have h3 : 1 * 2 ^ (7 * i) ≤ m * 2 ^ (7 * i) := Nat.mul_le_mul_right _ (by omega)
  omega
theorem tki_over (i x : Nat) (c : UInt8) (l : List UInt8) (hi : 18446744073709551616 ≤ c.toNat % 128 * 2 ^ (7 * i)) : tki i x (c :: l) = none := by
 unfold tki
 cases e : tka (c :: l) with
 | none => rfl
 | some p =>
  obtain ⟨m, r⟩ := p
  simp only
  rw [if_neg]
  rintro ⟨h1, h2⟩
  have hm : c.toNat % 128 ≤ m := by
   rcases Nat.lt_or_ge c.toNat 128 with hc | hc
   ·rw [tka_cons_lt _ _ hc] at e; simp at e; omega
   ·cases e2 : tka l with
    | none => rw [tka_none (by omega) e2] at e; cases e
    | some q =>
     obtain ⟨m', r'⟩ := q
     rw [tka_some (by omega) e2] at e
     split at e
     ·cases e
     ·simp at e; omega
  have h3 : c.toNat % 128 * 2 ^ (7 * i) ≤ m * 2 ^ (7 * i) := Nat.mul_le_mul_right _ hm
  omega
theorem tki_last (i x : Nat) (c : UInt8) (l : List UInt8) (h : c.toNat < 128) :
  tki i x (c :: l) = if (i = 0 ∨ c.toNat ≠ 0) ∧ x + c.toNat * 2 ^ (7 * i) < 18446744073709551616 then some (x + c.toNat * 2 ^ (7 * i), l) else none := by
 unfold tki; rw [tka_cons_lt _ _ h]
theorem shl_nat (x y : Nat) (hy : y ≤ 64) : shl .u64 (x : Int) (y : Int) = ((x * 2 ^ y % 18446744073709551616 : Nat) : Int) := by
 unfold shl
 have h : min ((y : Int)).toNat IntKind.u64.bits = y := by show min ((y : Int)).toNat 64 = y; omega
 rw [h, wu]
 simp
theorem shr_nat (x y : Nat) (hy : y ≤ 64) : shr .u64 (x : Int) (y : Int) = ((x / 2 ^ y : Nat) : Int) := by
 unfold shr
 have h : min ((y : Int)).toNat IntKind.u64.bits = y := by show min ((y : Int)).toNat 64 = y; omega
 rw [h]
 simp
theorem shift_back (low j : Nat) (hl : low < 256) : decide ((low * 2 ^ j % 18446744073709551616) / 2 ^ j = low) = decide (low * 2 ^ j < 18446744073709551616) := by
 have hp : 0 < 2 ^ j := Nat.two_pow_pos j
 rcases Nat.lt_or_ge (low * 2 ^ j) 18446744073709551616 with h | h
 ·rw [Nat.mod_eq_of_lt h, Nat.mul_div_cancel _ hp]; simp [h]
 ·have h1 : (low * 2 ^ j % 18446744073709551616) / 2 ^ j < low := by
   rw [Nat.div_lt_iff_lt_mul hp]; omega
  have h2 : ¬ (low * 2 ^ j < 18446744073709551616) := by omega
  simp only [h2, decide_false, decide_eq_false_iff_not]
  omega
theorem drop_app1 (pre rest : List UInt8) (c : UInt8) : (List.take (pre ++ c :: rest).length (pre ++ c :: rest)).drop (pre.length + 1) = rest := by
 rw [List.take_length, ← List.drop_drop]; simp

theorem take_l0 : ∀ (rest pre : List UInt8) (x : Nat), (pre ++ rest).length ≤ 140737488351232 → (x < 18446744073709551616 ∧ x < 2 ^ (7 * pre.length)) →
  Ev (fun k => qV.l0 k (lb (pre ++ rest)) (x : Int) (((lb (pre ++ rest)).size : Nat) : Int) (pre.length : Int)) (tres (tki pre.length x rest)) := by
 intro rest
 induction rest with
 | nil =>
  intro pre x hl hx
  refine Ev.step (fun k => by rw [qV.l0]) ?_
  refine Ev.neg (by rw [lb_size]; simp) (Ev.val ?_)
  rfl
 | cons c rest ih =>
  intro pre x hl hx
  have hlen : (pre ++ c :: rest).length = pre.length + 1 + rest.length := by simp; omega
  have hc := u8_lt c
  have hb : IntKind.u64.wrap (bt (lb (pre ++ c :: rest)) (pre.length : Int)) = ((c.toNat : Nat) : Int) := by
   rw [bt_app]; exact wu_nat _ (by omega)
  have e7 : wrap64 (7 * (pre.length : Int)) = ((7 * pre.length : Nat) : Int) := by rw [w64 _ (by omega) (by omega)]; omega
  refine Ev.step (fun k => by rw [qV.l0]) ?_
  refine Ev.pos (by rw [lb_size]; omega) (Ev.pos (by omega) (Ev.pos (by rw [lb_size]; omega) ?_))
  rw [hb, e7, b64_andNot128 _ hc]
  by_cases h7 : 64 ≤ 7 * pre.length
  ·refine Ev.pos (by omega) ?_
   refine Ev.step (fun k => by rw [qV.j1]) ?_
   refine Ev.pos rfl (Ev.val ?_)
   rw [tki_big _ _ _ _ (by omega)]; rfl
  ·refine Ev.neg (by omega) (Ev.pos (by omega) ?_)
   rw [shl_nat _ _ (by omega), shr_nat _ _ (by omega)]
   have hsb := shift_back (c.toNat % 128) (7 * pre.length) (by omega)
   have hbne : (((((c.toNat % 128 * 2 ^ (7 * pre.length) % 18446744073709551616) / 2 ^ (7 * pre.length) : Nat) : Int)) != ((c.toNat % 128 : Nat) : Int)) = !decide (c.toNat % 128 * 2 ^ (7 * pre.length) < 18446744073709551616) := by
    rw [← hsb]
    by_cases e : (c.toNat % 128 * 2 ^ (7 * pre.length) % 18446744073709551616) / 2 ^ (7 * pre.length) = c.toNat % 128
    ·rw [e]; simp
    ·rw [decide_eq_false e]
     have : ((((c.toNat % 128 * 2 ^ (7 * pre.length) % 18446744073709551616) / 2 ^ (7 * pre.length) : Nat) : Int)) ≠ ((c.toNat % 128 : Nat) : Int) := by exact_mod_cast e
     simpa using this
   rw [hbne]
   by_cases hov : c.toNat % 128 * 2 ^ (7 * pre.length) < 18446744073709551616
   ·rw [decide_eq_true hov]
    refine Ev.step (fun k => by rw [qV.j1]) ?_
    refine Ev.neg (by simp) (Ev.pos (by omega) ?_)
    rw [shl_nat _ _ (by omega), Nat.mod_eq_of_lt hov, b64_or x _ _ hx.2 hov hx.1]
    have e1 : wrap64 ((pre.length : Int) + 1) = ((pre.length + 1 : Nat) : Int) := by rw [w64 _ (by omega) (by omega)]; omega
    have hpow : c.toNat % 128 * 2 ^ (7 * pre.length) ≤ 127 * 2 ^ (7 * pre.length) := Nat.mul_le_mul_right _ (by omega)
    have hlt : x + c.toNat % 128 * 2 ^ (7 * pre.length) < 2 ^ (7 * (pre.length + 1)) := by rw [pow7]; omega
    have hsum : x + c.toNat % 128 * 2 ^ (7 * pre.length) < 18446744073709551616 := by
     have hdiv : (2 ^ (7 * pre.length)) * 2 ^ (64 - 7 * pre.length) = 18446744073709551616 := by
      rw [← Nat.pow_add, show 7 * pre.length + (64 - 7 * pre.length) = 64 by omega]
     have hlow : c.toNat % 128 + 1 ≤ 2 ^ (64 - 7 * pre.length) := by
      rw [← hdiv, Nat.mul_comm] at hov
      exact Nat.lt_of_mul_lt_mul_left hov
     have := Nat.mul_le_mul_left (2 ^ (7 * pre.length)) hlow
     rw [hdiv, Nat.mul_add, Nat.mul_one, Nat.mul_comm] at this
     omega
    by_cases h128 : c.toNat < 128
    ·have hm : c.toNat % 128 = c.toNat := Nat.mod_eq_of_lt h128
     rw [hm] at hsum
     refine Ev.pos (by omega) ?_
     rw [tki_last _ _ _ _ h128, e1, hm]
     have hext : (lb (pre ++ c :: rest)).extract (((pre.length + 1 : Nat) : Int)).toNat (lb (pre ++ c :: rest)).size = lb rest := by
      rw [lb_extract, lb_size]
      have : (((pre.length + 1 : Nat) : Int)).toNat = pre.length + 1 := by omega
      rw [this, drop_app1]
     rw [hext]
     by_cases h0 : c.toNat = 0
     ·refine Ev.pos (by omega) ?_
      by_cases hi : pre.length = 0
      ·refine Ev.neg (by omega) (Ev.pos (by omega) (Ev.pos (by rw [lb_size]; omega) (Ev.val ?_)))
       rw [if_pos ⟨.inl hi, hsum⟩]; rfl
      ·refine Ev.pos (by omega) (Ev.val ?_)
       rw [if_neg (by rintro ⟨h, _⟩; omega)]; rfl
     ·refine Ev.neg (by omega) (Ev.pos (by omega) (Ev.pos (by rw [lb_size]; omega) (Ev.val ?_)))
      rw [if_pos ⟨.inr h0, hsum⟩]; rfl
    ·refine Ev.neg (by omega) ?_
     rw [e1, tki_step _ _ _ _ h128]
     have := ih (pre ++ [c]) (x + c.toNat % 128 * 2 ^ (7 * pre.length)) (by simpa using hl) ⟨hsum, by simpa using hlt⟩
     simpa using this
   ·rw [decide_eq_false hov]
    refine Ev.step (fun k => by rw [qV.j1]) ?_
    refine Ev.pos rfl (Ev.val ?_)
    rw [tki_over _ _ _ _ (by omega)]; rfl
theorem Take_ev (l : List UInt8) (h : l.length ≤ 140737488351232) : Ev (fun k => qV.f k (lb l)) (tres (tk l)) := by
 have := take_l0 l [] 0 (by simpa using h) (by simp)
 simp only [List.nil_append, List.length_nil, tki_zero] at this
 exact this

theorem Long_f (n : Nat) : qi1.f (n : Int) = some (lb (long n)) := by
 unfold qi1.f
 congr 1
 rw [son]
 congr 1
 simp only [qi1.bs, ofI, long, longk, List.map_cons, List.map_nil, List.nil_append, List.cons_append, Nat.div_div_eq_div_mul]
 have e0 : ((n : Int) % 256).toNat = n % 256 := by omega
 have e1 : ((n : Int) / 256 % 256).toNat = n / 256 % 256 := by omega
 have e2 : ((n : Int) / 65536 % 256).toNat = n / 65536 % 256 := by omega
 have e3 : ((n : Int) / 16777216 % 256).toNat = n / 16777216 % 256 := by omega
 have e4 : ((n : Int) / 4294967296 % 256).toNat = n / 4294967296 % 256 := by omega
 have e5 : ((n : Int) / 1099511627776 % 256).toNat = n / 1099511627776 % 256 := by omega
 have e6 : ((n : Int) / 281474976710656 % 256).toNat = n / 281474976710656 % 256 := by omega
 have e7 : ((n : Int) / 72057594037927936 % 256).toNat = n / 72057594037927936 % 256 := by omega
 rw [e0, e1, e2, e3, e4, e5, e6, e7]
theorem b64_or' (b i a : Nat) (ha : a < 2 ^ i) (hb : b * 2 ^ i < 18446744073709551616) (ha2 : a < 18446744073709551616) : Go.bits .or .u64 ((b * 2 ^ i : Nat) : Int) (a : Int) = ((b * 2 ^ i + a : Nat) : Int) := by
 rw [(bits_nat .u64 64 (by decide) wraps_u64 (b * 2 ^ i) a (by simpa using hb) (by simpa using ha2)).2]
 rw [Nat.mul_comm b, ← Nat.two_pow_add_eq_or_of_lt ha b]
theorem unlong_l0 : ∀ (rest pre : List UInt8), pre.length + rest.length = 8 →
  Ev (fun k => qN.l0 k (lb (pre ++ rest)) ((be 0 pre : Nat) : Int) (pre.length : Int)) (((be 0 (pre ++ rest) : Nat) : Int), true) := by
 intro rest
 induction rest with
 | nil =>
  intro pre h
  refine Ev.step (fun k => by rw [qN.l0]) ?_
  refine Ev.neg (by simp at h; omega) (Ev.val ?_)
  simp
 | cons c rest ih =>
  intro pre h
  have h' : pre.length + (rest.length + 1) = 8 := by simpa using h
  have hc := u8_lt c
  have hlt := be_lt pre 0
  have hp : 256 ^ pre.length ≤ 256 ^ 7 := Nat.pow_le_pow_right (by decide) (by omega)
  refine Ev.step (fun k => by rw [qN.l0]) ?_
  refine Ev.pos (by omega) (Ev.pos (by omega) (Ev.pos (by rw [lb_size]; simp; omega) ?_))
  rw [bt_app, wu_nat _ (by omega)]
  have e1 : wrap64 ((pre.length : Int) + 1) = ((pre.length + 1 : Nat) : Int) := by rw [w64 _ (by omega) (by omega)]; omega
  have e2 : IntKind.u64.wrap (((be 0 pre : Nat) : Int) * 256) = ((be 0 pre * 2 ^ 8 : Nat) : Int) := by
   rw [wu_in _ (by omega) (by omega)]; omega
  rw [e1, e2, b64_or' _ 8 _ (by omega) (by omega) (by omega)]
  have := ih (pre ++ [c]) (by simp; omega)
  rw [be_app, be_cons, be_nil] at this
  simpa using this
def ures (l : List UInt8) : Int × Bool := if l.length = 8 then (((be 0 l : Nat) : Int), true) else (0, false)
theorem Unlong_ev (l : List UInt8) : Ev (fun k => qN.f k (lb l)) (ures l) := by
 unfold ures qN.f
 by_cases h : l.length = 8
 ·rw [if_pos h]
  refine Ev.pos (by rw [lb_size]; omega) ?_
  exact unlong_l0 l [] (by simpa using h)
 ·rw [if_neg h]
  exact Ev.neg (by rw [lb_size]; omega) (Ev.now _)

theorem rshort_l0 (m : Nat) : ∀ (n : Nat) (acc : List Int), n < 128 ^ (m + 1) → n < 18446744073709551616 → acc.length + m + 1 < 140737488355328 →
  Ev (fun k => qt.l0 k (n : Int) acc) (lb (ofI acc ++ short n)) := by
 induction m with
 | zero =>
  intro n acc h hn hl
  refine Ev.step (fun k => by rw [qt.l0]) ?_
  refine Ev.neg (by omega) (Ev.pos (by omega) (Ev.val ?_))
  rw [son, ofI_app, ofI_mod, short_lt n (by omega)]
 | succ m ih =>
  intro n acc h hn hl
  refine Ev.step (fun k => by rw [qt.l0]) ?_
  rcases Nat.lt_or_ge n 128 with h1 | h1
  ·refine Ev.neg (by omega) (Ev.pos (by omega) (Ev.val ?_))
   rw [son, ofI_app, ofI_mod, short_lt n h1]
  ·refine Ev.pos (by omega) (Ev.pos (by omega) ?_)
   have t1 : Int.tdiv (n : Int) 128 = ((n / 128 : Nat) : Int) := by rw [Int.tdiv_eq_ediv_of_nonneg (by omega)]; omega
   have t2 : Int.tmod (n : Int) 128 = ((n % 128 : Nat) : Int) := by rw [Int.tmod_eq_emod_of_nonneg (by omega)]; omega
   have e1 : IntKind.u64.wrap (Int.tdiv (n : Int) 128) = ((n / 128 : Nat) : Int) := by rw [t1]; exact wu_nat _ (by omega)
   have e2 : IntKind.u64.wrap (Int.tmod (n : Int) 128 + 128) % 256 = ((n % 128 + 128 : Nat) : Int) := by
    rw [t2, wu_in _ (by omega) (by omega)]; omega
   rw [e1, e2]
   have := ih (n / 128) (acc ++ [((n % 128 + 128 : Nat) : Int)]) (by rw [Nat.div_lt_iff_lt_mul (by decide)]; rw [Nat.pow_succ] at h; exact h) (by omega) (by simp; omega)
   refine Ev.eq this ?_
   rw [ofI_app, ofI_one, short_ge n h1]; simp
theorem RShort_ev (n : Nat) (h : n < 18446744073709551616) : Ev (fun k => qt.f k (n : Int)) (lb (short n)) :=
 rshort_l0 9 n [] (Nat.lt_of_lt_of_le h (by decide)) h (by simp)


theorem mulmod_add (a b x p : Nat) (h1 : a = x % 18446744073709551616) (h2 : b = p % 18446744073709551616) (c : Nat) :
  (a + c * b % 18446744073709551616) % 18446744073709551616 = (x + c * p) % 18446744073709551616 := by
 subst h1 h2
 rw [Nat.mul_mod_mod, ← Nat.add_mod]
theorem rtake_l0 : ∀ (rest pre : List UInt8) (x n p : Nat), (pre ++ rest).length ≤ 140737488351232 → n = x % 18446744073709551616 → p = 2 ^ (7 * pre.length) % 18446744073709551616 → tk (pre ++ rest) = tki pre.length x rest →
  Ev (fun k => qu.l0 k (lb (pre ++ rest)) (n : Int) (p : Int) (pre.length : Int)) (tres (tk (pre ++ rest))) := by
 intro rest
 induction rest with
 | nil =>
  intro pre x n p hl hn hp ht
  refine Ev.step (fun k => by rw [qu.l0]) ?_
  refine Ev.neg (by rw [lb_size]; simp) ?_
  refine Ev.step (fun k => by rw [qu.j1]) ?_
  refine Ev.neg (by simp) (Ev.val ?_)
  rw [ht]; rfl
 | cons c rest ih =>
  intro pre x n p hl hn0 hp0 ht
  have hn := Aside0.mk hn0
  have hp := Aside0.mk hp0
  clear hn0 hp0
  have hlen : (pre ++ c :: rest).length = pre.length + 1 + rest.length := by simp; omega
  have hc := u8_lt c
  have hb : IntKind.u64.wrap (bt (lb (pre ++ c :: rest)) (pre.length : Int)) = ((c.toNat : Nat) : Int) := by
   rw [bt_app]; exact wu_nat _ (by omega)
  refine Ev.step (fun k => by rw [qu.l0]) ?_
  refine Ev.pos (by rw [lb_size]; omega) ?_
  refine Ev.step (fun k => by rw [qu.j1]) ?_
  by_cases h10 : pre.length < 10
  ·refine Ev.pos (by rw [decide_eq_true_eq]; omega) (Ev.pos (by omega) (Ev.pos (by rw [lb_size]; omega) ?_))
   have e1 : wrap64 ((pre.length : Int) + 1) = ((pre.length + 1 : Nat) : Int) := by rw [w64 _ (by omega) (by omega)]; omega
   have eti : (((pre.length + 1 : Nat) : Int)).toNat = pre.length + 1 := by omega
   have hap : pre ++ c :: rest = (pre ++ [c]) ++ rest := by simp
   have etm : Int.tmod ((c.toNat : Nat) : Int) 128 = ((c.toNat % 128 : Nat) : Int) := by rw [Int.tmod_eq_emod_of_nonneg (by omega)]; omega
   have enew : IntKind.u64.wrap ((n : Int) + IntKind.u64.wrap (((c.toNat % 128 : Nat) : Int) * (p : Int))) = (((x + c.toNat % 128 * 2 ^ (7 * pre.length)) % 18446744073709551616 : Nat) : Int) := by
    rw [← mulmod_add n p x (2 ^ (7 * pre.length)) hn.out hp.out (c.toNat % 128), wu, wu, ← Int.natCast_mul]
    generalize c.toNat % 128 * p = q
    omega
   have eplace : IntKind.u64.wrap ((p : Int) * 128) = ((2 ^ (7 * (pre.length + 1)) % 18446744073709551616 : Nat) : Int) := by
    rw [wu, pow7, hp.out]
    generalize 2 ^ (7 * pre.length) = q
    omega
   rw [hb, etm, enew, e1, eplace]
   clear enew eplace hn hp
   by_cases h128 : c.toNat < 128
   ·refine Ev.pos (by omega) ?_
    have hlt : (x + c.toNat % 128 * 2 ^ (7 * pre.length)) % 18446744073709551616 < 18446744073709551616 := Nat.mod_lt _ (by decide)
    have hm : c.toNat % 128 = c.toNat := Nat.mod_eq_of_lt h128
    refine Ev.bind (RShort_ev _ hlt) ?_
    refine Ev.pos (by omega) (Ev.pos (by rw [lb_size]; omega) ?_)
    rw [eti, lb_toList, lb_extract, lb_toList, lb_extract, lb_size, drop_app1]
    have htk : (List.take (pre.length + 1) (pre ++ c :: rest)).drop 0 = pre ++ [c] := by
     rw [List.drop_zero, hap, List.take_left' (by simp)]
    rw [htk]
    rw [tki_last _ _ _ _ h128] at ht
    rw [hm] at hlt ⊢
    by_cases hok : (pre.length = 0 ∨ c.toNat ≠ 0) ∧ x + c.toNat * 2 ^ (7 * pre.length) < 18446744073709551616
    ·rw [if_pos hok] at ht
     have hmod : (x + c.toNat * 2 ^ (7 * pre.length)) % 18446744073709551616 = x + c.toNat * 2 ^ (7 * pre.length) := Nat.mod_eq_of_lt hok.2
     have hs := ((tk_iff _ _ _).1 ht).2
     rw [hap] at hs
     rw [hmod]
     refine Ev.pos (List.append_cancel_right hs).symm (Ev.val ?_)
     rw [ht]; rfl
    ·rw [if_neg hok] at ht
     refine Ev.neg (fun e => ?_) (Ev.val ?_)
     ·have := (tk_iff (pre ++ c :: rest) rest _).2 ⟨hlt, by rw [e]; exact hap⟩
      rw [ht] at this; cases this
     ·rw [ht]; rfl
   ·refine Ev.neg (by omega) ?_
    have := ih (pre ++ [c]) (x + c.toNat % 128 * 2 ^ (7 * pre.length)) _ _ (by simpa using hl) rfl rfl (by
     have h2 := tki_step pre.length x c rest h128
     rw [h2, hap] at ht
     simpa using ht)
    simpa using this
  ·refine Ev.neg (by rw [decide_eq_true_eq]; omega) (Ev.val ?_)
   rw [ht, tki_big _ _ _ _ (by omega)]; rfl
theorem RTake_ev (l : List UInt8) (h : l.length ≤ 140737488351232) : Ev (fun k => qu.f k (lb l)) (tres (tk l)) := by
 have := rtake_l0 l [] 0 0 1 (by simpa using h) rfl rfl (by rw [List.length_nil, tki_zero]; rfl)
 simp only [List.nil_append, List.length_nil] at this
 exact this



theorem rlong_l0 : ∀ (j n : Nat) (t : List UInt8), j + t.length = 8 → n < 18446744073709551616 →
  Ev (fun k => qw.l0 k (n : Int) (List.replicate j (0 : Int) ++ toI t) ((j : Int) - 1)) (lb (longk j n ++ t)) := by
 intro j
 induction j with
 | zero =>
  intro n t h hn
  refine Ev.step (fun k => by rw [qw.l0]) ?_
  refine Ev.neg (by omega) (Ev.val ?_)
  rw [son]; simp [ofI_toI, longk]
 | succ j ih =>
  intro n t h hn
  refine Ev.step (fun k => by rw [qw.l0]) ?_
  refine Ev.pos (by omega) (Ev.pos (by omega) (Ev.pos (by simp; omega) ?_))
  have t1 : IntKind.u64.wrap (Int.tdiv (n : Int) 256) = ((n / 256 : Nat) : Int) := by
   rw [Int.tdiv_eq_ediv_of_nonneg (by omega), wu_in _ (by omega) (by omega)]; omega
  have t2 : Int.tmod (n : Int) 256 % 256 = ((n % 256 : Nat) : Int) := by
   rw [Int.tmod_eq_emod_of_nonneg (by omega)]; omega
  have t3 : (((j + 1 : Nat) : Int) - 1).toNat = j := by omega
  have t4 : wrap64 (((j + 1 : Nat) : Int) - 1 - 1) = (j : Int) - 1 := by rw [w64 _ (by omega) (by omega)]; omega
  rw [t1, t2, t3, t4]
  have hset : (List.replicate (j + 1) (0 : Int) ++ toI t).set j ((n % 256 : Nat) : Int) = List.replicate j (0 : Int) ++ toI (UInt8.ofNat (n % 256) :: t) := by
   rw [List.replicate_succ', List.append_assoc, List.set_append_right _ _ (by simp)]
   simp [toI]
  rw [hset]
  refine Ev.eq (ih (n / 256) (UInt8.ofNat (n % 256) :: t) (by simp; omega) (by omega)) ?_
  rw [longk]; simp
theorem RLong_ev (n : Nat) (h : n < 18446744073709551616) : Ev (fun k => qw.f k (n : Int)) (lb (long n)) := by
 have := rlong_l0 8 n [] rfl h
 simp only [toI, List.map_nil, List.append_nil] at this
 exact this

theorem runlong_l0 : ∀ (rest pre : List UInt8), pre.length + rest.length = 8 →
  Ev (fun k => qA.l0 k (lb (pre ++ rest)) ((be 0 pre : Nat) : Int) (pre.length : Int)) (((be 0 (pre ++ rest) : Nat) : Int), true) := by
 intro rest
 induction rest with
 | nil =>
  intro pre h
  refine Ev.step (fun k => by rw [qA.l0]) ?_
  refine Ev.neg (by simp at h; omega) (Ev.val ?_)
  simp
 | cons c rest ih =>
  intro pre h
  have h' : pre.length + (rest.length + 1) = 8 := by simpa using h
  have hc := u8_lt c
  have hlt := be_lt pre 0
  have hp : 256 ^ pre.length ≤ 256 ^ 7 := Nat.pow_le_pow_right (by decide) (by omega)
  refine Ev.step (fun k => by rw [qA.l0]) ?_
  refine Ev.pos (by omega) (Ev.pos (by omega) (Ev.pos (by rw [lb_size]; simp; omega) ?_))
  rw [bt_app, wu_nat _ (by omega)]
  have e1 : wrap64 ((pre.length : Int) + 1) = ((pre.length + 1 : Nat) : Int) := by rw [w64 _ (by omega) (by omega)]; omega
  have e2 : IntKind.u64.wrap (((be 0 pre : Nat) : Int) * 256) = ((be 0 pre * 256 : Nat) : Int) := by
   rw [wu_in _ (by omega) (by omega)]; omega
  have e3 : IntKind.u64.wrap (((be 0 pre * 256 : Nat) : Int) + ((c.toNat : Nat) : Int)) = ((be 0 pre * 256 + c.toNat : Nat) : Int) := by
   rw [wu_in _ (by omega) (by omega)]; omega
  rw [e1, e2, e3]
  have := ih (pre ++ [c]) (by simp; omega)
  rw [be_app, be_cons, be_nil] at this
  simpa using this
theorem RUnlong_ev (l : List UInt8) : Ev (fun k => qA.f k (lb l)) (ures l) := by
 unfold ures qA.f
 by_cases h : l.length = 8
 ·rw [if_pos h]
  refine Ev.pos (by rw [lb_size]; omega) ?_
  exact runlong_l0 l [] (by simpa using h)
 ·rw [if_neg h]
  exact Ev.neg (by rw [lb_size]; omega) (Ev.now _)
end Go.Proofs.Ytgdkikkjaofbfaa.NumS
namespace Go.Proofs.Ytgdkikkjaofbfaa.BloomS
open Go.RowKit Go.Proofs.Ytgdkikkjaofbfaa.P Go.Proofs.Ytgdkikkjaofbfaa.Th Go.Proofs.YtgdkikkjaofbfaaW.PrintWords Go.Proofs.YtgdkikkjaofbfaaW.PrintLast Go.Proofs.YtgdkikkjaofbfaaW.PrintMore

def mixI (x : Int) (c : UInt8) : Int := IntKind.u64.wrap ((Go.bits .xor .u64 x (c.toNat : Int)) * 1099511628211)
def mix (l : List UInt8) : Int := l.foldl mixI 14695981039346656037
theorem mixI_range (x : Int) (c : UInt8) : 0 ≤ mixI x c ∧ mixI x c < 18446744073709551616 := by unfold mixI; rw [wu]; omega
theorem fold_range : ∀ (l : List UInt8) (x : Int), 0 ≤ x → x < 18446744073709551616 → 0 ≤ l.foldl mixI x ∧ l.foldl mixI x < 18446744073709551616
 | [], x, h0, h1 => ⟨h0, h1⟩
 | c :: l, x, _, _ => fold_range l _ (mixI_range x c).1 (mixI_range x c).2
theorem mix_range (l : List UInt8) : 0 ≤ mix l ∧ mix l < 18446744073709551616 := fold_range l _ (by decide) (by decide)
theorem mix_l0 : ∀ (rest pre : List UInt8) (x : Int), (pre ++ rest).length ≤ 140737488351232 →
  Ev (fun k => qW.l0 k (lb (pre ++ rest)) x (((lb (pre ++ rest)).size : Nat) : Int) (pre.length : Int)) (rest.foldl mixI x) := by
 intro rest
 induction rest with
 | nil =>
  intro pre x hl
  refine Ev.step (fun k => by rw [qW.l0]) ?_
  exact Ev.neg (by rw [lb_size]; simp) (Ev.now _)
 | cons c rest ih =>
  intro pre x hl
  have hlen : (pre ++ c :: rest).length = pre.length + 1 + rest.length := by simp; omega
  refine Ev.step (fun k => by rw [qW.l0]) ?_
  refine Ev.pos (by rw [lb_size]; omega) (Ev.pos (by omega) (Ev.pos (by rw [lb_size]; omega) ?_))
  have hc := u8_lt c
  have e1 : wrap64 ((pre.length : Int) + 1) = ((pre.length + 1 : Nat) : Int) := by rw [w64 _ (by omega) (by omega)]; omega
  rw [bt_app, wu_nat _ (by omega), e1]
  have := ih (pre ++ [c]) (mixI x c) (by simpa using hl)
  simpa [mixI] using this
theorem Mix_ev (l : List UInt8) (h : l.length ≤ 140737488351232) : Ev (fun k => qW.f k (lb l)) (mix l) := by
 have := mix_l0 l [] 14695981039346656037 (by simpa using h)
 exact this
theorem rmix_l0 : ∀ (rest pre : List UInt8) (x : Int), (pre ++ rest).length ≤ 140737488351232 →
  Ev (fun k => qJ.l0 k (lb (pre ++ rest)) x (pre.length : Int)) (rest.foldl mixI x) := by
 intro rest
 induction rest with
 | nil =>
  intro pre x hl
  refine Ev.step (fun k => by rw [qJ.l0]) ?_
  exact Ev.neg (by rw [lb_size]; simp) (Ev.now _)
 | cons c rest ih =>
  intro pre x hl
  have hlen : (pre ++ c :: rest).length = pre.length + 1 + rest.length := by simp; omega
  refine Ev.step (fun k => by rw [qJ.l0]) ?_
  refine Ev.pos (by rw [lb_size]; omega) (Ev.pos (by omega) ?_)
  have hc := u8_lt c
  have e1 : wrap64 ((pre.length : Int) + 1) = ((pre.length + 1 : Nat) : Int) := by rw [w64 _ (by omega) (by omega)]; omega
  rw [bt_app, wu_nat _ (by omega), e1]
  have := ih (pre ++ [c]) (mixI x c) (by simpa using hl)
  simpa [mixI] using this
theorem RMix_ev (l : List UInt8) (h : l.length ≤ 140737488351232) : Ev (fun k => qJ.f k (lb l)) (mix l) := by
 have := rmix_l0 l [] 14695981039346656037 (by simpa using h)
 exact this

def bitsOf (l : List UInt8) (n : Int) : List Int := if n < 1 then [] else qC.ps (mix l) n
theorem bitsOf_in (l : List UInt8) (n : Int) (h2 : n ≤ 9223372036854775807) : ∀ p ∈ bitsOf l n, 0 ≤ p ∧ p < n := by
 unfold bitsOf
 split
 ·simp
 ·exact qC.in_ (mix l) n (mix_range l).1 (by omega) h2
theorem bitsOf_less (l : List UInt8) (n : Int) : (bitsOf l n).length ≤ 4 := by
 unfold bitsOf; split <;> simp [qC.ps]
def tsum (h i : Nat) : Nat := h / 131072 + h % 2 ^ i * 140737488355328
theorem tsum_lt (h i : Nat) (hh : h < 18446744073709551616) (hi : i ≤ 17) : tsum h i < 18446744073709551616 := by
 unfold tsum
 have h1 : h % 2 ^ i < 2 ^ i := Nat.mod_lt _ (Nat.two_pow_pos i)
 have h2 : 2 ^ i ≤ 2 ^ 17 := Nat.pow_le_pow_right (by decide) hi
 omega
theorem tsum_succ (h i : Nat) : tsum h (i + 1) = tsum h i + h / 2 ^ i % 2 * 2 ^ (47 + i) := by
 unfold tsum
 have e1 : h % 2 ^ (i + 1) = h % 2 ^ i + 2 ^ i * (h / 2 ^ i % 2) := Nat.mod_pow_succ
 have e2 : 2 ^ (47 + i) = 140737488355328 * 2 ^ i := by rw [Nat.pow_add]
 rw [e1, e2, Nat.add_mul, Nat.add_assoc]
 congr 2
 rw [Nat.mul_comm (2 ^ i), Nat.mul_assoc, Nat.mul_comm (2 ^ i)]
theorem st_eq (h : Nat) (hh : h < 18446744073709551616) : qC.st (h : Int) = ((tsum h 17 : Nat) : Int) := by
 unfold qC.st
 have e1 : IntKind.u64.wrap ((h : Int) * 140737488355328) = ((h % 131072 * 2 ^ 47 : Nat) : Int) := by rw [wu]; omega
 have e2 : (h : Int) / 131072 = ((h / 131072 : Nat) : Int) := by omega
 rw [e1, e2, b64_or (h / 131072) (h % 131072) 47 (by omega) (by omega) (by omega)]
 rfl
theorem rbits_l2 (x1 h : Int) (out : List Int) (i : Nat) (hi : i < 17) (T : Int) {r : List Int} : ∀ (d j : Nat), j + d = 47 + i →
  Ev (fun k => qo.l0 k x1 out h (IntKind.u64.wrap (T + ((2 ^ (47 + i) : Nat) : Int))) ((i + 1 : Nat) : Int)) r →
  Ev (fun k => qo.l2 k x1 out h T (i : Int) ((2 ^ j : Nat) : Int) (j : Int)) r := by
 intro d
 induction d with
 | zero =>
  intro j hj hr
  refine Ev.step (fun k => by rw [qo.l2]) ?_
  have e1 : wrap64 (47 + (i : Int)) = 47 + (i : Int) := w64 _ (by omega) (by omega)
  have e2 : wrap64 ((i : Int) + 1) = ((i + 1 : Nat) : Int) := by rw [w64 _ (by omega) (by omega)]; omega
  have e3 : j = 47 + i := by omega
  rw [e1, e2, e3]
  exact Ev.neg (by omega) hr
 | succ d ih =>
  intro j hj hr
  refine Ev.step (fun k => by rw [qo.l2]) ?_
  have e1 : wrap64 (47 + (i : Int)) = 47 + (i : Int) := w64 _ (by omega) (by omega)
  have e2 : wrap64 ((j : Int) + 1) = ((j + 1 : Nat) : Int) := by rw [w64 _ (by omega) (by omega)]; omega
  have e4 : 2 ^ (j + 1) ≤ 2 ^ 63 := Nat.pow_le_pow_right (by decide) (by omega)
  have e3 : IntKind.u64.wrap (((2 ^ j : Nat) : Int) * 2) = ((2 ^ (j + 1) : Nat) : Int) := by
   rw [Nat.pow_succ] at e4 ⊢
   generalize 2 ^ j = q at e4 ⊢
   rw [wu_in _ (by omega) (by omega)]; omega
  rw [e1, e2, e3]
  exact Ev.pos (by omega) (ih (j + 1) (by omega) hr)
theorem rbits_l1 (x1 : Int) (h : Nat) (hh : h < 18446744073709551616) (out : List Int) (i : Nat) (hi : i < 17) {r : List Int} : ∀ (d j : Nat), j + d = i →
  Ev (fun k => qo.l0 k x1 out (h : Int) ((tsum h (i + 1) : Nat) : Int) ((i + 1 : Nat) : Int)) r →
  Ev (fun k => qo.l1 k x1 out (h : Int) ((tsum h i : Nat) : Int) (i : Int) ((h / 2 ^ j : Nat) : Int) (j : Int)) r := by
 intro d
 induction d with
 | zero =>
  intro j hj hr
  have hj : j = i := by omega
  subst hj
  refine Ev.step (fun k => by rw [qo.l1]) ?_
  refine Ev.neg (by omega) ?_
  have ts := tsum_succ h j
  have tl := tsum_lt h (j + 1) hh (by omega)
  have em : Int.tmod ((h / 2 ^ j : Nat) : Int) 2 = ((h / 2 ^ j % 2 : Nat) : Int) := by
   generalize h / 2 ^ j = q
   rw [Int.tmod_eq_emod_of_nonneg (by omega)]; omega
  rw [em]
  rcases Nat.mod_two_eq_zero_or_one (h / 2 ^ j) with h0 | h1
  ·rw [h0] at ts ⊢
   refine Ev.neg (by omega) ?_
   have e2 : wrap64 ((j : Int) + 1) = ((j + 1 : Nat) : Int) := by rw [w64 _ (by omega) (by omega)]; omega
   rw [e2]
   rw [ts, Nat.zero_mul, Nat.add_zero] at hr
   exact hr
  ·rw [h1] at ts ⊢
   refine Ev.pos (by omega) ?_
   refine rbits_l2 x1 (h : Int) out j hi _ (47 + j) 0 (by omega) ?_
   have e3 : IntKind.u64.wrap (((tsum h j : Nat) : Int) + ((2 ^ (47 + j) : Nat) : Int)) = ((tsum h (j + 1) : Nat) : Int) := by
    rw [ts, Nat.one_mul] at tl ⊢
    generalize 2 ^ (47 + j) = q at tl ⊢
    rw [wu_in _ (by omega) (by omega)]; omega
   rw [e3]
   exact hr
 | succ d ih =>
  intro j hj hr
  refine Ev.step (fun k => by rw [qo.l1]) ?_
  have e2 : wrap64 ((j : Int) + 1) = ((j + 1 : Nat) : Int) := by rw [w64 _ (by omega) (by omega)]; omega
  have hle : h / 2 ^ j ≤ h := Nat.div_le_self _ _
  have e3 : IntKind.u64.wrap (Int.tdiv ((h / 2 ^ j : Nat) : Int) 2) = ((h / 2 ^ (j + 1) : Nat) : Int) := by
   rw [Nat.pow_succ, ← Nat.div_div_eq_div_mul]
   generalize h / 2 ^ j = q at hle
   rw [Int.tdiv_eq_ediv_of_nonneg (by omega), wu_in _ (by omega) (by omega)]; omega
  rw [e2, e3]
  exact Ev.pos (by omega) (ih (j + 1) (by omega) hr)
theorem rbits_l0 (x1 : Int) (h : Nat) (hh : h < 18446744073709551616) (out : List Int) {r : List Int} : ∀ (d i : Nat), i + d = 17 →
  Ev (fun k => qo.l3 k x1 out (h : Int) ((tsum h 17 : Nat) : Int) 0) r →
  Ev (fun k => qo.l0 k x1 out (h : Int) ((tsum h i : Nat) : Int) (i : Int)) r := by
 intro d
 induction d with
 | zero =>
  intro i hi hr
  have hi : i = 17 := by omega
  subst hi
  refine Ev.step (fun k => by rw [qo.l0]) ?_
  exact Ev.neg (by omega) hr
 | succ d ih =>
  intro i hi hr
  refine Ev.step (fun k => by rw [qo.l0]) ?_
  refine Ev.pos (by omega) ?_
  have := rbits_l1 x1 h hh out i (by omega) i 0 (by omega) (ih (i + 1) (by omega) hr)
  simpa using this
theorem rbits_l3 (n : Int) (h1 : 1 ≤ n) (h2 : n ≤ 9223372036854775807) (h : Int) (h0 : 0 ≤ h) (hh : h < 18446744073709551616) (T : Int) (hT : T = qC.st h) :
  Ev (fun k => qo.l3 k n [] h T 0) (qC.ps h n) := by
 have hw : IntKind.u64.wrap n = n := wu_in _ (by omega) (by omega)
 have a0 : IntKind.u64.wrap (h + IntKind.u64.wrap (IntKind.u64.wrap 0 * T)) = h := by rw [wu, wu, wu]; omega
 have a1 : IntKind.u64.wrap (h + IntKind.u64.wrap (IntKind.u64.wrap 1 * T)) = IntKind.u64.wrap (h + T) := by
  have : IntKind.u64.wrap 1 = 1 := by decide
  rw [this, wu, wu, wu]; omega
 have a2 : IntKind.u64.wrap (h + IntKind.u64.wrap (IntKind.u64.wrap 2 * T)) = IntKind.u64.wrap (IntKind.u64.wrap (h + T) + T) := by
  have : IntKind.u64.wrap 2 = 2 := by decide
  rw [this, wu, wu, wu, wu]; omega
 have a3 : IntKind.u64.wrap (h + IntKind.u64.wrap (IntKind.u64.wrap 3 * T)) = IntKind.u64.wrap (IntKind.u64.wrap (IntKind.u64.wrap (h + T) + T) + T) := by
  have : IntKind.u64.wrap 3 = 3 := by decide
  rw [this, wu, wu, wu, wu, wu]; omega
 have w1 : wrap64 (0 + 1) = 1 := by decide +kernel
 have w2 : wrap64 (1 + 1) = 2 := by decide +kernel
 have w3 : wrap64 (2 + 1) = 3 := by decide +kernel
 have w4 : wrap64 (3 + 1) = 4 := by decide +kernel
 have hn : ¬ IntKind.u64.wrap n = 0 := by rw [hw]; omega
 refine Ev.step (fun k => by rw [qo.l3]) (Ev.pos (by omega) (Ev.pos (by omega) (Ev.neg hn (Ev.pos (by simp) ?_))))
 rw [w1]
 refine Ev.step (fun k => by rw [qo.l3]) (Ev.pos (by omega) (Ev.pos (by omega) (Ev.neg hn (Ev.pos (by simp) ?_))))
 rw [w2]
 refine Ev.step (fun k => by rw [qo.l3]) (Ev.pos (by omega) (Ev.pos (by omega) (Ev.neg hn (Ev.pos (by simp) ?_))))
 rw [w3]
 refine Ev.step (fun k => by rw [qo.l3]) (Ev.pos (by omega) (Ev.pos (by omega) (Ev.neg hn (Ev.pos (by simp) ?_))))
 rw [w4]
 refine Ev.step (fun k => by rw [qo.l3]) (Ev.neg (by omega) (Ev.val ?_))
 rw [a0, a1, a2, a3, hT]
 rfl
theorem RBits_ev (l : List UInt8) (n : Int) (h : l.length ≤ 140737488351232) (h2 : n ≤ 9223372036854775807) : Ev (fun k => qo.f k (lb l) n) (bitsOf l n) := by
 unfold qo.f bitsOf
 obtain ⟨m0, m1⟩ := mix_range l
 refine Ev.bind (RMix_ev l h) ?_
 obtain ⟨m, hm⟩ := Int.eq_ofNat_of_zero_le m0
 rw [hm]
 have hml : m < 18446744073709551616 := by omega
 have e1 : IntKind.u64.wrap (Int.tdiv (m : Int) 131072) = ((tsum m 0 : Nat) : Int) := by
  rw [Int.tdiv_eq_ediv_of_nonneg (by omega), wu_in _ (by omega) (by omega)]
  unfold tsum; simp [Nat.mod_one]
 rw [e1]
 by_cases h1 : n < 1
 ·rw [if_pos h1]
  refine rbits_l0 n m hml [] 17 0 (by omega) ?_
  refine Ev.step (fun k => by rw [qo.l3]) (Ev.pos (by omega) (Ev.neg (by omega) (Ev.now _)))
 ·rw [if_neg h1]
  refine rbits_l0 n m hml [] 17 0 (by omega) ?_
  exact rbits_l3 n (by omega) h2 (m : Int) (by omega) (by omega) _ (st_eq m hml).symm

def bitN (F : List UInt8) (p : Nat) : Bool := (F.getD (p / 8) 0).toNat.testBit (p % 8)
theorem tb_div (x i : Nat) : x.testBit i = decide (x / 2 ^ i % 2 = 1) := Nat.testBit_eq_decide_div_mod_eq
theorem u8_testBit_ge (c : UInt8) (i : Nat) (h : 8 ≤ i) : c.toNat.testBit i = false :=
 Nat.testBit_lt_two_pow (Nat.lt_of_lt_of_le (u8_lt c) (Nat.pow_le_pow_right (by decide : 0 < 2) h))
theorem u8_eq_of_bits {a b : UInt8} (h : ∀ i, i < 8 → a.toNat.testBit i = b.toNat.testBit i) : a = b := by
 apply u8_ext
 apply Nat.eq_of_testBit_eq
 intro i
 rcases Nat.lt_or_ge i 8 with h8 | h8
 ·exact h i h8
 ·rw [u8_testBit_ge a i h8, u8_testBit_ge b i h8]
theorem bits_ext {a b : List UInt8} (hl : a.length = b.length) (h : ∀ p, p < 8 * a.length → bitN a p = bitN b p) : a = b := by
 apply List.ext_getElem hl
 intro i h1 h2
 apply u8_eq_of_bits
 intro j hj
 have := h (8 * i + j) (by omega)
 unfold bitN at this
 have e1 : (8 * i + j) / 8 = i := by omega
 have e2 : (8 * i + j) % 8 = j := by omega
 rw [e1, e2, List.getD_eq_getElem?_getD, List.getD_eq_getElem?_getD, List.getElem?_eq_getElem h1, List.getElem?_eq_getElem h2] at this
 exact this

theorem bt_getD (F : List UInt8) (i : Nat) (h : i < F.length) : bt (lb F) (i : Int) = (((F.getD i 0).toNat : Nat) : Int) := by
 rw [bt_nat _ _ h, List.getD_eq_getElem?_getD, List.getElem?_eq_getElem h]; rfl
theorem u8_and1 (n : Nat) (h : n < 256) : Go.bits .and .u8 (n : Int) 1 = ((n % 2 : Nat) : Int) := by
 have : ∀ y : Fin 256, Go.bits .and .u8 (y.val : Int) 1 = ((y.val % 2 : Nat) : Int) := by decide +kernel
 exact this ⟨n, h⟩
theorem may_bit (F : List UInt8) (p : Int) (h0 : 0 ≤ p) (h1 : p < 8 * (F.length : Int)) : (qg1.bit (lb F) p != 0) = bitN F p.toNat := by
 obtain ⟨q, rfl⟩ := Int.eq_ofNat_of_zero_le h0
 unfold qg1.bit bitN
 have e1 : (q : Int) / 8 = ((q / 8 : Nat) : Int) := by omega
 have e2 : ((q : Int) % 8).toNat = q % 8 := by omega
 rw [e1, e2, bt_getD F (q / 8) (by omega), Int.toNat_natCast, tb_div]
 have hc := u8_lt (F.getD (q / 8) 0)
 have e3 : (((F.getD (q / 8) 0).toNat : Nat) : Int) / 2 ^ (q % 8) = (((F.getD (q / 8) 0).toNat / 2 ^ (q % 8) : Nat) : Int) := by simp
 have e4 : (F.getD (q / 8) 0).toNat / 2 ^ (q % 8) ≤ (F.getD (q / 8) 0).toNat := Nat.div_le_self _ _
 rw [e3, u8_and1 _ (by omega)]
 generalize (F.getD (q / 8) 0).toNat / 2 ^ (q % 8) = z
 rw [Bool.eq_iff_iff, bne_iff_ne, decide_eq_true_eq]
 omega
theorem all_congr {α : Type} {l : List α} {f g : α → Bool} (h : ∀ x ∈ l, f x = g x) : l.all f = l.all g := by
 induction l with
 | nil => rfl
 | cons a l ih => simp only [List.all_cons]; rw [h a (by simp), ih (fun x hx => h x (by simp [hx]))]
def mayS (F key : List UInt8) : Bool := (bitsOf key (8 * (F.length : Int))).all fun p => bitN F p.toNat
theorem May_ev (F key : List UInt8) (hk : key.length ≤ 140737488351232) (hF : F.length ≤ 140737488351232) : Ev (fun k => qg1.f k (lb F) (lb key)) (mayS F key) := by
 unfold qg1.f mayS
 by_cases h0 : F.length = 0
 ·refine Ev.pos (by rw [lb_size]; exact h0) (Ev.val ?_)
  have : bitsOf key (8 * (F.length : Int)) = [] := by unfold bitsOf; rw [if_pos (by omega)]
  rw [this]; rfl
 ·refine Ev.neg (by rw [lb_size]; exact h0) (Ev.pos (by rw [lb_size]; exact hF) (Ev.bind (Mix_ev key hk) (Ev.val ?_)))
  rw [lb_size]
  congr 1
  have hb := bitsOf_in key (8 * (F.length : Int)) (by omega)
  unfold bitsOf at hb ⊢
  rw [if_neg (by omega)] at hb ⊢
  exact all_congr fun p hp => may_bit F p (hb p hp).1 (hb p hp).2
def setN (F : List UInt8) (p : Nat) : List UInt8 := F.set (p / 8) (UInt8.ofNat ((F.getD (p / 8) 0).toNat ||| 2 ^ (p % 8)))
theorem setN_len (F : List UInt8) (p : Nat) : (setN F p).length = F.length := by simp [setN]
theorem bitN_setN (F : List UInt8) (p q : Nat) (hp : p < 8 * F.length) : bitN (setN F p) q = (bitN F q || decide (q = p)) := by
 unfold bitN setN
 by_cases h : q / 8 = p / 8
 ·have e : (F.set (p / 8) (UInt8.ofNat ((F.getD (p / 8) 0).toNat ||| 2 ^ (p % 8)))).getD (q / 8) 0 = UInt8.ofNat ((F.getD (p / 8) 0).toNat ||| 2 ^ (p % 8)) := by
   rw [h, List.getD_eq_getElem?_getD, List.getElem?_set_self (by omega)]; rfl
  have hc := u8_lt (F.getD (p / 8) 0)
  have h2 : 2 ^ (p % 8) < 2 ^ 8 := Nat.pow_lt_pow_right (by decide) (by omega)
  have h3 : (F.getD (p / 8) 0).toNat ||| 2 ^ (p % 8) < 2 ^ 8 := Nat.or_lt_two_pow hc h2
  rw [e, u8_ofNat_toNat _ h3, Nat.testBit_or, Nat.testBit_two_pow, h]
  congr 1
  rw [Bool.eq_iff_iff, decide_eq_true_eq, decide_eq_true_eq]
  omega
 ·have e : (F.set (p / 8) (UInt8.ofNat ((F.getD (p / 8) 0).toNat ||| 2 ^ (p % 8)))).getD (q / 8) 0 = F.getD (q / 8) 0 := by
   rw [List.getD_eq_getElem?_getD, List.getElem?_set_ne (by omega), List.getD_eq_getElem?_getD]
  rw [e]
  have : ¬ q = p := by intro e; rw [e] at h; exact h rfl
  simp [this]
theorem u8_or (a b : Nat) (ha : a < 256) (hb : b < 256) : Go.bits .or .u8 (a : Int) (b : Int) = ((a ||| b : Nat) : Int) :=
 (bits_nat .u8 8 (by decide) wraps_u8 a b (by simpa using ha) (by simpa using hb)).2
theorem put_eq (F : List UInt8) (p : Nat) (hp : p < 8 * F.length) : qR.put (toI F) (p : Int) = toI (setN F p) := by
 unfold qR.put setN
 have e1 : ((p : Int) / 8).toNat = p / 8 := by omega
 have e2 : ((p : Int) % 8).toNat = p % 8 := by omega
 have e3 : rdOf 0 (toI F) ((p : Int) / 8) = (((F.getD (p / 8) 0).toNat : Nat) : Int) := by
  unfold rdOf
  rw [e1]
  simp only [toI, List.getD_eq_getElem?_getD, List.getElem?_map]
  cases F[p / 8]? <;> rfl
 have h2 : 2 ^ (p % 8) < 2 ^ 8 := Nat.pow_lt_pow_right (by decide) (by omega)
 have e4 : (2 : Int) ^ (p % 8) % 256 = ((2 ^ (p % 8) : Nat) : Int) := by
  have : ((2 : Int) ^ (p % 8)) = ((2 ^ (p % 8) : Nat) : Int) := by simp
  rw [this]
  generalize 2 ^ (p % 8) = z at h2 ⊢
  omega
 have hc := u8_lt (F.getD (p / 8) 0)
 rw [e1, e2, e3, e4, u8_or _ _ hc (by simpa using h2)]
 have h3 : (F.getD (p / 8) 0).toNat ||| 2 ^ (p % 8) < 2 ^ 8 := Nat.or_lt_two_pow hc h2
 simp only [toI, List.map_set]
 congr 1
 rw [u8_ofNat_toNat _ h3]
theorem foldl_put : ∀ (ps : List Int) (F : List UInt8), (∀ p ∈ ps, 0 ≤ p ∧ p < 8 * (F.length : Int)) → ps.foldl qR.put (toI F) = toI (ps.foldl (fun G p => setN G p.toNat) F)
 | [], F, _ => rfl
 | p :: ps, F, h => by
  obtain ⟨h0, h1⟩ := h p (by simp)
  obtain ⟨q, rfl⟩ := Int.eq_ofNat_of_zero_le h0
  rw [List.foldl_cons, List.foldl_cons, put_eq F q (by omega), Int.toNat_natCast]
  exact foldl_put ps (setN F q) (fun x hx => by rw [setN_len]; exact h x (by simp [hx]))
theorem foldl_setN : ∀ (ps : List Int) (F : List UInt8), (∀ p ∈ ps, 0 ≤ p ∧ p < 8 * (F.length : Int)) → (ps.foldl (fun G p => setN G p.toNat) F).length = F.length ∧ ∀ q, bitN (ps.foldl (fun G p => setN G p.toNat) F) q = (bitN F q || decide ((q : Int) ∈ ps))
 | [], F, _ => ⟨rfl, fun q => by simp⟩
 | p :: ps, F, h => by
  obtain ⟨h0, h1⟩ := h p (by simp)
  obtain ⟨i1, i2⟩ := foldl_setN ps (setN F p.toNat) (fun x hx => by rw [setN_len]; exact h x (by simp [hx]))
  refine ⟨by rw [List.foldl_cons, i1, setN_len], fun q => ?_⟩
  rw [List.foldl_cons, i2, bitN_setN F p.toNat q (by omega), Bool.or_assoc]
  congr 1
  rw [Bool.eq_iff_iff, Bool.or_eq_true, decide_eq_true_eq, decide_eq_true_eq, decide_eq_true_eq, List.mem_cons]
  constructor
  ·rintro (e | e)
   ·left; omega
   ·exact .inr e
  ·rintro (e | e)
   ·left; omega
   ·exact .inr e
def places (ks : List (List UInt8)) (n : Int) : List Int := ks.flatMap fun l => bitsOf l n
theorem places_in (ks : List (List UInt8)) (n : Int) (h2 : n ≤ 9223372036854775807) : ∀ p ∈ places ks n, 0 ≤ p ∧ p < n := by
 intro p hp
 obtain ⟨l, _, hl⟩ := List.mem_flatMap.1 hp
 exact bitsOf_in l n h2 p hl
def filt (m : Nat) (ps : List Int) : List UInt8 := ps.foldl (fun G p => setN G p.toNat) (List.replicate m 0)
theorem bitN_zero (m q : Nat) : bitN (List.replicate m 0) q = false := by
 unfold bitN
 have : (List.replicate m (0 : UInt8)).getD (q / 8) 0 = 0 := by
  rw [List.getD_eq_getElem?_getD, List.getElem?_replicate]; split <;> rfl
 rw [this]; simp
theorem filt_len (m : Nat) (ps : List Int) (h : ∀ p ∈ ps, 0 ≤ p ∧ p < 8 * (m : Int)) : (filt m ps).length = m := by
 have := (foldl_setN ps (List.replicate m 0) (by simpa using h)).1
 simpa [filt] using this
theorem filt_bit (m : Nat) (ps : List Int) (h : ∀ p ∈ ps, 0 ≤ p ∧ p < 8 * (m : Int)) (q : Nat) : bitN (filt m ps) q = decide ((q : Int) ∈ ps) := by
 have := (foldl_setN ps (List.replicate m 0) (by simpa using h)).2 q
 rw [bitN_zero, Bool.false_or] at this
 exact this
theorem make_go (n : Int) (h1 : 1 ≤ n) (h2 : n ≤ 9223372036854775807) (m : Nat) (hm : n = 8 * (m : Int)) : ∀ (ks : List (List UInt8)) (F : List UInt8), F.length = m → (∀ l ∈ ks, l.length ≤ 140737488351232) →
  Ev (fun k => qR.go k n (ks.map lb) (toI F)) (toI ((places ks n).foldl (fun G p => setN G p.toNat) F)) := by
 intro ks
 induction ks with
 | nil => intro F hF hk; exact Ev.now _
 | cons l ks ih =>
  intro F hF hk
  have hb : bitsOf l n = qC.ps (mix l) n := by unfold bitsOf; rw [if_neg (by omega)]
  have hin := bitsOf_in l n h2
  refine Ev.bind (Mix_ev l (hk l (by simp))) ?_
  rw [← hb, foldl_put _ F (by rw [hF, ← hm]; exact hin)]
  refine Ev.eq (ih _ ?_ (fun x hx => hk x (by simp [hx]))) ?_
  ·rw [(foldl_setN _ F (by rw [hF, ← hm]; exact hin)).1, hF]
  ·unfold places
   rw [List.flatMap_cons, List.foldl_append]
theorem toI_rep (m : Nat) : toI (List.replicate m 0) = List.replicate m 0 := by simp [toI]
def makeS (ks : List (List UInt8)) : ByteArray × Int :=
 if ks.length > 1000 then (lb [], 4) else (lb (filt (ks.length + 1) (places ks (8 * ((ks.length : Int) + 1)))), 0)
theorem Make_ev (ks : List (List UInt8)) (hk : ks.length ≤ 1000 → ∀ l ∈ ks, l.length ≤ 140737488351232) : Ev (fun k => qR.f k (ks.map lb)) (makeS ks) := by
 unfold qR.f makeS
 by_cases h : ks.length > 1000
 ·rw [if_pos h]; exact Ev.pos (by simp; omega) (Ev.now _)
 ·rw [if_neg h]
  refine Ev.neg (by simp; omega) ?_
  rw [List.length_map, ← toI_rep]
  refine Ev.bind (make_go _ (by omega) (by omega) (ks.length + 1) (by omega) ks (List.replicate (ks.length + 1) 0) (by simp) (hk (by omega))) (Ev.val ?_)
  rw [son, ofI_toI]
  rfl

def setB (S : List Bool) (ps : List Int) : List Bool := ps.foldl (fun S p => S.set p.toNat true) S
theorem setB_len : ∀ (ps : List Int) (S : List Bool), (setB S ps).length = S.length
 | [], S => rfl
 | p :: ps, S => by rw [setB, List.foldl_cons]; exact (setB_len ps _).trans (by simp)
theorem setB_get : ∀ (ps : List Int) (S : List Bool) (q : Nat), (∀ p ∈ ps, 0 ≤ p) → q < S.length → (setB S ps).getD q false = (S.getD q false || decide ((q : Int) ∈ ps))
 | [], S, q, _, _ => by simp [setB]
 | p :: ps, S, q, h, hq => by
  have h0 := h p (by simp)
  rw [setB, List.foldl_cons]
  have := setB_get ps (S.set p.toNat true) q (fun x hx => h x (by simp [hx])) (by simpa using hq)
  rw [setB] at this
  rw [this]
  by_cases e : q = p.toNat
  ·have e1 : (S.set p.toNat true).getD q false = true := by
    rw [e, List.getD_eq_getElem?_getD, List.getElem?_set_self (by omega)]; rfl
   have e2 : (q : Int) ∈ p :: ps := by rw [List.mem_cons]; left; omega
   rw [e1, decide_eq_true e2]; simp
  ·have e1 : (S.set p.toNat true).getD q false = S.getD q false := by
    rw [List.getD_eq_getElem?_getD, List.getElem?_set_ne (by omega), List.getD_eq_getElem?_getD]
   have e2 : ((q : Int) ∈ p :: ps) ↔ (q : Int) ∈ ps := by
    rw [List.mem_cons]
    constructor
    ·rintro (h1 | h1)
     ·omega
     ·exact h1
    ·exact .inr
   rw [e1]
   simp only [e2]
theorem rmake_l1 (X : List ByteArray) (x4 : Int) (i : Int) {r : ByteArray × Int} : ∀ (rest pre : List Int) (S : List Bool), (pre ++ rest).length ≤ 4 → (∀ p ∈ rest, 0 ≤ p ∧ p < (S.length : Int)) →
  Ev (fun k => ql.l0 k X x4 (setB S rest) (wrap64 (i + 1))) r → Ev (fun k => ql.l1 k X x4 S i (pre ++ rest) (pre.length : Int)) r := by
 intro rest
 induction rest with
 | nil =>
  intro pre S hl hp hr
  refine Ev.step (fun k => by rw [ql.l1]) ?_
  exact Ev.neg (by simp) hr
 | cons p rest ih =>
  intro pre S hl hp hr
  have hl' : pre.length + (rest.length + 1) ≤ 4 := by simpa using hl
  obtain ⟨p0, p1⟩ := hp p (by simp)
  have er : rd (pre ++ p :: rest) (pre.length : Int) = p := by simp [rd]
  have e2 : wrap64 ((pre.length : Int) + 1) = ((pre.length + 1 : Nat) : Int) := by rw [w64 _ (by omega) (by omega)]; omega
  refine Ev.step (fun k => by rw [ql.l1]) ?_
  rw [er, e2]
  refine Ev.pos (by simp; omega) (Ev.pos (by omega) (Ev.pos p0 (Ev.pos p1 ?_)))
  have := ih (pre ++ [p]) (S.set p.toNat true) (by simpa using hl) (fun q hq => by simpa using hp q (by simp [hq])) hr
  simpa using this
theorem rmake_l0 (m : Nat) (hm : m ≤ 1001) {r : ByteArray × Int} : ∀ (rest pre : List (List UInt8)) (S : List Bool), S.length = 8 * m → (pre ++ rest).length ≤ 1000 → (∀ l ∈ rest, l.length ≤ 140737488351232) →
  Ev (fun k => ql.l2 k (m : Int) (setB S (places rest (8 * (m : Int)))) (List.replicate m 0) 0) r →
  Ev (fun k => ql.l0 k ((pre ++ rest).map lb) (m : Int) S (pre.length : Int)) r := by
 intro rest
 induction rest with
 | nil =>
  intro pre S hS hl hk hr
  refine Ev.step (fun k => by rw [ql.l0]) ?_
  refine Ev.neg (by simp) (Ev.pos (by omega) (Ev.pos (by omega) ?_))
  exact hr
 | cons l rest ih =>
  intro pre S hS hl hk hr
  have hl' : pre.length + (rest.length + 1) ≤ 1000 := by simpa using hl
  have er : rdOf ByteArray.empty ((pre ++ l :: rest).map lb) (pre.length : Int) = lb l := by simp [rdOf]
  have e1 : wrap64 (8 * (m : Int)) = 8 * (m : Int) := w64 _ (by omega) (by omega)
  refine Ev.step (fun k => by rw [ql.l0]) ?_
  rw [er, e1]
  refine Ev.pos (by simp; omega) (Ev.pos (by omega) (Ev.bind (RBits_ev l _ (hk l (by simp)) (by omega)) ?_))
  refine rmake_l1 _ _ _ (bitsOf l (8 * (m : Int))) [] S (by have := bitsOf_less l (8 * (m : Int)); simpa using this) (by rw [hS]; intro p hp; have := bitsOf_in l (8 * (m : Int)) (by omega) p hp; omega) ?_
  have e2 : wrap64 ((pre.length : Int) + 1) = ((pre.length + 1 : Nat) : Int) := by rw [w64 _ (by omega) (by omega)]; omega
  rw [e2]
  have := ih (pre ++ [l]) (setB S (bitsOf l (8 * (m : Int)))) (by rw [setB_len]; exact hS) (by simpa using hl) (fun x hx => hk x (by simp [hx])) (by
   have e3 : setB (setB S (bitsOf l (8 * (m : Int)))) (places rest (8 * (m : Int))) = setB S (places (l :: rest) (8 * (m : Int))) := by
    unfold setB places
    rw [List.flatMap_cons, List.foldl_append]
   rw [e3]; exact hr)
  simpa using this
def bv (S : List Bool) (i : Nat) : Nat → Nat
 | 0 => 0
 | c + 1 => 2 * bv S i c + (if S.getD (8 * i + 7 - c) false = true then 1 else 0)
theorem bv_lt (S : List Bool) (i : Nat) : ∀ c, bv S i c < 2 ^ c
 | 0 => by simp [bv]
 | c + 1 => by
  have := bv_lt S i c
  rw [bv, Nat.pow_succ]
  split <;> omega
theorem bv_bit (S : List Bool) (i : Nat) : ∀ c t, c ≤ 8 → t < c → (bv S i c).testBit t = S.getD (8 * i + 8 - c + t) false
 | 0, t, _, h => by omega
 | c + 1, t, hc, h => by
  rw [tb_div, bv]
  cases t with
  | zero =>
   have e : 8 * i + 8 - (c + 1) + 0 = 8 * i + 7 - c := by omega
   rw [e]
   cases S.getD (8 * i + 7 - c) false <;> simp <;> omega
  | succ t =>
   have e : 8 * i + 8 - (c + 1) + (t + 1) = 8 * i + 8 - c + t := by omega
   rw [e, ← bv_bit S i c t (by omega) (by omega), tb_div]
   have e2 : (2 * bv S i c + (if S.getD (8 * i + 7 - c) false = true then 1 else 0)) / 2 ^ (t + 1) = bv S i c / 2 ^ t := by
    rw [Nat.pow_succ, Nat.mul_comm (2 ^ t), ← Nat.div_div_eq_div_mul]
    congr 1
    split <;> omega
   rw [e2]
theorem rmake_l3 (m : Nat) (hm : m ≤ 1001) (S : List Bool) (hS : S.length = 8 * m) (i : Nat) (hi : i < m) {r : ByteArray × Int} : ∀ (d c : Nat) (X : List Int), c + d = 8 → X.length = m → rd X (i : Int) = ((bv S i c : Nat) : Int) →
  Ev (fun k => ql.l2 k (m : Int) S (X.set i ((bv S i 8 : Nat) : Int)) (wrap64 ((i : Int) + 1))) r →
  Ev (fun k => ql.l3 k (m : Int) S X (i : Int) (7 - (c : Int))) r := by
 intro d
 induction d with
 | zero =>
  intro c X hc hX hrd hr
  have hc : c = 8 := by omega
  subst hc
  refine Ev.step (fun k => by rw [ql.l3]) ?_
  refine Ev.neg (by omega) ?_
  have e : X.set i ((bv S i 8 : Nat) : Int) = X := by
   rw [← hrd]
   apply List.ext_getElem? 
   intro j
   by_cases hj : i = j
   ·subst hj
    rw [List.getElem?_set_self (by omega)]
    unfold rd
    rw [Int.toNat_natCast, List.getD_eq_getElem?_getD, List.getElem?_eq_getElem (by omega)]; rfl
   ·rw [List.getElem?_set_ne hj]
  rw [e] at hr
  exact hr
 | succ d ih =>
  intro c X hc hX hrd hr
  have hlt := bv_lt S i c
  have hp : 2 ^ c ≤ 2 ^ 7 := Nat.pow_le_pow_right (by decide) (by omega)
  have e1 : ((bv S i c : Nat) : Int) * 2 % 256 = ((2 * bv S i c : Nat) : Int) := by omega
  have e2 : wrap64 (8 * (i : Int)) = 8 * (i : Int) := w64 _ (by omega) (by omega)
  have e3 : wrap64 (8 * (i : Int) + (7 - (c : Int))) = ((8 * i + 7 - c : Nat) : Int) := by rw [w64 _ (by omega) (by omega)]; omega
  have e4 : wrap64 (7 - (c : Int) - 1) = 7 - ((c + 1 : Nat) : Int) := by rw [w64 _ (by omega) (by omega)]; omega
  have er : rdOf false S ((8 * i + 7 - c : Nat) : Int) = S.getD (8 * i + 7 - c) false := by unfold rdOf; rw [Int.toNat_natCast]
  refine Ev.step (fun k => by rw [ql.l3]) ?_
  rw [hrd, e1, e2, e3, e4, er, Int.toNat_natCast]
  refine Ev.pos (by omega) (Ev.pos (by omega) (Ev.pos (by omega) (Ev.just rfl ?_)))
  refine Ev.pos (by omega) (Ev.pos (by omega) ?_)
  have er2 : rd (X.set i ((2 * bv S i c : Nat) : Int)) (i : Int) = ((2 * bv S i c : Nat) : Int) := by
   unfold rd
   rw [Int.toNat_natCast, List.getD_eq_getElem?_getD, List.getElem?_set_self (by omega)]; rfl
  have hset : ∀ (Y : List Int) (a b : Int), (Y.set i a).set i b = Y.set i b := fun Y a b => by rw [List.set_set]
  by_cases hb : S.getD (8 * i + 7 - c) false = true
  ·refine Ev.pos hb ?_
   have e5 : (((2 * bv S i c : Nat) : Int) + 1) % 256 = ((bv S i (c + 1) : Nat) : Int) := by
    rw [bv, if_pos hb]; omega
   rw [er2, e5, hset]
   refine ih (c + 1) _ (by omega) (by simpa using hX) ?_ (by rw [hset]; exact hr)
   unfold rd
   rw [Int.toNat_natCast, List.getD_eq_getElem?_getD, List.getElem?_set_self (by omega)]; rfl
  ·refine Ev.neg hb ?_
   have e5 : ((2 * bv S i c : Nat) : Int) = ((bv S i (c + 1) : Nat) : Int) := by
    rw [bv, if_neg hb, Nat.add_zero]
   rw [e5]
   refine ih (c + 1) _ (by omega) (by simpa using hX) ?_ (by rw [hset]; exact hr)
   unfold rd
   rw [Int.toNat_natCast, List.getD_eq_getElem?_getD, List.getElem?_set_self (by omega)]; rfl
def bytesB (S : List Bool) (m : Nat) : List UInt8 := (List.range m).map fun i => UInt8.ofNat (bv S i 8)
theorem rmake_l2 (m : Nat) (hm : m ≤ 1001) (S : List Bool) (hS : S.length = 8 * m) : ∀ (d i : Nat), i + d = m →
  Ev (fun k => ql.l2 k (m : Int) S ((List.range i).map (fun j => ((bv S j 8 : Nat) : Int)) ++ List.replicate d 0) (i : Int)) (lb (bytesB S m), 0) := by
 intro d
 induction d with
 | zero =>
  intro i hi
  have hi : i = m := by omega
  subst hi
  refine Ev.step (fun k => by rw [ql.l2]) ?_
  refine Ev.neg (by omega) (Ev.val ?_)
  rw [son]
  unfold bytesB ofI
  simp [Function.comp_def]
 | succ d ih =>
  intro i hi
  refine Ev.step (fun k => by rw [ql.l2]) ?_
  refine Ev.pos (by omega) ?_
  refine rmake_l3 m hm S hS i (by omega) 8 0 _ (by omega) (by simp; omega) ?_ ?_
  ·unfold rd
   rw [Int.toNat_natCast, List.getD_eq_getElem?_getD, List.getElem?_append_right (by simp)]
   simp [bv, List.replicate_succ]
  ·have e1 : wrap64 ((i : Int) + 1) = ((i + 1 : Nat) : Int) := by rw [w64 _ (by omega) (by omega)]; omega
   rw [e1]
   have e2 : ((List.range i).map (fun j => ((bv S j 8 : Nat) : Int)) ++ List.replicate (d + 1) 0).set i ((bv S i 8 : Nat) : Int) = (List.range (i + 1)).map (fun j => ((bv S j 8 : Nat) : Int)) ++ List.replicate d 0 := by
    rw [List.set_append_right _ _ (by simp), List.range_succ]
    simp [List.replicate_succ]
   rw [e2]
   exact ih (i + 1) (by omega)
theorem bytesB_bit (S : List Bool) (m : Nat) (hS : S.length = 8 * m) (q : Nat) (hq : q < 8 * m) : bitN (bytesB S m) q = S.getD q false := by
 unfold bitN bytesB
 have e : ((List.range m).map fun i => UInt8.ofNat (bv S i 8)).getD (q / 8) 0 = UInt8.ofNat (bv S (q / 8) 8) := by
  rw [List.getD_eq_getElem?_getD, List.getElem?_map, List.getElem?_range (by omega)]; rfl
 have hlt := bv_lt S (q / 8) 8
 rw [e, u8_ofNat_toNat _ hlt, bv_bit S (q / 8) 8 (q % 8) (by omega) (by omega)]
 congr 1; omega
theorem RMake_ev (ks : List (List UInt8)) (hk : ks.length ≤ 1000 → ∀ l ∈ ks, l.length ≤ 140737488351232) : Ev (fun k => ql.f k (ks.map lb)) (makeS ks) := by
 unfold ql.f makeS
 by_cases h : ks.length > 1000
 ·rw [if_pos h]; exact Ev.pos (by simp; omega) (Ev.now _)
 ·rw [if_neg h]
  refine Ev.neg (by simp; omega) ?_
  rw [List.length_map]
  have e1 : wrap64 ((ks.length : Int) + 1) = ((ks.length + 1 : Nat) : Int) := by rw [w64 _ (by omega) (by omega)]; omega
  have e2 : wrap64 (8 * ((ks.length + 1 : Nat) : Int)) = ((8 * (ks.length + 1) : Nat) : Int) := by rw [w64 _ (by omega) (by omega)]; omega
  rw [e1, e2, Int.toNat_natCast]
  refine Ev.pos (by omega) (Ev.pos (by omega) ?_)
  have hl0 : (List.replicate (8 * (ks.length + 1)) false).length = 8 * (ks.length + 1) := by simp
  refine rmake_l0 (ks.length + 1) (by omega) ks [] _ hl0 (by simpa using (by omega : ks.length ≤ 1000)) (hk (by omega)) ?_
  have hS : (setB (List.replicate (8 * (ks.length + 1)) false) (places ks (8 * ((ks.length + 1 : Nat) : Int)))).length = 8 * (ks.length + 1) := by rw [setB_len]; simp
  refine Ev.eq (rmake_l2 (ks.length + 1) (by omega) _ hS (ks.length + 1) 0 (by omega)) ?_
  congr 2
  have hpl := places_in ks (8 * ((ks.length + 1 : Nat) : Int)) (by omega)
  have en : (8 * ((ks.length : Int) + 1)) = 8 * ((ks.length + 1 : Nat) : Int) := by omega
  rw [en]
  apply bits_ext
  ·rw [filt_len _ _ hpl]; simp [bytesB]
  ·intro q hq
   have hq' : q < 8 * (ks.length + 1) := by simpa [bytesB] using hq
   rw [bytesB_bit _ _ hS q hq', filt_bit _ _ hpl, setB_get _ _ q (fun p hp => (hpl p hp).1) (by simpa using hq')]
   have : (List.replicate (8 * (ks.length + 1)) false).getD q false = false := by
    rw [List.getD_eq_getElem?_getD, List.getElem?_replicate]; split <;> rfl
   rw [this, Bool.false_or]

theorem may_of_mem (ks : List (List UInt8)) (hl : ks.length ≤ 1000) (l : List UInt8) (h : l ∈ ks) : mayS (filt (ks.length + 1) (places ks (8 * ((ks.length : Int) + 1)))) l = true := by
 have en : (8 * ((ks.length : Int) + 1)) = 8 * ((ks.length + 1 : Nat) : Int) := by omega
 rw [en]
 have hpl := places_in ks (8 * ((ks.length + 1 : Nat) : Int)) (by omega)
 unfold mayS
 rw [filt_len _ _ hpl, List.all_eq_true]
 intro p hp
 have hr := bitsOf_in l (8 * ((ks.length + 1 : Nat) : Int)) (by omega) p hp
 rw [filt_bit _ _ hpl, decide_eq_true_eq]
 have : ((p.toNat : Nat) : Int) = p := by omega
 rw [this]
 exact List.mem_flatMap.2 ⟨l, h, hp⟩

theorem set_l0 (q : Nat) : ∀ (d b j : Nat), j + d = q % 8 → b < 256 → Ev (fun k => qL.l0 k (q : Int) (b : Int) (j : Int)) (decide (b / 2 ^ d % 2 = 1)) := by
 intro d
 induction d with
 | zero =>
  intro b j hj hb
  refine Ev.step (fun k => by rw [qL.l0]) (Ev.neg ?_ (Ev.val ?_))
  ·rw [Int.tmod_eq_emod_of_nonneg (by omega)]; omega
  ·rw [Int.tmod_eq_emod_of_nonneg (by omega)]
   congr 1
   rw [Bool.eq_iff_iff, beq_iff_eq, decide_eq_true_eq]; simp; omega
 | succ d ih =>
  intro b j hj hb
  refine Ev.step (fun k => by rw [qL.l0]) (Ev.pos ?_ ?_)
  ·rw [Int.tmod_eq_emod_of_nonneg (by omega)]; omega
  ·have e1 : wrap64 (Int.tdiv (b : Int) 2) = ((b / 2 : Nat) : Int) := by
    rw [Int.tdiv_eq_ediv_of_nonneg (by omega), w64 _ (by omega) (by omega)]; omega
   have e2 : wrap64 ((j : Int) + 1) = ((j + 1 : Nat) : Int) := by rw [w64 _ (by omega) (by omega)]; omega
   rw [e1, e2]
   refine Ev.eq (ih (b / 2) (j + 1) (by omega) (by omega)) ?_
   rw [Nat.div_div_eq_div_mul, Nat.pow_succ, Nat.mul_comm]
theorem Set_ev (F : List UInt8) (p : Int) (h0 : 0 ≤ p) (h1 : p < 8 * (F.length : Int)) (h2 : p < 9223372036854775808) : Ev (fun k => qL.f k (lb F) p) (bitN F p.toNat) := by
 obtain ⟨q, rfl⟩ := Int.eq_ofNat_of_zero_le h0
 unfold qL.f
 have e1 : wrap64 (Int.tdiv (q : Int) 8) = ((q / 8 : Nat) : Int) := by
  rw [Int.tdiv_eq_ediv_of_nonneg (by omega), w64 _ (by omega) (by omega)]; omega
 rw [e1]
 refine Ev.pos (by omega) (Ev.pos (by rw [lb_size]; omega) ?_)
 have hc := u8_lt (F.getD (q / 8) 0)
 rw [bt_getD F (q / 8) (by omega), w64 _ (by omega) (by omega)]
 refine Ev.eq (set_l0 q (q % 8) _ 0 (by omega) hc) ?_
 unfold bitN
 rw [Int.toNat_natCast, tb_div]
theorem rmay_l0 (F : List UInt8) (hF : F.length ≤ 140737488351232) : ∀ (rest pre : List Int), pre.length + rest.length ≤ 4 → (∀ p ∈ rest, 0 ≤ p ∧ p < 8 * (F.length : Int)) →
  Ev (fun k => qS.l0 k (lb F) (pre ++ rest) (pre.length : Int)) (rest.all fun p => bitN F p.toNat) := by
 intro rest
 induction rest with
 | nil =>
  intro pre h hp
  refine Ev.step (fun k => by rw [qS.l0]) ?_
  exact Ev.neg (by simp) (Ev.now _)
 | cons p rest ih =>
  intro pre h hp
  have h' : pre.length + (rest.length + 1) ≤ 4 := by simpa using h
  refine Ev.step (fun k => by rw [qS.l0]) (Ev.pos (by simp; omega) (Ev.pos (by omega) ?_))
  have er : rd (pre ++ p :: rest) (pre.length : Int) = p := by simp [rd]
  obtain ⟨p0, p1⟩ := hp p (by simp)
  rw [er]
  refine Ev.bind (Set_ev F p p0 p1 (by omega)) ?_
  cases hb : bitN F p.toNat with
  | true =>
   refine Ev.pos rfl ?_
   have e2 : wrap64 ((pre.length : Int) + 1) = ((pre.length + 1 : Nat) : Int) := by rw [w64 _ (by omega) (by omega)]; omega
   rw [e2]
   have := ih (pre ++ [p]) (by simp; omega) (fun q hq => hp q (by simp [hq]))
   simpa [hb] using this
  | false => exact Ev.neg (by simp) (Ev.val (by simp [hb]))
theorem RMay_ev (F key : List UInt8) (hk : key.length ≤ 140737488351232) (hF : F.length ≤ 140737488351232) : Ev (fun k => qS.f k (lb F) (lb key)) (mayS F key) := by
 unfold qS.f mayS
 have e1 : wrap64 (8 * (((lb F).size : Nat) : Int)) = 8 * (F.length : Int) := by rw [lb_size]; exact w64 _ (by omega) (by omega)
 rw [e1]
 refine Ev.bind (RBits_ev key _ hk (by omega)) ?_
 exact rmay_l0 F hF (bitsOf key (8 * (F.length : Int))) [] (by have := bitsOf_less key (8 * (F.length : Int)); simpa using this) (bitsOf_in key _ (by omega))

end Go.Proofs.Ytgdkikkjaofbfaa.BloomS
namespace Go.Proofs.Ytgdkikkjaofbfaa.BlkS
open Go.RowKit Go.Proofs.Ytgdkikkjaofbfaa.P Go.Proofs.Ytgdkikkjaofbfaa.Th Go.Proofs.Ytgdkikkjaofbfaa.NumS Go.Proofs.YtgdkikkjaofbfaaW.PrintWords Go.Proofs.YtgdkikkjaofbfaaW.PrintLast Go.Proofs.YtgdkikkjaofbfaaW.PrintMore

abbrev ES := S37
theorem size_bl (s : ByteArray) : s.size = (bl s).length := by rw [← lb_size, lb_bl]
theorem toL_bl (s : ByteArray) : s.toList = bl s := by
 have := lb_toList (bl s)
 rwa [lb_bl] at this
theorem rdE {l : List ES} {i : Nat} (h : i < l.length) : rd_T37 l (i : Int) = l[i] := by simp [rd_T37, h]

def comm : List UInt8 → List UInt8 → Nat
 | a :: l, b :: m => if a = b then comm l m + 1 else 0
 | _, _ => 0
theorem comm_nil (b : List UInt8) : comm [] b = 0 := by cases b <;> rfl
theorem comm_nil' (a : List UInt8) : comm a [] = 0 := by cases a <;> rfl
theorem comm_cons (a b : UInt8) (l m : List UInt8) : comm (a :: l) (b :: m) = if a = b then comm l m + 1 else 0 := rfl
theorem comm_le : ∀ (a b : List UInt8), comm a b ≤ a.length ∧ comm a b ≤ b.length := by
 intro a
 induction a with
 | nil => intro b; rw [comm_nil]; simp
 | cons x a ih =>
  intro b
  cases b with
  | nil => rw [comm_nil']; simp
  | cons y b =>
   rw [comm_cons]
   have := ih b
   split <;> simp <;> omega
theorem comm_take : ∀ (a b : List UInt8), a.take (comm a b) = b.take (comm a b) := by
 intro a
 induction a with
 | nil => intro b; rw [comm_nil]; simp
 | cons x a ih =>
  intro b
  cases b with
  | nil => rw [comm_nil']; simp
  | cons y b =>
   rw [comm_cons]
   by_cases h : x = y
   ·rw [if_pos h, h, List.take_succ_cons, List.take_succ_cons, ih b]
   ·rw [if_neg h]; simp
theorem shared_l0 (a b : List UInt8) (m : Nat) (hm : m = min a.length b.length) (ha : a.length ≤ 1000000000) : ∀ (n i : Nat), i + n = m → Ev (fun k => qY.l0 k (lb a) (lb b) (m : Int) (m : Int) (i : Int)) ((i + comm (a.drop i) (b.drop i) : Nat) : Int) := by
 intro n
 induction n with
 | zero =>
  intro i hi
  refine Ev.step (fun k => by rw [qY.l0]) ?_
  refine Ev.neg (by omega) (Ev.val ?_)
  have : comm (a.drop i) (b.drop i) = 0 := by
   rcases Nat.le_total a.length b.length with h | h
   ·rw [List.drop_eq_nil_of_le (show a.length ≤ i by omega), comm_nil]
   ·rw [List.drop_eq_nil_of_le (show b.length ≤ i by omega), comm_nil']
  rw [this]; congr 1; omega
 | succ n ih =>
  intro i hi
  have h1 : i < a.length := by omega
  have h2 : i < b.length := by omega
  refine Ev.step (fun k => by rw [qY.l0]) ?_
  refine Ev.pos (by omega) (Ev.pos (by omega) (Ev.pos (by rw [lb_size]; omega) (Ev.pos (by rw [lb_size]; omega) ?_)))
  rw [bt_nat a i h1, bt_nat b i h2, List.drop_eq_getElem_cons h1, List.drop_eq_getElem_cons h2, comm_cons]
  by_cases h : a[i] = b[i]
  ·rw [if_pos h]
   refine Ev.pos (by rw [h]) ?_
   rw [w64 _ (by omega) (by omega)]
   refine Ev.eq (ih (i + 1) (by omega)) ?_
   congr 1; omega
  ·rw [if_neg h]
   exact Ev.neg (fun e => h (u8_ext (by omega))) (Ev.val rfl)
theorem Shared_ev (a b : List UInt8) (ha : a.length ≤ 1000000000) : Ev (fun k => qY.f k (lb a) (lb b)) ((comm a b : Nat) : Int) := by
 have := shared_l0 a b _ rfl ha (min a.length b.length) 0 (by omega)
 simp only [qY.f, lb_size, mn_nat]
 refine Ev.eq this ?_
 simp

def okE (x : ES) : Bool := decide (1 ≤ (bl x.f0).length ∧ (bl x.f0).length ≤ 100 ∧ (bl x.f3).length ≤ 100 ∧ (x.f2 = true → bl x.f3 = []) ∧ 1 ≤ x.f1 ∧ x.f1 ≤ 1099511627776)
theorem may_f (x : ES) : block_may.f x.f0 x.f1 x.f2 x.f3 = some (okE x) := by
 unfold block_may.f okE
 rw [toL_bl, toL_bl, size_bl, size_bl]
 by_cases h : bl x.f0 = []
 ·rw [if_pos h, h]; simp
 ·rw [if_neg h]
  have h0 : 1 ≤ (bl x.f0).length := List.length_pos_iff.2 h
  by_cases h1 : ((bl x.f0).length : Int) ≤ 100
  ·rw [if_pos h1]
   by_cases h2 : ((bl x.f3).length : Int) ≤ 100
   ·rw [if_pos h2]
    cases hd : x.f2
    ·rw [if_neg (by simp)]
     by_cases h3 : x.f1 > 0
     ·rw [if_pos h3]
      congr 1; rw [Bool.eq_iff_iff]; simp only [decide_eq_true_eq]
      exact ⟨fun h4 => ⟨h0, by omega, by omega, by simp, by omega, h4⟩, fun h4 => h4.2.2.2.2.2⟩
     ·rw [if_neg h3]
      congr 1; symm; rw [decide_eq_false_iff_not]; intro h4; omega
    ·rw [if_pos rfl]
     by_cases h5 : bl x.f3 = []
     ·rw [if_pos h5]
      by_cases h3 : x.f1 > 0
      ·rw [if_pos h3]
       congr 1; rw [Bool.eq_iff_iff]; simp only [decide_eq_true_eq]
       exact ⟨fun h4 => ⟨h0, by omega, by omega, fun _ => h5, by omega, h4⟩, fun h4 => h4.2.2.2.2.2⟩
      ·rw [if_neg h3]
       congr 1; symm; rw [decide_eq_false_iff_not]; intro h4; omega
     ·rw [if_neg h5]
      congr 1; symm; rw [decide_eq_false_iff_not]; intro h4; exact h5 (h4.2.2.2.1 rfl)
   ·rw [if_neg h2]
    congr 1; symm; rw [decide_eq_false_iff_not]; intro h3; omega
  ·rw [if_neg h1]
   congr 1; symm; rw [decide_eq_false_iff_not]; intro h3; omega
theorem idx_f : ∀ (l : List ES) (i : Nat), ∃ r, qe1.idx l (i : Int) = some r ∧ decide (r ≥ 0) = !(l.all okE) := by
 intro l
 induction l with
 | nil => intro i; exact ⟨-1, rfl, by simp⟩
 | cons x l ih =>
  intro i
  rw [qe1.idx]
  unfold qt1.f
  rw [may_f]
  simp only [Option.bind_some]
  cases h : okE x
  ·exact ⟨(i : Int), by simp, by simp [h]⟩
  ·obtain ⟨r, h1, h2⟩ := ih (i + 1)
   refine ⟨r, ?_, ?_⟩
   ·simpa using h1
   ·rw [h2]; simp [h]
def ltE (x y : ES) : Bool := Op.bytesLess (bl x.f0) (bl y.f0) || (decide (bl x.f0 = bl y.f0) && decide (x.f1 > y.f1))
def sorted : List ES → Bool
 | x :: y :: l => ltE x y && sorted (y :: l)
 | _ => true
theorem cmp_ev (x y : ES) : ∃ r : Int, Ev (fun k => qI.f k x.f0 x.f1 x.f2 x.f3 y.f0 y.f1 y.f2 y.f3) r ∧ decide (r ≥ 0) = !(ltE x y) := by
 have j0 : ∀ b, ∃ r : Int, Ev (fun k => qI.j0 k b x.f0 x.f1 x.f2 x.f3 y.f0 y.f1 y.f2 y.f3) r ∧ decide (r ≥ 0) = !b := by
  intro b
  cases b
  ·by_cases h : x.f0.toList = y.f0.toList
   ·by_cases h2 : x.f1 = y.f1
    ·refine ⟨0, Ev.step (fun k => by rw [qI.j0]) ?_, rfl⟩
     exact Ev.neg (by simp) (Ev.pos h (Ev.pos h2 (Ev.val rfl)))
    ·refine ⟨1, Ev.step (fun k => by rw [qI.j0]) ?_, rfl⟩
     exact Ev.neg (by simp) (Ev.pos h (Ev.neg h2 (Ev.val rfl)))
   ·refine ⟨1, Ev.step (fun k => by rw [qI.j0]) ?_, rfl⟩
    exact Ev.neg (by simp) (Ev.neg h (Ev.val rfl))
  ·refine ⟨-1, Ev.step (fun k => by rw [qI.j0]) ?_, rfl⟩
   exact Ev.pos rfl (Ev.val rfl)
 unfold qI.f ltE
 by_cases h : Op.bytesLess x.f0.toList y.f0.toList = true
 ·obtain ⟨r, h1, h2⟩ := j0 true
  refine ⟨r, Ev.pos h h1, ?_⟩
  rw [toL_bl, toL_bl] at h
  rw [h2, h]; rfl
 ·have h' : Op.bytesLess (bl x.f0) (bl y.f0) = false := by rw [toL_bl, toL_bl] at h; simpa using h
  by_cases h3 : x.f0.toList = y.f0.toList
  ·obtain ⟨r, h1, h2⟩ := j0 (decide (x.f1 > y.f1))
   refine ⟨r, Ev.neg h (Ev.pos h3 h1), ?_⟩
   rw [toL_bl, toL_bl] at h3
   rw [h2, h', decide_eq_true h3]; simp
  ·obtain ⟨r, h1, h2⟩ := j0 false
   refine ⟨r, Ev.neg h (Ev.neg h3 h1), ?_⟩
   rw [toL_bl, toL_bl] at h3
   rw [h2, h', decide_eq_false h3]; rfl
theorem sorted_drop (l : List ES) (i : Nat) (h : i + 1 < l.length) : sorted (l.drop i) = (ltE (l[i]'(by omega)) l[i + 1] && sorted (l.drop (i + 1))) := by
 rw [List.drop_eq_getElem_cons (show i < l.length by omega), List.drop_eq_getElem_cons h]; rfl
theorem row_l0 (l : List ES) (hl : l.length ≤ 1000000) : ∀ (n i : Nat), 1 ≤ i → i + n = max 1 l.length → Ev (fun k => qO.l0 k l (i : Int)) (sorted (l.drop (i - 1))) := by
 intro n
 induction n with
 | zero =>
  intro i h1 hi
  refine Ev.step (fun k => by rw [qO.l0]) ?_
  refine Ev.neg (by omega) (Ev.val ?_)
  congr 1; symm
  have : (l.drop (i - 1)).length ≤ 1 := by rw [List.length_drop]; omega
  match h : l.drop (i - 1) with
  | [] => rfl
  | [x] => rfl
  | x :: y :: r => rw [h] at this; simp at this
 | succ n ih =>
  intro i h1 hi
  have h2 : i < l.length := by omega
  obtain ⟨i, rfl⟩ : ∃ j, i = j + 1 := ⟨i - 1, by omega⟩
  refine Ev.step (fun k => by rw [qO.l0]) ?_
  have e : wrap64 (((i + 1 : Nat) : Int) - 1) = (i : Int) := by rw [w64 _ (by omega) (by omega)]; omega
  rw [e]
  refine Ev.pos (by omega) (Ev.pos (by omega) (Ev.pos (by omega) (Ev.pos (by omega) ?_)))
  rw [rdE (show i < l.length by omega), rdE h2]
  obtain ⟨r, hr, hd⟩ := cmp_ev l[i] l[i + 1]
  refine Ev.bind hr ?_
  rw [Nat.add_sub_cancel, sorted_drop l i h2]
  by_cases h3 : r ≥ 0
  ·rw [decide_eq_true h3] at hd
   refine Ev.pos h3 (Ev.val ?_)
   have : ltE l[i] l[i + 1] = false := by cases hh : ltE l[i] l[i + 1] <;> simp [hh] at hd ⊢
   rw [this]; rfl
  ·rw [decide_eq_false h3] at hd
   have : ltE l[i] l[i + 1] = true := by cases hh : ltE l[i] l[i + 1] <;> simp [hh] at hd ⊢
   refine Ev.neg h3 ?_
   rw [this, Bool.true_and, w64 _ (by omega) (by omega)]
   have := ih (i + 1 + 1) (by omega) (by omega)
   simpa using this
theorem Row_ev (l : List ES) (hl : l.length ≤ 1000000) : Ev (fun k => qO.f k l) (sorted l) := by
 have := row_l0 l hl (max 1 l.length - 1) 1 (by omega) (by omega)
 simpa [qO.f] using this
def rowB (l : List ES) : Bool := decide (1 ≤ l.length ∧ l.length ≤ 32) && (sorted l && l.all okE)
theorem row_ev (l : List ES) (hl : l.length ≤ 1000000) : Ev (fun k => qo1.f k l) (rowB l) := by
 unfold qo1.f rowB
 by_cases h1 : (l.length : Int) > 0
 ·refine Ev.pos h1 ?_
  by_cases h2 : (l.length : Int) ≤ 32
  ·refine Ev.pos h2 (Ev.bind (Row_ev l hl) ?_)
   rw [decide_eq_true (show 1 ≤ l.length ∧ l.length ≤ 32 from ⟨by omega, by omega⟩)]
   cases hs : sorted l
   ·exact Ev.neg (by simp) (Ev.val rfl)
   ·refine Ev.pos rfl (Ev.val ?_)
    unfold qe1.f
    rw [if_pos (by omega)]
    obtain ⟨r, h3, h4⟩ := idx_f l 0
    have h3' : qe1.idx l 0 = some r := h3
    rw [h3']
    simp only [Option.bind_some, h4]
    simp
  ·rw [decide_eq_false (show ¬ (1 ≤ l.length ∧ l.length ≤ 32) from fun h => by omega)]
   exact Ev.neg h2 (Ev.val rfl)
 ·rw [decide_eq_false (show ¬ (1 ≤ l.length ∧ l.length ≤ 32) from fun h => by omega)]
  exact Ev.neg h1 (Ev.val rfl)
theorem rowB_len {l : List ES} (h : rowB l = true) : 1 ≤ l.length ∧ l.length ≤ 32 := by
 unfold rowB at h; rw [Bool.and_eq_true] at h; exact of_decide_eq_true h.1
theorem rowB_sorted {l : List ES} (h : rowB l = true) : sorted l = true := by
 unfold rowB at h; rw [Bool.and_eq_true, Bool.and_eq_true] at h; exact h.2.1
theorem rowB_all {l : List ES} (h : rowB l = true) : ∀ x ∈ l, okE x = true := by
 unfold rowB at h; rw [Bool.and_eq_true, Bool.and_eq_true] at h; exact List.all_eq_true.1 h.2.2

def u64 (n : Int) : Prop := 0 ≤ n ∧ n < 18446744073709551616
def sh (n : Int) : List UInt8 := short n.toNat
theorem Sh_ev {n : Int} (h : u64 n) : Ev (fun k => qP.f k n) (lb (sh n)) := by
 obtain ⟨m, rfl⟩ := Int.eq_ofNat_of_zero_le h.1
 exact Short_ev m (by have := h.2; omega)
theorem sh_len {n : Int} (h : u64 n) : (sh n).length ≤ 10 := short_len10 _ (by have := h.1; have := h.2; omega)
theorem okE_iff {x : ES} (h : okE x = true) : 1 ≤ (bl x.f0).length ∧ (bl x.f0).length ≤ 100 ∧ (bl x.f3).length ≤ 100 ∧ (x.f2 = true → bl x.f3 = []) ∧ 1 ≤ x.f1 ∧ x.f1 ≤ 1099511627776 := of_decide_eq_true h
theorem okE_u {x : ES} (h : okE x = true) : u64 x.f1 := by have := okE_iff h; exact ⟨by omega, by omega⟩

def entB (n : Nat) (x : ES) : List UInt8 := short n ++ (short ((bl x.f0).length - n) ++ ((bl x.f0).drop n ++ (sh x.f1 ++ ((if x.f2 = true then (1 : UInt8) else 0) :: (short (bl x.f3).length ++ bl x.f3)))))
def shB (i : Nat) (p : List UInt8) (x : ES) : Nat := if i % 4 = 0 then 0 else comm p (bl x.f0)
def bodyB : Nat → List UInt8 → List ES → List UInt8
 | _, _, [] => []
 | i, p, x :: l => entB (shB i p x) x ++ bodyB (i + 1) (bl x.f0) l
def startsB : Nat → Nat → List UInt8 → List ES → List Nat
 | _, _, _, [] => []
 | i, j, p, x :: l => (if i % 4 = 0 then [j] else []) ++ startsB (i + 1) (j + (entB (shB i p x) x).length) (bl x.f0) l
def encB (l : List ES) : List UInt8 := bodyB 0 [] l ++ (startsB 0 0 [] l).flatMap long ++ long l.length
def encr (l : List ES) : ByteArray × Int := if rowB l = true then (lb (encB l), 0) else (lb [], 2)
theorem shB_le (i : Nat) (p : List UInt8) (x : ES) : shB i p x ≤ (bl x.f0).length := by
 unfold shB; split
 ·omega
 ·exact (comm_le _ _).2
theorem entB_len {n : Nat} {x : ES} (h : okE x = true) (hn : n ≤ (bl x.f0).length) : (entB n x).length ≤ 300 := by
 have h1 := okE_iff h
 have h2 := short_len10 n (by omega)
 have h3 := short_len10 ((bl x.f0).length - n) (by omega)
 have h4 := sh_len (okE_u h)
 have h5 := short_len10 (bl x.f3).length (by omega)
 unfold entB
 simp only [List.length_append, List.length_drop, List.length_cons]
 omega
theorem wr_some (acc : List UInt8) (s : List UInt8) (h1 : acc.length ≤ 1000000) (h2 : s.length ≤ 1000000) : qi.wr acc (lb s) = some (acc ++ s) := by
 unfold qi.wr
 rw [if_pos (by rw [lb_size]; omega), bl_lb]
theorem ent_ev (acc : List UInt8) (n : Nat) (x : ES) (h : okE x = true) (hn : n ≤ (bl x.f0).length) (ha : acc.length ≤ 100000) : Ev (fun k => qi.ent k acc (n : Int) x) (acc ++ entB n x) := by
 have h1 := okE_iff h
 have l2 := short_len10 n (by omega)
 have l3 := short_len10 ((bl x.f0).length - n) (by omega)
 have l4 := sh_len (okE_u h)
 have l5 := short_len10 (bl x.f3).length (by omega)
 have e1 : IntKind.u64.wrap (n : Int) = (n : Int) := wu_nat n (by omega)
 have e2 : IntKind.u64.wrap (wrap64 (((bl x.f0).length : Int) - (n : Int))) = (((bl x.f0).length - n : Nat) : Int) := by
  rw [w64 _ (by omega) (by omega), wu_in _ (by omega) (by omega)]; omega
 have e3 : IntKind.u64.wrap ((bl x.f3).length : Int) = ((bl x.f3).length : Int) := wu_nat _ (by omega)
 unfold qi.ent
 rw [size_bl x.f0, size_bl x.f3, e1, e2, e3]
 refine Ev.bind (Short_ev n (by omega)) (Ev.just (wr_some _ _ (by omega) (by omega)) ?_)
 refine Ev.bind (Short_ev _ (by omega)) (Ev.just (wr_some _ _ (by simp only [List.length_append]; omega) (by omega)) ?_)
 refine Ev.pos (by omega) (Ev.pos (by omega) ?_)
 have e4 : x.f0.extract ((n : Int)).toNat (bl x.f0).length = lb ((bl x.f0).drop n) := by
  conv => lhs; rw [← lb_bl x.f0]
  rw [lb_extract, bl_lb, List.take_length, Int.toNat_natCast]
 rw [e4]
 refine Ev.just (wr_some _ _ (by simp only [List.length_append]; omega) (by simp only [List.length_drop]; omega)) ?_
 refine Ev.bind (Sh_ev (okE_u h)) (Ev.just (wr_some _ _ (by simp only [List.length_append, List.length_drop]; omega) (by omega)) ?_)
 refine Ev.just (a := _ ++ [if x.f2 = true then (1 : UInt8) else 0]) (by unfold qi.wb; rw [if_pos (by simp only [List.length_append, List.length_drop]; omega)]) ?_
 refine Ev.bind (Short_ev _ (by omega)) (Ev.just (wr_some _ _ (by simp only [List.length_append, List.length_drop, List.length_singleton]; omega) (by omega)) ?_)
 refine Ev.val ?_
 have := wr_some (acc ++ short n ++ short ((bl x.f0).length - n) ++ (bl x.f0).drop n ++ sh x.f1 ++ [if x.f2 = true then (1 : UInt8) else 0] ++ short (bl x.f3).length) (bl x.f3) (by simp only [List.length_append, List.length_drop, List.length_singleton]; omega) (by omega)
 rw [lb_bl] at this
 rw [this]
 simp [entB]
def prev (L : List ES) : Nat → List UInt8
 | 0 => []
 | i + 1 => match L[i]? with | some x => bl x.f0 | none => []
theorem prev_succ {L : List ES} {i : Nat} (h : i < L.length) : prev L (i + 1) = bl L[i].f0 := by simp only [prev, List.getElem?_eq_getElem h]
theorem go_ev (L : List ES) (hall : ∀ x ∈ L, okE x = true) (hL : L.length ≤ 32) : ∀ (n i : Nat) (acc : List UInt8) (st : List Int), i + n = L.length → acc.length ≤ 300 * i →
  Ev (fun k => qi.go k L i (L.drop i) acc st) (acc ++ bodyB i (prev L i) (L.drop i), st ++ (startsB i acc.length (prev L i) (L.drop i)).map Int.ofNat) := by
 intro n
 induction n with
 | zero =>
  intro i acc st hi ha
  rw [List.drop_eq_nil_of_le (by omega)]
  exact Ev.val (by simp [qi.go, bodyB, startsB])
 | succ n ih =>
  intro i acc st hi ha
  have h1 : i < L.length := by omega
  have hx := hall L[i] (List.getElem_mem h1)
  rw [List.drop_eq_getElem_cons h1]
  simp only [qi.go, bodyB, startsB]
  by_cases h4 : i % 4 = 0
  ·have e : shB i (prev L i) L[i] = 0 := by unfold shB; rw [if_pos h4]
   rw [e, if_pos h4]
   refine Ev.pos h4 (Ev.bind (ent_ev acc 0 L[i] hx (by omega) (by omega)) ?_)
   have hl := entB_len (n := 0) hx (by omega)
   refine Ev.eq (ih (i + 1) _ _ (by omega) (by simp only [List.length_append]; omega)) ?_
   rw [prev_succ h1]
   simp
  ·have e : shB i (prev L i) L[i] = comm (prev L i) (bl L[i].f0) := by unfold shB; rw [if_neg h4]
   obtain ⟨j, rfl⟩ : ∃ j, i = j + 1 := ⟨i - 1, by omega⟩
   have h2 : j < L.length := by omega
   have hp := okE_iff (hall L[j] (List.getElem_mem h2))
   have hc := comm_le (bl L[j].f0) (bl L[j + 1].f0)
   rw [prev_succ h2] at e
   rw [prev_succ h2, e, if_neg h4]
   refine Ev.neg h4 ?_
   have er : rd_T37 L (((j + 1 : Nat) : Int) - 1) = L[j] := by
    rw [show (((j + 1 : Nat) : Int) - 1) = (j : Int) by omega]; exact rdE h2
   rw [er]
   have hs := Shared_ev (bl L[j].f0) (bl L[j + 1].f0) (by omega)
   rw [lb_bl, lb_bl] at hs
   refine Ev.bind hs (Ev.bind (ent_ev acc _ L[j + 1] hx hc.2 (by omega)) ?_)
   have hl := entB_len (n := comm (bl L[j].f0) (bl L[j + 1].f0)) hx hc.2
   refine Ev.eq (ih (j + 1 + 1) _ _ (by omega) (by simp only [List.length_append]; omega)) ?_
   rw [prev_succ h1]
   simp
theorem body_len (l : List ES) : ∀ (i : Nat) (p : List UInt8), (∀ x ∈ l, okE x = true) → (bodyB i p l).length ≤ 300 * l.length := by
 induction l with
 | nil => intro i p _; simp [bodyB]
 | cons x l ih =>
  intro i p h
  have h1 := entB_len (h x (by simp)) (shB_le i p x)
  have h2 := ih (i + 1) (bl x.f0) (fun y hy => h y (by simp [hy]))
  simp only [bodyB, List.length_append, List.length_cons]
  omega
theorem starts_le (l : List ES) : ∀ (i j : Nat) (p : List UInt8), (∀ x ∈ l, okE x = true) → ∀ a ∈ startsB i j p l, a ≤ j + 300 * l.length := by
 induction l with
 | nil => intro i j p _ a ha; simp [startsB] at ha
 | cons x l ih =>
  intro i j p h a ha
  have h1 := entB_len (h x (by simp)) (shB_le i p x)
  simp only [startsB, List.mem_append] at ha
  simp only [List.length_cons]
  rcases ha with ha | ha
  ·split at ha
   ·simp only [List.mem_singleton] at ha; omega
   ·simp at ha
  ·have := ih (i + 1) _ (bl x.f0) (fun y hy => h y (by simp [hy])) a ha
   omega
theorem starts_len (l : List ES) : ∀ (i j : Nat) (p : List UInt8), (startsB i j p l).length ≤ l.length := by
 induction l with
 | nil => intro i j p; simp [startsB]
 | cons x l ih =>
  intro i j p
  have := ih (i + 1) (j + (entB (shB i p x) x).length) (bl x.f0)
  simp only [startsB, List.length_append, List.length_cons]
  split <;> simp <;> omega
theorem longs_len (st : List Nat) : (st.flatMap long).length = 8 * st.length := by
 induction st with
 | nil => rfl
 | cons a l ih => simp only [List.flatMap_cons, List.length_append, List.length_cons, long_len, ih]; omega
theorem tl_f : ∀ (st : List Nat) (acc : List UInt8), (∀ a ∈ st, a < 18446744073709551616) → acc.length + 8 * st.length ≤ 1000000 → qi.tl (st.map Int.ofNat) acc = some (acc ++ st.flatMap long) := by
 intro st
 induction st with
 | nil => intro acc _ _; simp [qi.tl]
 | cons a l ih =>
  intro acc h ha
  have h1 := h a (by simp)
  simp only [List.length_cons] at ha
  simp only [List.map_cons, qi.tl]
  rw [show (Int.ofNat a) = (a : Int) from rfl, wu_nat a h1, Long_f]
  simp only [Option.bind_some]
  rw [wr_some _ _ (by omega) (by rw [long_len]; omega)]
  simp only [Option.bind_some]
  rw [ih _ (fun b hb => h b (by simp [hb])) (by rw [List.length_append, long_len]; omega)]
  simp
theorem Encode_ev (l : List ES) (hl : l.length ≤ 1000000) : Ev (fun k => qi.f k l) (encr l) := by
 unfold qi.f
 refine Ev.bind (row_ev l hl) ?_
 unfold encr
 cases h : rowB l
 ·exact Ev.neg (by simp) (Ev.val rfl)
 ·have h1 := rowB_len h
  have hall := rowB_all h
  refine Ev.pos rfl (Ev.pos hl ?_)
  have hg := go_ev l hall h1.2 l.length 0 [] [] (by omega) (by simp)
  refine Ev.bind (a := (bodyB 0 [] l, (startsB 0 0 [] l).map Int.ofNat)) (Ev.eq hg (by simp [prev])) ?_
  have hb := body_len l 0 [] hall
  have hs := starts_len l 0 0 []
  have hle := starts_le l 0 0 [] hall
  refine Ev.just (tl_f (startsB 0 0 [] l) (bodyB 0 [] l) (fun a ha => by have := hle a ha; omega) (by omega)) ?_
  refine Ev.just (a := lb (long l.length)) (by rw [wu_nat _ (by omega), Long_f]) ?_
  refine Ev.just (wr_some _ _ (by rw [List.length_append, longs_len]; omega) (by rw [long_len]; omega)) (Ev.val rfl)
theorem encB_len {l : List ES} (h : rowB l = true) : (encB l).length ≤ 10000 := by
 have h1 := rowB_len h
 have hb := body_len l 0 [] (rowB_all h)
 have hs := starts_len l 0 0 []
 unfold encB
 rw [List.length_append, List.length_append, longs_len, long_len]
 omega

def nu (s : List UInt8) (b : Bool) : Nat × List UInt8 × Bool := match tk s with
 | some (n, r) => (n, r, b)
 | none => (0, [], true)
theorem nu_some {s r : List UInt8} {n : Nat} (h : tk s = some (n, r)) (b : Bool) : nu s b = (n, r, b) := by unfold nu; rw [h]
theorem nu_none {s : List UInt8} (h : tk s = none) (b : Bool) : nu s b = (0, [], true) := by unfold nu; rw [h]
theorem nu_le (s : List UInt8) (b : Bool) : (nu s b).2.1.length ≤ s.length ∧ (nu s b).1 < 18446744073709551616 := by
 cases h : tk s with
 | none => rw [nu_none h]; simp
 | some q =>
  obtain ⟨n, r⟩ := q
  rw [nu_some h]
  obtain ⟨h1, h2⟩ := (tk_iff _ _ _).1 h
  exact ⟨by rw [h2]; simp, h1⟩
theorem nu_short {n : Nat} (h : n < 18446744073709551616) (r : List UInt8) (b : Bool) : nu (short n ++ r) b = (n, r, b) := nu_some (tk_short n r h) b
theorem number_ev (s : List UInt8) (b : Bool) (h : s.length ≤ 140737488351232) : Ev (fun k => qe.number k (lb s) b) (((nu s b).1 : Int), lb (nu s b).2.1, (nu s b).2.2) := by
 unfold qe.number
 refine Ev.bind (Take_ev s h) (Ev.val ?_)
 cases e : tk s with
 | none => rw [nu_none e]; simp [tres]
 | some q => obtain ⟨n, r⟩ := q; rw [nu_some e]; simp [tres]
def te (s : List UInt8) (b : Bool) (n : Nat) : List UInt8 × List UInt8 × Bool := if b = true then ([], s, true) else (if n > s.length then ([], s, true) else (s.take n, s.drop n, false))
theorem te_le (s : List UInt8) (b : Bool) (n : Nat) : (te s b n).1.length + (te s b n).2.1.length ≤ s.length := by
 unfold te
 split
 ·simp
 ·split
  ·simp
  ·simp; omega
theorem te_app (s r : List UInt8) : te (s ++ r) false s.length = (s, r, false) := by
 unfold te
 rw [if_neg (by simp), if_neg (by simp)]
 simp
theorem text_f (s : List UInt8) (b : Bool) (n : Nat) (h : s.length ≤ 140737488351232) : qe.text (lb s) b (n : Int) = some (lb (te s b n).1, lb (te s b n).2.1, (te s b n).2.2) := by
 unfold qe.text te
 rw [lb_size, wu_nat _ (by omega)]
 cases b
 ·rw [if_neg (show ¬ (false = true) by simp), if_neg (show ¬ (false = true) by simp)]
  by_cases h1 : n > s.length
  ·rw [if_pos (show (n : Int) > (s.length : Int) by omega), if_pos h1]; rfl
  ·rw [if_neg (show ¬ (n : Int) > (s.length : Int) by omega), if_neg h1, if_pos (show (0 : Int) ≤ n by omega), if_pos (show (n : Int) ≤ (s.length : Int) by omega), lb_extract, lb_extract, Int.toNat_natCast, List.take_length]
   simp
 ·rw [if_pos rfl, if_pos rfl]; rfl
def nx (s : List UInt8) (b : Bool) (last : List UInt8) : ES × List UInt8 × Bool × List UInt8 :=
 let a := nu s b
 if a.1 > last.length then (⟨lb [], 0, false, lb []⟩, a.2.1, true, last) else
  let c := nu a.2.1 a.2.2
  let d := te c.2.1 c.2.2 c.1
  let q := nu d.2.1 d.2.2
  let kd := nu q.2.1 q.2.2
  let u := nu kd.2.1 kd.2.2
  let v := te u.2.1 u.2.2 u.1
  (⟨lb (last.take a.1 ++ d.1), (q.1 : Int), ((kd.1 : Int) == 1), lb v.1⟩, v.2.1, v.2.2 || decide (kd.1 > 1), last.take a.1 ++ d.1)
theorem nx_le (s : List UInt8) (b : Bool) (last : List UInt8) : (nx s b last).2.1.length + (nx s b last).2.2.2.length ≤ s.length + last.length := by
 unfold nx
 have h1 := (nu_le s b).1
 generalize nu s b = a at h1
 obtain ⟨an, sa, ab⟩ := a
 simp only at h1 ⊢
 split
 ·simp only; omega
 ·have h2 := (nu_le sa ab).1
  generalize nu sa ab = c at h2
  obtain ⟨cn, cs, cb⟩ := c
  simp only at h2 ⊢
  have h3 := te_le cs cb cn
  generalize te cs cb cn = d at h3
  obtain ⟨dt, ds, db⟩ := d
  simp only at h3 ⊢
  have h4 := (nu_le ds db).1
  generalize nu ds db = q at h4
  obtain ⟨qn, qs, qb⟩ := q
  simp only at h4 ⊢
  have h5 := (nu_le qs qb).1
  generalize nu qs qb = kd at h5
  obtain ⟨kn, ks, kb⟩ := kd
  simp only at h5 ⊢
  have h6 := (nu_le ks kb).1
  generalize nu ks kb = u at h6
  obtain ⟨un, us, ub⟩ := u
  simp only at h6 ⊢
  have h7 := te_le us ub un
  rw [List.length_append, List.length_take]
  omega
theorem next_ev (s : List UInt8) (b : Bool) (last : List UInt8) (hs : s.length + last.length ≤ 100000000) : Ev (fun k => qe.next k (lb s) b (lb last)) ((nx s b last).1, lb (nx s b last).2.1, (nx s b last).2.2.1, lb (nx s b last).2.2.2) := by
 unfold qe.next
 refine Ev.bind (number_ev s b (by omega)) ?_
 unfold nx
 have h1 := (nu_le s b).1
 generalize nu s b = a at h1 ⊢
 obtain ⟨an, sa, ab⟩ := a
 simp only at h1 ⊢
 rw [lb_size, wu_nat _ (by omega)]
 by_cases hc : an > last.length
 ·rw [if_pos hc]
  exact Ev.pos (by omega) (Ev.val rfl)
 rw [if_neg hc]
 refine Ev.neg (by omega) (Ev.pos (by omega) (Ev.pos (by omega) ?_))
 refine Ev.bind (number_ev sa ab (by omega)) ?_
 have h2 := (nu_le sa ab).1
 generalize nu sa ab = c at h2 ⊢
 obtain ⟨cn, cs, cb⟩ := c
 simp only at h2 ⊢
 refine Ev.just (text_f cs cb cn (by omega)) ?_
 have h3 := te_le cs cb cn
 generalize te cs cb cn = d at h3 ⊢
 obtain ⟨dt, ds, db⟩ := d
 simp only at h3 ⊢
 refine Ev.pos (by rw [lb_extract, lb_size, lb_size]; simp; omega) ?_
 refine Ev.bind (number_ev ds db (by omega)) ?_
 have h4 := (nu_le ds db).1
 generalize nu ds db = q at h4 ⊢
 obtain ⟨qn, qs, qb⟩ := q
 simp only at h4 ⊢
 refine Ev.bind (number_ev qs qb (by omega)) ?_
 have h5 := (nu_le qs qb).1
 generalize nu qs qb = kd at h5 ⊢
 obtain ⟨kn, ks, kb⟩ := kd
 simp only at h5 ⊢
 refine Ev.bind (number_ev ks kb (by omega)) ?_
 have h6 := (nu_le ks kb).1
 generalize nu ks kb = u at h6 ⊢
 obtain ⟨un, us, ub⟩ := u
 simp only at h6 ⊢
 refine Ev.just (text_f us ub un (by omega)) (Ev.val ?_)
 rw [lb_extract, Int.toNat_natCast, lb_append]
 have e : decide ((kn : Int) > 1) = decide (kn > 1) := by rw [Bool.eq_iff_iff]; simp only [decide_eq_true_eq]; omega
 rw [e]
 simp

def dgo : Nat → List UInt8 → Bool → List UInt8 → List ES → Bool × List ES
 | 0, _, b, _, l => (b, l)
 | m + 1, s, b, last, l => dgo m (nx s b last).2.1 (nx s b last).2.2.1 (nx s b last).2.2.2 (l ++ [(nx s b last).1])
theorem dgo_ev : ∀ (m : Nat) (s : List UInt8) (b : Bool) (last : List UInt8) (l : List ES), s.length + last.length ≤ 100000000 → Ev (fun k => qe.go k m (lb s) b (lb last) l) (dgo m s b last l) := by
 intro m
 induction m with
 | zero => intro s b last l _; exact Ev.val rfl
 | succ m ih =>
  intro s b last l h
  simp only [qe.go, dgo]
  refine Ev.bind (next_ev s b last h) ?_
  exact ih _ _ _ _ (Nat.le_trans (nx_le s b last) h)
theorem dgo_len : ∀ (m : Nat) (s : List UInt8) (b : Bool) (last : List UInt8) (l : List ES), (dgo m s b last l).2.length = l.length + m := by
 intro m
 induction m with
 | zero => intro s b last l; rfl
 | succ m ih => intro s b last l; simp only [dgo]; rw [ih, List.length_append, List.length_singleton]; omega
def cntB (s : List UInt8) : Nat := if s.length < 8 then 0 else (if be 0 (s.drop (s.length - 8)) < 1 ∨ be 0 (s.drop (s.length - 8)) > 32 then 0 else be 0 (s.drop (s.length - 8)))
theorem cntB_le (s : List UInt8) : cntB s ≤ 32 := by
 unfold cntB
 split
 ·omega
 ·split <;> omega
theorem Count_ev (s : List UInt8) (hs : s.length ≤ 100000000) : Ev (fun k => qk1.f k (lb s)) ((cntB s : Nat) : Int) := by
 unfold qk1.f cntB
 rw [lb_size]
 by_cases h : s.length < 8
 ·rw [if_pos h]
  exact Ev.pos (by omega) (Ev.val rfl)
 ·rw [if_neg h]
  have e : wrap64 ((s.length : Int) - 8) = ((s.length - 8 : Nat) : Int) := by rw [w64 _ (by omega) (by omega)]; omega
  rw [e]
  refine Ev.neg (by omega) (Ev.pos (by omega) (Ev.pos (by omega) ?_))
  rw [lb_extract, Int.toNat_natCast, List.take_length]
  refine Ev.bind (Unlong_ev _) ?_
  have hl : (s.drop (s.length - 8)).length = 8 := by rw [List.length_drop]; omega
  unfold ures
  rw [if_pos hl]
  generalize be 0 (s.drop (s.length - 8)) = n
  by_cases h1 : n < 1
  ·rw [if_pos (Or.inl h1)]
   exact Ev.pos (by show (n : Int) < 1; omega) (Ev.val rfl)
  ·refine Ev.neg (by show ¬ (n : Int) < 1; omega) ?_
   by_cases h2 : n > 32
   ·rw [if_pos (Or.inr h2)]
    exact Ev.pos (by show (n : Int) > 32; omega) (Ev.val rfl)
   ·rw [if_neg (show ¬ (n < 1 ∨ n > 32) by omega)]
    refine Ev.neg (by show ¬ (n : Int) > 32; omega) (Ev.val ?_)
    show some (wrap64 (n : Int)) = _
    rw [w64 _ (by omega) (by omega)]
def strt (n : Nat) : Nat := 8 * ((n + 3) / 4 + 1)
theorem en_eq (s : List UInt8) (n : Nat) (hn : n ≤ 1000) (hs : s.length ≤ 100000000) : qe.en (lb s) (n : Int) = (s.length : Int) - (strt n : Int) := by
 unfold qe.en strt
 rw [lb_size, w64 ((n : Int) + 4) (by omega) (by omega), w64 ((n : Int) + 4 - 1) (by omega) (by omega)]
 have e : ((n : Int) + 4 - 1).tdiv 4 = (((n + 3) / 4 : Nat) : Int) := by
  rw [show ((n : Int) + 4 - 1) = ((n + 3 : Nat) : Int) by omega]
  exact (Int.ofNat_tdiv (n + 3) 4).symm
 rw [e, w64 (((n + 3) / 4 : Nat) : Int) (by omega) (by omega), w64 ((((n + 3) / 4 : Nat) : Int) + 1) (by omega) (by omega), w64 (8 * ((((n + 3) / 4 : Nat) : Int) + 1)) (by omega) (by omega), w64 _ (by omega) (by omega)]
 omega
def decr (s : List UInt8) : List ES × Int :=
 if cntB s = 0 then ([], 2) else (if s.length < strt (cntB s) then ([], 2) else
  (if (dgo (cntB s) (s.take (s.length - strt (cntB s))) false [] []).1 = true then ([], 2) else
   (if rowB (dgo (cntB s) (s.take (s.length - strt (cntB s))) false [] []).2 = true ∧ encB (dgo (cntB s) (s.take (s.length - strt (cntB s))) false [] []).2 = s then ((dgo (cntB s) (s.take (s.length - strt (cntB s))) false [] []).2, 0) else ([], 2))))
theorem Decode_ev (s : List UInt8) (hs : s.length ≤ 10000000) : Ev (fun k => qe.f k (lb s)) (decr s) := by
 unfold qe.f decr
 have hc := cntB_le s
 refine Ev.bind (Count_ev s (by omega)) ?_
 generalize cntB s = n at hc
 by_cases h0 : n = 0
 ·rw [if_pos h0]
  exact Ev.pos (by omega) (Ev.val rfl)
 rw [if_neg h0]
 refine Ev.neg (by omega) ?_
 rw [en_eq s n (by omega) (by omega)]
 by_cases h1 : s.length < strt n
 ·rw [if_pos h1]
  exact Ev.pos (by omega) (Ev.val rfl)
 rw [if_neg h1]
 refine Ev.neg (by omega) (Ev.pos (by rw [lb_size]; omega) (Ev.pos (by omega) ?_))
 have e : ((s.length : Int) - (strt n : Int)).toNat = s.length - strt n := by omega
 rw [e, lb_extract, List.drop_zero, Int.toNat_natCast]
 have hd := dgo_ev n (s.take (s.length - strt n)) false [] [] (by rw [List.length_take]; simp; omega)
 refine Ev.bind hd ?_
 have hl := dgo_len n (s.take (s.length - strt n)) false [] []
 generalize dgo n (s.take (s.length - strt n)) false [] [] = r at hl ⊢
 obtain ⟨b, l⟩ := r
 simp only at hl ⊢
 unfold qe.fin
 cases b
 ·refine Ev.neg (by simp) ?_
  rw [if_neg (show ¬ (false = true) by simp)]
  refine Ev.bind (Encode_ev l (by simp at hl; omega)) ?_
  unfold encr
  by_cases h2 : rowB l = true
  ·rw [if_pos h2]
   refine Ev.pos rfl ?_
   by_cases h3 : encB l = s
   ·rw [if_pos (show rowB l = true ∧ encB l = s from ⟨h2, h3⟩)]
    exact Ev.pos (by rw [lb_toList, lb_toList]; exact h3) (Ev.val rfl)
   ·rw [if_neg (show ¬ (rowB l = true ∧ encB l = s) from fun h => h3 h.2)]
    exact Ev.neg (by rw [lb_toList, lb_toList]; exact h3) (Ev.val rfl)
  ·rw [if_neg h2, if_neg (show ¬ (rowB l = true ∧ encB l = s) from fun h => h2 h.1)]
   exact Ev.neg (by simp) (Ev.val rfl)
 ·rw [if_pos rfl]
  exact Ev.pos rfl (Ev.val rfl)

theorem nx_ent (n : Nat) (p : List UInt8) (x : ES) (rest : List UInt8) (h : okE x = true) (hn : n ≤ (bl x.f0).length) (hp : n ≤ p.length) (hk : p.take n = (bl x.f0).take n) : nx (entB n x ++ rest) false p = (x, rest, false, bl x.f0) := by
 have h1 := okE_iff h
 have hu := okE_u h
 have ek : p.take n ++ (bl x.f0).drop n = bl x.f0 := by rw [hk, List.take_append_drop]
 have ebit : ∀ r : List UInt8, ((if x.f2 = true then (1 : UInt8) else 0) :: r) = short (if x.f2 = true then 1 else 0) ++ r := by
  intro r
  rw [short_lt _ (by split <;> omega)]
  split <;> rfl
 unfold nx entB
 simp only [List.append_assoc, List.cons_append]
 rw [nu_short (by omega)]
 simp only
 rw [if_neg (by omega), nu_short (by omega)]
 simp only
 have e1 := te_app ((bl x.f0).drop n) (sh x.f1 ++ ((if x.f2 = true then (1 : UInt8) else 0) :: (short (bl x.f3).length ++ (bl x.f3 ++ rest))))
 rw [List.length_drop] at e1
 rw [e1]
 simp only
 rw [show sh x.f1 = short x.f1.toNat from rfl, nu_short (by have := hu.1; have := hu.2; omega)]
 simp only
 rw [ebit, nu_short (by split <;> omega)]
 simp only
 rw [nu_short (by omega)]
 simp only
 rw [te_app, ek]
 have e2 : ((x.f1.toNat : Nat) : Int) = x.f1 := by have := hu.1; omega
 rw [e2]
 simp only [lb_bl]
 cases x with
 | mk f0 f1 f2 f3 => cases f2 <;> simp
theorem sh_ok (i : Nat) (p : List UInt8) (x : ES) : shB i p x ≤ p.length ∧ p.take (shB i p x) = (bl x.f0).take (shB i p x) := by
 unfold shB
 split
 ·simp
 ·exact ⟨(comm_le _ _).1, comm_take _ _⟩
theorem dgo_body : ∀ (l : List ES) (i : Nat) (p : List UInt8) (acc : List ES), (∀ x ∈ l, okE x = true) → dgo l.length (bodyB i p l) false p acc = (false, acc ++ l) := by
 intro l
 induction l with
 | nil => intro i p acc _; simp [dgo]
 | cons x l ih =>
  intro i p acc h
  have h1 := nx_ent (shB i p x) p x (bodyB (i + 1) (bl x.f0) l) (h x (by simp)) (shB_le i p x) (sh_ok i p x).1 (sh_ok i p x).2
  simp only [List.length_cons, dgo, bodyB]
  rw [h1]
  simp only
  rw [ih (i + 1) (bl x.f0) (acc ++ [x]) (fun y hy => h y (by simp [hy]))]
  simp
theorem starts_cnt : ∀ (l : List ES) (i j : Nat) (p : List UInt8), (startsB i j p l).length + (i + 3) / 4 = (i + l.length + 3) / 4 := by
 intro l
 induction l with
 | nil => intro i j p; simp [startsB]
 | cons x l ih =>
  intro i j p
  have := ih (i + 1) (j + (entB (shB i p x) x).length) (bl x.f0)
  simp only [startsB, List.length_append, List.length_cons]
  split
  ·simp only [List.length_singleton]; omega
  ·simp only [List.length_nil]; omega
theorem encB_eq (l : List ES) : (encB l).length = (bodyB 0 [] l).length + strt l.length := by
 have := starts_cnt l 0 0 []
 unfold encB strt
 rw [List.length_append, List.length_append, longs_len, long_len]
 omega
theorem cnt_enc {l : List ES} (h : 1 ≤ l.length ∧ l.length ≤ 32) : cntB (encB l) = l.length := by
 have e : (encB l).drop ((encB l).length - 8) = long l.length := by
  have : (encB l).length - 8 = (bodyB 0 [] l ++ (startsB 0 0 [] l).flatMap long).length := by unfold encB; simp only [List.length_append, long_len]; omega
  rw [this]; unfold encB; exact List.drop_left
 unfold cntB
 rw [e, be_long _ (by omega)]
 have := encB_eq l
 unfold strt at this
 rw [if_neg (by omega), if_neg (by omega)]
theorem decr_enc {l : List ES} (h : rowB l = true) : decr (encB l) = (l, 0) := by
 have h1 := rowB_len h
 have e := encB_eq l
 have et : (encB l).take ((encB l).length - strt l.length) = bodyB 0 [] l := by
  rw [show (encB l).length - strt l.length = (bodyB 0 [] l).length by omega]
  unfold encB; rw [List.append_assoc]; exact List.take_left
 have hd := dgo_body l 0 [] [] (rowB_all h)
 unfold decr
 rw [cnt_enc h1, et, hd]
 simp only [List.nil_append]
 rw [if_neg (by omega), if_neg (by omega), if_neg (by simp), if_pos ⟨h, trivial⟩]
theorem decr_ok {s : List UInt8} {l : List ES} {e : Int} (h : decr s = (l, e)) : (e = 0 ∧ rowB l = true ∧ encB l = s) ∨ (e = 2 ∧ l = []) := by
 unfold decr at h
 split at h
 ·right; simp at h; exact ⟨h.2.symm, h.1⟩
 ·split at h
  ·right; simp at h; exact ⟨h.2.symm, h.1⟩
  ·split at h
   ·right; simp at h; exact ⟨h.2.symm, h.1⟩
   ·split at h
    ·rename_i hh
     left; simp at h; exact ⟨h.2.symm, by rw [← h.1]; exact hh.1, by rw [← h.1]; exact hh.2⟩
    ·right; simp at h; exact ⟨h.2.symm, h.1⟩

def lastK : List UInt8 → List ES → List UInt8
 | p, [] => p
 | _, x :: l => lastK (bl x.f0) l
theorem body_app : ∀ (a b : List ES) (i : Nat) (p : List UInt8), bodyB i p (a ++ b) = bodyB i p a ++ bodyB (i + a.length) (lastK p a) b := by
 intro a
 induction a with
 | nil => intro b i p; simp [bodyB, lastK]
 | cons x a ih =>
  intro b i p
  simp only [List.cons_append, bodyB, lastK, List.length_cons]
  rw [ih b (i + 1) (bl x.f0), List.append_assoc, show i + 1 + a.length = i + (a.length + 1) by omega]
theorem starts_app : ∀ (a b : List ES) (i j : Nat) (p : List UInt8), startsB i j p (a ++ b) = startsB i j p a ++ startsB (i + a.length) (j + (bodyB i p a).length) (lastK p a) b := by
 intro a
 induction a with
 | nil => intro b i j p; simp [startsB, bodyB, lastK]
 | cons x a ih =>
  intro b i j p
  simp only [List.cons_append, startsB, bodyB, lastK, List.length_cons, List.length_append]
  rw [ih b (i + 1) _ (bl x.f0), List.append_assoc, show i + 1 + a.length = i + (a.length + 1) by omega, Nat.add_assoc]
theorem body_whole (l : List ES) (i : Nat) (p q : List UInt8) (h : i % 4 = 0) : bodyB i p l = bodyB i q l := by
 cases l with
 | nil => rfl
 | cons x l => simp only [bodyB, shB, if_pos h]
theorem starts_get (l : List ES) (j : Nat) (h : 4 * j < l.length) : (startsB 0 0 [] l)[j]? = some (bodyB 0 [] (l.take (4 * j))).length := by
 have e := starts_app (l.take (4 * j)) (l.drop (4 * j)) 0 0 []
 rw [List.take_append_drop] at e
 have hl : (l.take (4 * j)).length = 4 * j := by rw [List.length_take]; omega
 have hc := starts_cnt (l.take (4 * j)) 0 0 []
 rw [hl] at e hc
 rw [e, List.getElem?_append_right (by omega)]
 have : l.drop (4 * j) = l[4 * j] :: l.drop (4 * j + 1) := List.drop_eq_getElem_cons h
 rw [this]
 have hz : j - (startsB 0 0 [] (l.take (4 * j))).length = 0 := by omega
 rw [hz]
 simp [startsB]
theorem flat_get (r : List UInt8) : ∀ (st : List Nat) (j a : Nat), st[j]? = some a → ((st.flatMap long ++ r).take (8 * (j + 1))).drop (8 * j) = long a := by
 intro st
 induction st with
 | nil => intro j a h; simp at h
 | cons b st ih =>
  intro j a h
  cases j with
  | zero =>
   simp at h
   subst h
   simp only [List.flatMap_cons, List.append_assoc]
   rw [List.take_append_of_le_length (by rw [long_len]; omega), List.take_of_length_le (by rw [long_len]; omega)]
   rfl
  | succ j =>
   have h' : st[j]? = some a := by simpa using h
   have e := ih j a h'
   simp only [List.flatMap_cons, List.append_assoc]
   rw [List.take_append, List.drop_append, long_len]
   rw [List.take_of_length_le (show (long b).length ≤ 8 * (j + 1 + 1) by rw [long_len]; omega), List.drop_eq_nil_of_le (show (long b).length ≤ 8 * (j + 1) by rw [long_len]; omega), long_len]
   rw [show 8 * (j + 1 + 1) - 8 = 8 * (j + 1) by omega, show 8 * (j + 1) - 8 = 8 * j by omega, List.nil_append]
   exact e
theorem at_ev {l : List ES} (hr : rowB l = true) (j : Nat) (h : 4 * j < l.length) : Ev (fun k => qp.at_ k (lb (encB l)) (l.length : Int) (j : Int)) (lb (bodyB (4 * j) [] (l.drop (4 * j)))) := by
 have h1 := rowB_len hr
 have hle := encB_len hr
 have e := encB_eq l
 have hs : strt l.length = 8 * ((l.length + 3) / 4 + 1) := rfl
 have hen : qe.en (lb (encB l)) (l.length : Int) = ((bodyB 0 [] l).length : Int) := by rw [en_eq _ _ (by omega) (by omega)]; omega
 unfold qp.at_
 rw [hen, lb_size, w64 (8 * (j : Int)) (by omega) (by omega), w64 ((j : Int) + 1) (by omega) (by omega), w64 (8 * ((j : Int) + 1)) (by omega) (by omega), w64 (((bodyB 0 [] l).length : Int) + 8 * (j : Int)) (by omega) (by omega), w64 (((bodyB 0 [] l).length : Int) + 8 * ((j : Int) + 1)) (by omega) (by omega)]
 refine Ev.pos (by omega) (Ev.pos (by omega) (Ev.pos (by omega) ?_))
 have ea : (((bodyB 0 [] l).length : Int) + 8 * (j : Int)).toNat = (bodyB 0 [] l).length + 8 * j := by omega
 have eb : (((bodyB 0 [] l).length : Int) + 8 * ((j : Int) + 1)).toNat = (bodyB 0 [] l).length + 8 * (j + 1) := by omega
 rw [ea, eb, lb_extract]
 have eg := flat_get (long l.length) _ j _ (starts_get l j h)
 have el : ((encB l).take ((bodyB 0 [] l).length + 8 * (j + 1))).drop ((bodyB 0 [] l).length + 8 * j) = long (bodyB 0 [] (l.take (4 * j))).length := by
  unfold encB
  rw [List.append_assoc, List.take_length_add_append, List.drop_length_add_append]
  exact eg
 rw [el]
 have hb := body_len (l.take (4 * j)) 0 [] (fun x hx => rowB_all hr x (List.mem_of_mem_take hx))
 have hl : (l.take (4 * j)).length = 4 * j := by rw [List.length_take]; omega
 have esp : bodyB 0 [] l = bodyB 0 [] (l.take (4 * j)) ++ bodyB (4 * j) [] (l.drop (4 * j)) := by
  have := body_app (l.take (4 * j)) (l.drop (4 * j)) 0 []
  rw [List.take_append_drop, hl, Nat.zero_add, body_whole _ (4 * j) _ [] (by omega)] at this
  exact this
 refine Ev.bind (Unlong_ev _) ?_
 unfold ures
 rw [if_pos (long_len _), be_long _ (by omega)]
 have hle2 : (bodyB 0 [] (l.take (4 * j))).length ≤ (bodyB 0 [] l).length := by rw [esp, List.length_append]; omega
 refine Ev.pos (show (0 : Int) ≤ ((bodyB 0 [] (l.take (4 * j))).length : Int) by omega) (Ev.pos (show ((bodyB 0 [] (l.take (4 * j))).length : Int) ≤ ((bodyB 0 [] l).length : Int) by omega) (Ev.pos (by omega) (Ev.val ?_)))
 simp only [Int.toNat_natCast]
 rw [lb_extract]
 congr 2
 unfold encB
 rw [List.append_assoc, List.take_left, esp, List.drop_left]

def ahB (x : ES) (key : List UInt8) (seq : Int) : Bool := Op.bytesLess (bl x.f0) key || (decide (bl x.f0 = key) && decide (x.f1 > seq))
theorem ahead_f (x : ES) (key : List UInt8) (seq : Int) : qr1.f x.f0 x.f1 x.f2 x.f3 (lb key) seq = some (ahB x key seq) := by
 unfold qr1.f ahB
 rw [toL_bl, lb_toList]
 by_cases h : Op.bytesLess (bl x.f0) key = true
 ·rw [if_pos h, h]; rfl
 ·rw [if_neg h]
  have h' : Op.bytesLess (bl x.f0) key = false := by simpa using h
  rw [h']
  by_cases h2 : bl x.f0 = key
  ·rw [if_pos h2, decide_eq_true h2]; simp
  ·rw [if_neg h2, decide_eq_false h2]; simp
theorem pred_ev {l : List ES} (hr : rowB l = true) (key : List UInt8) (seq : Int) (j : Nat) (h : 4 * j < l.length) : Ev (fun k => qp.pred k (lb (encB l)) (lb key) seq (l.length : Int) (j : Int)) (!(ahB l[4 * j] key seq)) := by
 have hx := rowB_all hr l[4 * j] (List.getElem_mem h)
 have hb := body_len (l.drop (4 * j)) (4 * j) [] (fun x hx => rowB_all hr x (List.mem_of_mem_drop hx))
 have h1 := rowB_len hr
 rw [List.length_drop] at hb
 unfold qp.pred
 refine Ev.bind (at_ev hr j h) ?_
 refine Ev.bind (next_ev _ false [] (by simp; omega)) ?_
 have en := nx_ent 0 [] l[4 * j] (bodyB (4 * j + 1) (bl l[4 * j].f0) (l.drop (4 * j + 1))) hx (by omega) (by simp) (by simp)
 have eb : bodyB (4 * j) [] (l.drop (4 * j)) = entB 0 l[4 * j] ++ bodyB (4 * j + 1) (bl l[4 * j].f0) (l.drop (4 * j + 1)) := by
  rw [List.drop_eq_getElem_cons h]
  simp only [bodyB, shB]
  rw [if_pos (by omega)]
 rw [eb, en]
 simp only
 rw [ahead_f]
 exact Ev.val rfl
theorem search_ev {l : List ES} (hr : rowB l = true) (key : List UInt8) (seq : Int) : ∀ (q i j : Nat), i ≤ j → j - i < q → (∀ c, c < j → 4 * c < l.length) →
  ∃ r, i ≤ r ∧ r ≤ j ∧ Ev (fun k => qp.search k (lb (encB l)) (lb key) seq (l.length : Int) q i j) r ∧ (r = i ∨ ∃ h : 4 * (r - 1) < l.length, ahB l[4 * (r - 1)] key seq = true) := by
 intro q
 induction q with
 | zero => intro i j _ h _; omega
 | succ q ih =>
  intro i j hij hq hc
  simp only [qp.search]
  by_cases h : i < j
  ·have hm := hc ((i + j) / 2) (by omega)
   have hp := pred_ev hr key seq ((i + j) / 2) hm
   cases ha : ahB l[4 * ((i + j) / 2)] key seq
   ·rw [ha] at hp
    obtain ⟨r, h1, h2, h3, h4⟩ := ih i ((i + j) / 2) (by omega) (by omega) (fun c hcc => hc c (by omega))
    exact ⟨r, h1, by omega, Ev.pos h (Ev.bind hp (Ev.pos rfl h3)), h4⟩
   ·rw [ha] at hp
    obtain ⟨r, h1, h2, h3, h4⟩ := ih ((i + j) / 2 + 1) j (by omega) (by omega) hc
    refine ⟨r, by omega, h2, Ev.pos h (Ev.bind hp (Ev.neg (by simp) h3)), ?_⟩
    right
    rcases h4 with h4 | h4
    ·subst h4
     exact ⟨by simpa using hm, by simpa using ha⟩
    ·exact h4
  ·exact ⟨i, Nat.le_refl _, hij, Ev.neg h (Ev.val rfl), Or.inl rfl⟩
theorem sgo_ev (key : List UInt8) (seq : Int) : ∀ (rest : List ES) (i : Nat) (p : List UInt8), (∀ x ∈ rest, okE x = true) → rest.length ≤ 32 → p.length ≤ 1000 →
  Ev (fun k => qp.go k (lb key) seq rest.length (lb (bodyB i p rest)) false (lb p)) (rest.find? (fun x => !(ahB x key seq))) := by
 intro rest
 induction rest with
 | nil => intro i p _ _ _; exact Ev.val rfl
 | cons x rest ih =>
  intro i p h hl hp
  have hb := body_len (x :: rest) i p h
  have hx := okE_iff (h x (by simp))
  simp only [List.length_cons] at hb hl
  have en := nx_ent (shB i p x) p x (bodyB (i + 1) (bl x.f0) rest) (h x (by simp)) (shB_le i p x) (sh_ok i p x).1 (sh_ok i p x).2
  simp only [List.length_cons, qp.go]
  refine Ev.bind (next_ev _ false p (by omega)) ?_
  simp only [bodyB]
  rw [en]
  simp only
  rw [ahead_f]
  refine Ev.just rfl ?_
  rw [List.find?_cons]
  cases ha : ahB x key seq
  ·exact Ev.neg (by simp) (Ev.val rfl)
  ·exact Ev.pos rfl (ih (i + 1) (bl x.f0) (fun y hy => h y (by simp [hy])) (by omega) (by omega))
theorem Seek_ev {l : List ES} (hr : rowB l = true) (key : List UInt8) (seq : Int) : ∃ c, 4 * c ≤ l.length ∧ (c = 0 ∨ ∃ h : 4 * c < l.length, ahB l[4 * c] key seq = true) ∧
  Ev (fun k => qp.f k (lb (encB l)) (lb key) seq) (qp.ans ((l.drop (4 * c)).find? (fun x => !(ahB x key seq)))) := by
 have h1 := rowB_len hr
 have hle := encB_len hr
 obtain ⟨r, hr1, hr2, hs, hp⟩ := search_ev hr key seq 1000 0 ((l.length + 3) / 4) (by omega) (by omega) (fun c hc => by omega)
 refine ⟨r - 1, by omega, ?_, ?_⟩
 ·rcases hp with hp | hp
  ·left; omega
  ·right; exact hp
 unfold qp.f
 refine Ev.bind (Ev.eq (Decode_ev (encB l) (by omega)) (decr_enc hr)) (Ev.pos rfl ?_)
 have hc := Count_ev (encB l) (by omega)
 rw [cnt_enc h1] at hc
 refine Ev.bind hc (Ev.pos (by omega) ?_)
 rw [Int.toNat_natCast]
 refine Ev.bind hs (Ev.pos (by omega) ?_)
 refine Ev.bind (at_ev hr (r - 1) (by omega)) ?_
 have hg := sgo_ev key seq (l.drop (4 * (r - 1))) (4 * (r - 1)) [] (fun x hx => rowB_all hr x (List.mem_of_mem_drop hx)) (by rw [List.length_drop]; omega) (by simp)
 rw [List.length_drop, show l.length - 4 * (r - 1) = l.length - (r - 1) * 4 by omega] at hg
 exact Ev.bind hg (Ev.val rfl)

def smE (x y : ES) : Bool := !(!(x.f0.toList == y.f0.toList) || (!(x.f1 == y.f1) || (!(x.f2 == y.f2) || !(x.f3.toList == y.f3.toList))))
theorem smE_iff (x y : ES) : smE x y = true ↔ x = y := by
 unfold smE
 rw [toL_bl, toL_bl, toL_bl, toL_bl]
 constructor
 ·intro h
  simp at h
  obtain ⟨h1, h2, h3, h4⟩ := h
  have e1 : x.f0 = y.f0 := by rw [← lb_bl x.f0, ← lb_bl y.f0, h1]
  have e2 : x.f3 = y.f3 := by rw [← lb_bl x.f3, ← lb_bl y.f3, h4]
  cases x; cases y; simp_all
 ·intro h; subst h; simp
def sms : List ES → List ES → Bool
 | [], [] => true
 | x :: a, y :: b => smE x y && sms a b
 | _, _ => false
theorem sms_iff : ∀ (a b : List ES), sms a b = true ↔ a = b := by
 intro a
 induction a with
 | nil => intro b; cases b <;> simp [sms]
 | cons x a ih =>
  intro b
  cases b with
  | nil => simp [sms]
  | cons y b => rw [sms, Bool.and_eq_true, smE_iff, ih]; simp
theorem Same_l0 (a b : List ES) (ha : a.length ≤ 1000000) (hab : a.length = b.length) : ∀ (n i : Nat), i + n = a.length → Ev (fun k => qH.l0 k a b (i : Int)) (sms (a.drop i) (b.drop i)) := by
 intro n
 induction n with
 | zero =>
  intro i hi
  refine Ev.step (fun k => by rw [qH.l0]) ?_
  refine Ev.neg (by omega) (Ev.val ?_)
  rw [List.drop_eq_nil_of_le (by omega), List.drop_eq_nil_of_le (by omega)]; rfl
 | succ n ih =>
  intro i hi
  have h1 : i < a.length := by omega
  have h2 : i < b.length := by omega
  refine Ev.step (fun k => by rw [qH.l0]) ?_
  refine Ev.pos (by omega) (Ev.pos (by omega) (Ev.pos (by omega) ?_))
  rw [rdE h1, rdE h2, List.drop_eq_getElem_cons h1, List.drop_eq_getElem_cons h2, sms]
  by_cases h : smE a[i] b[i] = true
  ·rw [h, Bool.true_and]
   refine Ev.neg (by unfold smE at h; rw [Bool.not_eq_true'] at h; rw [h]; simp) ?_
   rw [w64 _ (by omega) (by omega)]
   exact ih (i + 1) (by omega)
  ·have h' : smE a[i] b[i] = false := by simpa using h
   rw [h', Bool.false_and]
   exact Ev.pos (by unfold smE at h'; rw [Bool.not_eq_false'] at h'; exact h') (Ev.val rfl)
theorem Same_ev (a b : List ES) (ha : a.length ≤ 1000000) : Ev (fun k => qH.f k a b) (sms a b) := by
 unfold qH.f
 by_cases h : a.length = b.length
 ·refine Ev.pos (by omega) ?_
  exact Same_l0 a b ha h a.length 0 (by omega)
 ·refine Ev.neg (by omega) (Ev.val ?_)
  congr 1; symm
  rw [Bool.eq_false_iff]
  intro e
  rw [sms_iff] at e
  exact h (by rw [e])
theorem Same_self (a : List ES) (ha : a.length ≤ 1000000) : Ev (fun k => qH.f k a a) true := Ev.eq (Same_ev a a ha) ((sms_iff a a).2 rfl)

def xa : ES := ⟨⟨#[97, 98]⟩, 3, false, ⟨#[120]⟩⟩
def xb : ES := ⟨⟨#[97, 98, 99]⟩, 2, true, ⟨#[]⟩⟩

theorem bl_cons (c : UInt8) (a b : List UInt8) : Op.bytesLess (c :: a) (c :: b) = Op.bytesLess a b := by
 simp [Op.bytesLess]
theorem bl_lt {c d : UInt8} (h : c.toNat < d.toNat) (a b : List UInt8) : Op.bytesLess (c :: a) (d :: b) = true := by
 have : c < d := by rw [UInt8.lt_iff_toNat_lt]; exact h
 simp [Op.bytesLess, this]
theorem bl_gt {c d : UInt8} (h : d.toNat < c.toNat) (a b : List UInt8) : Op.bytesLess (c :: a) (d :: b) = false := by
 have h1 : ¬ c < d := by rw [UInt8.lt_iff_toNat_lt]; omega
 have h2 : c ≠ d := by intro e; rw [e] at h; omega
 simp [Op.bytesLess, h1, h2]
theorem u8_ne {c d : UInt8} (h : c ≠ d) : c.toNat < d.toNat ∨ d.toNat < c.toNat := by
 have : c.toNat ≠ d.toNat := fun e => h (UInt8.toNat_inj.1 e)
 omega
theorem bl_trans : ∀ (a b c : List UInt8), Op.bytesLess a b = true → Op.bytesLess b c = true → Op.bytesLess a c = true := by
 intro a
 induction a with
 | nil => intro b c h h2; cases c with
  | nil => cases b <;> simp [Op.bytesLess] at h2
  | cons _ _ => rfl
 | cons x a ih =>
  intro b c h h2
  cases b with
  | nil => simp [Op.bytesLess] at h
  | cons y b =>
   cases c with
   | nil => simp [Op.bytesLess] at h2
   | cons z c =>
    by_cases e1 : x = y
    ·subst e1
     rw [bl_cons] at h
     by_cases e2 : x = z
     ·subst e2; rw [bl_cons] at h2 ⊢; exact ih b c h h2
     ·rcases u8_ne e2 with h3 | h3
      ·exact bl_lt h3 _ _
      ·rw [bl_gt h3] at h2; cases h2
    ·rcases u8_ne e1 with h1 | h1
     ·by_cases e2 : y = z
      ·subst e2; exact bl_lt h1 _ _
      ·rcases u8_ne e2 with h3 | h3
       ·exact bl_lt (by omega) _ _
       ·rw [bl_gt h3] at h2; cases h2
     ·rw [bl_gt h1] at h; cases h
theorem ltE_iff {x y : ES} : ltE x y = true ↔ Op.bytesLess (bl x.f0) (bl y.f0) = true ∨ (bl x.f0 = bl y.f0 ∧ x.f1 > y.f1) := by
 unfold ltE; simp
theorem ltE_trans {x y z : ES} (h1 : ltE x y = true) (h2 : ltE y z = true) : ltE x z = true := by
 rw [ltE_iff] at h1 h2 ⊢
 rcases h1 with h1 | ⟨h1, h3⟩
 ·rcases h2 with h2 | ⟨h2, h4⟩
  ·exact Or.inl (bl_trans _ _ _ h1 h2)
  ·rw [h2] at h1; exact Or.inl h1
 ·rcases h2 with h2 | ⟨h2, h4⟩
  ·rw [← h1] at h2; exact Or.inl h2
  ·exact Or.inr ⟨h1.trans h2, by omega⟩
theorem sorted_all : ∀ (l : List ES) (x : ES), sorted (x :: l) = true → ∀ y ∈ l, ltE x y = true := by
 intro l
 induction l with
 | nil => intro x _ y hy; simp at hy
 | cons z l ih =>
  intro x h y hy
  have h' : (ltE x z && sorted (z :: l)) = true := h
  rw [Bool.and_eq_true] at h'
  rcases List.mem_cons.1 hy with rfl | hy
  ·exact h'.1
  ·exact ltE_trans h'.1 (ih z h'.2 y hy)
theorem sorted_tail {x : ES} {l : List ES} (h : sorted (x :: l) = true) : sorted l = true := by
 cases l with
 | nil => rfl
 | cons z l =>
  have h' : (ltE x z && sorted (z :: l)) = true := h
  rw [Bool.and_eq_true] at h'
  exact h'.2
theorem sorted_lt : ∀ (l : List ES), sorted l = true → ∀ (i j : Nat) (hi : i < l.length) (hj : j < l.length), i < j → ltE l[i] l[j] = true := by
 intro l
 induction l with
 | nil => intro _ i j hi; simp at hi
 | cons x l ih =>
  intro h i j hi hj hij
  obtain ⟨j, rfl⟩ : ∃ m, j = m + 1 := ⟨j - 1, by omega⟩
  cases i with
  | zero => exact sorted_all l x h _ (List.getElem_mem (by simpa using hj))
  | succ i => exact ih (sorted_tail h) i j (by simpa using hi) (by simpa using hj) (by omega)
theorem ah_lt (x : ES) (key : List UInt8) (seq : Int) : ahB x key seq = ltE x ⟨lb key, seq, false, lb []⟩ := by
 unfold ahB ltE
 rw [bl_lb]
theorem find_drop {l : List ES} (hs : sorted l = true) (key : List UInt8) (seq : Int) (c : Nat) (h : c < l.length) (ha : ahB l[c] key seq = true) :
  l.find? (fun x => !(ahB x key seq)) = (l.drop c).find? (fun x => !(ahB x key seq)) := by
 have e : l = l.take c ++ l.drop c := (List.take_append_drop c l).symm
 have hn : (l.take c).find? (fun x => !(ahB x key seq)) = none := by
  rw [List.find?_eq_none]
  intro x hx
  obtain ⟨i, hi, rfl⟩ := List.getElem_of_mem hx
  rw [List.length_take] at hi
  have h1 : i < l.length := by omega
  rw [List.getElem_take, ah_lt]
  rw [ah_lt] at ha
  rw [ltE_trans (sorted_lt l hs i c h1 h (by omega)) ha]
  simp
 conv => lhs; rw [e, List.find?_append, hn]
 rfl
theorem Seek_first {l : List ES} (hr : rowB l = true) (key : List UInt8) (seq : Int) : Ev (fun k => qp.f k (lb (encB l)) (lb key) seq) (qp.ans (l.find? (fun x => !(ahB x key seq)))) := by
 obtain ⟨c, h1, h2, h3⟩ := Seek_ev hr key seq
 rcases h2 with rfl | ⟨h, ha⟩
 ·simpa using h3
 ·rw [find_drop (rowB_sorted hr) key seq (4 * c) h ha]; exact h3

theorem rshared_l0 (a b : List UInt8) (ha : min a.length b.length ≤ 1000000000) : ∀ (n i : Nat), i + n = min a.length b.length → Ev (fun k => qD.l0 k (lb a) (lb b) (i : Int)) ((i + comm (a.drop i) (b.drop i) : Nat) : Int) := by
 intro n
 induction n with
 | zero =>
  intro i hi
  refine Ev.step (fun k => by rw [qD.l0]) ?_
  rw [lb_size, lb_size]
  rcases Nat.le_total a.length b.length with h | h
  ·refine Ev.neg (by omega) (Ev.val ?_)
   rw [List.drop_eq_nil_of_le (show a.length ≤ i by omega), comm_nil]; rfl
  ·by_cases h2 : (i : Int) < (a.length : Int)
   ·refine Ev.pos h2 (Ev.neg (by omega) (Ev.val ?_))
    rw [List.drop_eq_nil_of_le (show b.length ≤ i by omega), comm_nil']; rfl
   ·refine Ev.neg h2 (Ev.val ?_)
    rw [List.drop_eq_nil_of_le (show a.length ≤ i by omega), comm_nil]; rfl
 | succ n ih =>
  intro i hi
  have h1 : i < a.length := by omega
  have h2 : i < b.length := by omega
  refine Ev.step (fun k => by rw [qD.l0]) ?_
  refine Ev.pos (by rw [lb_size]; omega) (Ev.pos (by rw [lb_size]; omega) (Ev.pos (by omega) ?_))
  rw [bt_nat a i h1, bt_nat b i h2, List.drop_eq_getElem_cons h1, List.drop_eq_getElem_cons h2, comm_cons]
  by_cases h : a[i] = b[i]
  ·rw [if_pos h]
   refine Ev.pos (by rw [h]) ?_
   rw [w64 _ (by omega) (by omega)]
   refine Ev.eq (ih (i + 1) (by omega)) ?_
   congr 1; omega
  ·rw [if_neg h]
   exact Ev.neg (fun e => h (u8_ext (by omega))) (Ev.val rfl)
theorem RShared_ev (a b : List UInt8) (ha : min a.length b.length ≤ 1000000000) : Ev (fun k => qD.f k (lb a) (lb b)) ((comm a b : Nat) : Int) := by
 unfold qD.f
 refine Ev.eq (rshared_l0 a b ha (min a.length b.length) 0 (by omega)) ?_
 simp
theorem RAh_f (x y : ES) : qc1.f x.f0 x.f1 y.f0 y.f1 = some (ltE x y) := by
 unfold qc1.f ltE
 rw [toL_bl, toL_bl]
 by_cases h1 : Op.bytesLess (bl x.f0) (bl y.f0) = true
 ·rw [h1]; simp
 ·rw [show Op.bytesLess (bl x.f0) (bl y.f0) = false by simpa using h1]
  by_cases h2 : bl x.f0 = bl y.f0
  ·simp [h2]
  ·simp [h2]
theorem rrow_l0 (l : List ES) (hl : l.length ≤ 1000000) : ∀ (n i : Nat), i + n = l.length → Ev (fun k => qB.l0 k l (i : Int)) (sorted (l.drop i)) := by
 intro n
 induction n with
 | zero =>
  intro i hi
  refine Ev.step (fun k => by rw [qB.l0]) ?_
  rw [w64 ((i : Int) + 1) (by omega) (by omega)]
  refine Ev.neg (by omega) (Ev.val ?_)
  rw [List.drop_eq_nil_of_le (by omega)]; rfl
 | succ n ih =>
  intro i hi
  have h1 : i < l.length := by omega
  have e1 : wrap64 ((i : Int) + 1) = ((i + 1 : Nat) : Int) := by rw [w64 _ (by omega) (by omega)]; omega
  refine Ev.step (fun k => by rw [qB.l0]) ?_
  rw [e1]
  clear e1
  by_cases h2 : i + 1 < l.length
  ·refine Ev.pos (by omega) (Ev.pos (by omega) (Ev.pos (by omega) (Ev.pos (by omega) ?_)))
   rw [rdE h1, rdE h2, sorted_drop l i h2]
   refine Ev.just (RAh_f _ _) ?_
   cases ltE l[i] l[i + 1] with
   | true => exact Ev.pos rfl (Ev.eq (ih (i + 1) (by omega)) (by simp))
   | false => exact Ev.neg (by simp) (Ev.val rfl)
  ·refine Ev.neg (by omega) (Ev.val ?_)
   rw [List.drop_eq_getElem_cons h1, List.drop_eq_nil_of_le (by omega)]; rfl
theorem RRow_ev (l : List ES) (hl : l.length ≤ 1000000) : Ev (fun k => qB.f k l) (sorted l) := by
 unfold qB.f
 exact Ev.eq (rrow_l0 l hl l.length 0 (by omega)) (by simp)
theorem RMay_f (x : ES) : qq1.f x.f0 x.f1 x.f2 x.f3 = some (okE x) := by
 unfold qq1.f okE
 rw [size_bl, size_bl]
 by_cases h0 : ((bl x.f0).length : Int) ≥ 1
 ·rw [if_pos h0]
  by_cases h1 : ((bl x.f0).length : Int) ≤ 100
  ·rw [if_pos h1]
   by_cases h2 : ((bl x.f3).length : Int) ≤ 100
   ·rw [if_pos h2]
    cases hd : x.f2
    ·rw [if_neg (by simp)]
     by_cases h3 : x.f1 ≥ 1
     ·rw [if_pos h3]
      congr 1; rw [Bool.eq_iff_iff]; simp only [decide_eq_true_eq]
      exact ⟨fun h4 => ⟨by omega, by omega, by omega, by simp, by omega, h4⟩, fun h4 => h4.2.2.2.2.2⟩
     ·rw [if_neg h3]
      congr 1; symm; rw [decide_eq_false_iff_not]; intro h4; omega
    ·rw [if_pos rfl]
     by_cases h5 : ((bl x.f3).length : Int) = 0
     ·rw [if_pos h5]
      have h6 : bl x.f3 = [] := List.length_eq_zero_iff.1 (by omega)
      by_cases h3 : x.f1 ≥ 1
      ·rw [if_pos h3]
       congr 1; rw [Bool.eq_iff_iff]; simp only [decide_eq_true_eq]
       exact ⟨fun h4 => ⟨by omega, by omega, by omega, fun _ => h6, by omega, h4⟩, fun h4 => h4.2.2.2.2.2⟩
      ·rw [if_neg h3]
       congr 1; symm; rw [decide_eq_false_iff_not]; intro h4; omega
     ·rw [if_neg h5]
      congr 1; symm; rw [decide_eq_false_iff_not]; intro h4
      have := h4.2.2.2.1 rfl
      rw [this] at h5; simp at h5
   ·rw [if_neg h2]
    congr 1; symm; rw [decide_eq_false_iff_not]; intro h3; omega
  ·rw [if_neg h1]
   congr 1; symm; rw [decide_eq_false_iff_not]; intro h3; omega
 ·rw [if_neg h0]
  congr 1; symm; rw [decide_eq_false_iff_not]; intro h3; omega
theorem RSh_ev {n : Int} (h : u64 n) : Ev (fun k => qt.f k n) (lb (sh n)) := by
 obtain ⟨m, rfl⟩ := Int.eq_ofNat_of_zero_le h.1
 exact RShort_ev m (by have := h.2; omega)
theorem RText_ev (s : List UInt8) (h : s.length ≤ 1000000) : Ev (fun k => qT.f k (lb s)) (lb (short s.length ++ s)) := by
 unfold qT.f
 rw [lb_size, wu_nat _ (by omega)]
 have h4 := short_len10 s.length (by omega)
 exact Ev.bind (RShort_ev _ (by omega)) (Ev.pos (by rw [lb_size]; omega) (Ev.val (by rw [lb_append])))
theorem renc_l0 (L : List ES) (hL : L.length ≤ 32) : ∀ (n i : Nat) (acc : List UInt8) (st : List UInt8), i + n = L.length → acc.length ≤ 300 * i → st.length ≤ 8 * i →
  Ev (fun k => qg.l0 k L (lb acc) (lb st) (i : Int)) (if (L.drop i).all okE = true then (lb (acc ++ bodyB i (prev L i) (L.drop i) ++ (st ++ (startsB i acc.length (prev L i) (L.drop i)).flatMap long) ++ long L.length), 0) else (lb [], 2)) := by
 intro n
 induction n with
 | zero =>
  intro i acc st hi ha hs
  rw [List.drop_eq_nil_of_le (show L.length ≤ i by omega)]
  refine Ev.step (fun k => by rw [qg.l0]) ?_
  refine Ev.neg (by omega) (Ev.pos (by rw [lb_size, lb_size]; omega) ?_)
  rw [wu_nat _ (by omega)]
  refine Ev.bind (RLong_ev _ (by omega)) ?_
  rw [lb_append]
  refine Ev.pos (by rw [lb_size, lb_size, List.length_append, long_len]; omega) (Ev.val ?_)
  rw [lb_append]
  simp [bodyB, startsB]
 | succ n ih =>
  intro i acc st hi ha hs
  have h1 : i < L.length := by omega
  have e1 : wrap64 ((i : Int) + 1) = ((i + 1 : Nat) : Int) := by rw [w64 _ (by omega) (by omega)]; omega
  have et : Int.tmod (i : Int) 4 = ((i % 4 : Nat) : Int) := by clear e1; rw [Int.tmod_eq_emod_of_nonneg (by omega)]; omega
  rw [List.drop_eq_getElem_cons h1]
  generalize hx : L[i] = x
  have hp : prev L (i + 1) = bl x.f0 := by rw [prev_succ h1, hx]
  refine Ev.step (fun k => by rw [qg.l0]) ?_
  refine Ev.pos (by omega) (Ev.pos (by omega) ?_)
  rw [rdE h1, hx, et]
  refine Ev.just (RMay_f x) ?_
  rw [List.all_cons]
  cases hok : okE x with
  | false => exact Ev.neg (by simp) (Ev.val (by simp [lb_nil]))
  | true =>
   rw [Bool.true_and]
   refine Ev.pos rfl ?_
   have ho := okE_iff hok
   have hu := okE_u hok
   have l4 := sh_len hu
   -- the entry's bytes, whatever is shared
   have ent : ∀ (st' : List UInt8), st'.length ≤ 8 * (i + 1) → st' ++ (startsB (i + 1) (acc ++ entB (shB i (prev L i) x) x).length (bl x.f0) (L.drop (i + 1))).flatMap long = st ++ (startsB i acc.length (prev L i) (x :: L.drop (i + 1))).flatMap long →
     Ev (fun k => qg.j2 k L (lb acc) (lb st') (i : Int) ((shB i (prev L i) x : Nat) : Int) x.f0 x.f1 x.f2 x.f3) (if (L.drop (i + 1)).all okE = true then (lb (acc ++ bodyB i (prev L i) (x :: L.drop (i + 1)) ++ (st ++ (startsB i acc.length (prev L i) (x :: L.drop (i + 1))).flatMap long) ++ long L.length), 0) else (lb [], 2)) := by
    intro st' hst' heq
    have hn := shB_le i (prev L i) x
    have hel := entB_len hok hn
    have hI := ih (i + 1) (acc ++ entB (shB i (prev L i) x) x) st' (by omega) (by rw [List.length_append]; omega) (by omega)
    rw [hp, heq] at hI
    have hI2 : Ev (fun k => qg.l0 k L (lb (acc ++ entB (shB i (prev L i) x) x)) (lb st') ((i + 1 : Nat) : Int)) (if (L.drop (i + 1)).all okE = true then (lb (acc ++ bodyB i (prev L i) (x :: L.drop (i + 1)) ++ (st ++ (startsB i acc.length (prev L i) (x :: L.drop (i + 1))).flatMap long) ++ long L.length), 0) else (lb [], 2)) := by
     refine Ev.eq hI ?_
     simp [bodyB]
    clear hI ih
    generalize hm : shB i (prev L i) x = m at hn hel hI2 ⊢
    have l2 := short_len10 m (by omega)
    have l3 := short_len10 ((bl x.f0).drop m).length (by rw [List.length_drop]; omega)
    have l5 := short_len10 (bl x.f3).length (by omega)
    have e4 : x.f0.extract ((m : Int)).toNat x.f0.size = lb ((bl x.f0).drop m) := by
     have : x.f0 = lb (bl x.f0) := (lb_bl x.f0).symm
     rw [this, lb_extract, lb_size, bl_lb, Int.toNat_natCast, List.take_length]
    have j3 : ∀ c : UInt8, (if x.f2 = true then (1 : UInt8) else 0) = c → Ev (fun k => qg.j3 k L (lb acc) (lb st') (i : Int) (m : Int) (lb [c]) x.f0 x.f1 x.f2 x.f3) (if (L.drop (i + 1)).all okE = true then (lb (acc ++ bodyB i (prev L i) (x :: L.drop (i + 1)) ++ (st ++ (startsB i acc.length (prev L i) (x :: L.drop (i + 1))).flatMap long) ++ long L.length), 0) else (lb [], 2)) := by
     intro c hc
     have hE : entB m x = short m ++ (short ((bl x.f0).drop m).length ++ (bl x.f0).drop m) ++ sh x.f1 ++ [c] ++ (short (bl x.f3).length ++ bl x.f3) := by
      unfold entB; rw [hc, List.length_drop]; simp
     refine Ev.step (fun k => by rw [qg.j3]) ?_
     rw [e1, wu_nat m (by omega)]
     clear e1 et
     refine Ev.bind (RShort_ev m (by omega)) (Ev.pos (by omega) (Ev.pos (by rw [size_bl]; omega) ?_))
     rw [e4]
     have ht := RText_ev (bl x.f3) (by omega)
     rw [lb_bl] at ht
     have hld : ((bl x.f0).drop m).length ≤ 100 := by rw [List.length_drop]; omega
     generalize hd : (bl x.f0).drop m = d at hE l3 hld
     refine Ev.bind (RText_ev d (by omega)) (Ev.pos (by simp only [lb_size, List.length_append]; omega) (Ev.bind (RSh_ev hu) ?_))
     simp only [lb_append]
     refine Ev.pos (by simp only [lb_size, List.length_append]; omega) (Ev.pos (by simp only [lb_size, List.length_append, List.length_cons, List.length_nil]; omega) (Ev.bind ht ?_))
     simp only [lb_append]
     refine Ev.pos (by simp only [lb_size, List.length_append, List.length_cons, List.length_nil]; omega) (Ev.pos (by simp only [lb_size, List.length_append, List.length_cons, List.length_nil]; omega) ?_)
     rw [hE] at hI2
     exact hI2
    refine Ev.step (fun k => by rw [qg.j2]) ?_
    by_cases h2 : x.f2 = true
    ·exact Ev.pos h2 (j3 1 (by rw [if_pos h2]))
    ·exact Ev.neg h2 (j3 0 (by rw [if_neg h2]))
   clear ih
   by_cases hm : i % 4 = 0
   ·have hsh : shB i (prev L i) x = 0 := by unfold shB; rw [if_pos hm]
    have hst : startsB i acc.length (prev L i) (x :: L.drop (i + 1)) = acc.length :: startsB (i + 1) (acc ++ entB (shB i (prev L i) x) x).length (bl x.f0) (L.drop (i + 1)) := by
     rw [startsB, if_pos hm, List.length_append]; rfl
    have hE := ent (st ++ long acc.length) (by rw [List.length_append, long_len]; omega) (by rw [hst]; simp)
    rw [hsh] at hE
    refine Ev.pos (by rw [hm]; rfl) ?_
    rw [lb_size, wu_nat _ (by omega)]
    refine Ev.bind (RLong_ev _ (by omega)) (Ev.pos (by rw [lb_size, lb_size, long_len]; omega) ?_)
    rw [lb_append]
    exact hE
   ·have hst : startsB i acc.length (prev L i) (x :: L.drop (i + 1)) = startsB (i + 1) (acc ++ entB (shB i (prev L i) x) x).length (bl x.f0) (L.drop (i + 1)) := by
     rw [startsB, if_neg hm, List.length_append]; rfl
    have hE := ent st (by omega) (by rw [hst])
    refine Ev.neg (by omega) ?_
    clear e1 et
    obtain ⟨j, rfl⟩ : ∃ j, i = j + 1 := ⟨i - 1, by omega⟩
    have h5 : j < L.length := by omega
    have e4 : wrap64 (((j + 1 : Nat) : Int) - 1) = (j : Int) := by rw [w64 _ (by omega) (by omega)]; omega
    rw [e4]
    clear e4
    refine Ev.pos (by omega) (Ev.pos (by omega) ?_)
    rw [rdE h5]
    have hq := prev_succ h5
    have hsh : shB (j + 1) (prev L (j + 1)) x = comm (bl L[j].f0) (bl x.f0) := by unfold shB; rw [if_neg hm, hq]
    have hs2 := RShared_ev (bl L[j].f0) (bl x.f0) (by omega)
    rw [lb_bl, lb_bl] at hs2
    rw [hsh] at hE
    exact Ev.bind hs2 hE
theorem REncode_ev (l : List ES) (hl : l.length ≤ 1000000) : Ev (fun k => qg.f k l) (encr l) := by
 unfold qg.f
 have bad : rowB l = false → Ev (fun k => qg.j0 k l true) (encr l) := by
  intro h
  refine Ev.step (fun k => by rw [qg.j0]) ?_
  refine Ev.pos rfl (Ev.val ?_)
  unfold encr; rw [h]; rfl
 have nope : ¬ (1 ≤ l.length ∧ l.length ≤ 32) → rowB l = false := by
  intro h; unfold rowB; rw [decide_eq_false h]; rfl
 by_cases h1 : (l.length : Int) < 1
 ·exact Ev.pos h1 (bad (nope (by omega)))
 refine Ev.neg h1 ?_
 by_cases h2 : (l.length : Int) > 32
 ·exact Ev.pos h2 (bad (nope (by omega)))
 refine Ev.neg h2 (Ev.bind (RRow_ev l hl) ?_)
 cases hs : sorted l with
 | false => exact bad (by unfold rowB; rw [hs]; simp)
 | true =>
  refine Ev.step (fun k => by rw [qg.j0]) ?_
  refine Ev.neg (by simp) (Ev.eq (renc_l0 l (by omega) l.length 0 [] [] (by omega) (by simp) (by simp)) ?_)
  unfold encr rowB encB
  rw [hs, decide_eq_true (show 1 ≤ l.length ∧ l.length ≤ 32 from ⟨by omega, by omega⟩)]
  simp [prev]

theorem RCount_ev (s : List UInt8) (hs : s.length ≤ 100000000) : Ev (fun k => qM.f k (lb s)) ((cntB s : Nat) : Int) := by
 unfold qM.f
 rw [lb_size]
 by_cases h : s.length < 8
 ·refine Ev.pos (by omega) (Ev.val ?_)
  unfold cntB; rw [if_pos h]; rfl
 ·have e1 : wrap64 ((s.length : Int) - 8) = ((s.length - 8 : Nat) : Int) := by rw [w64 _ (by omega) (by omega)]; omega
  rw [e1]
  refine Ev.neg (by omega) (Ev.pos (by omega) (Ev.pos (by omega) ?_))
  rw [Int.toNat_natCast, lb_extract, List.take_length]
  refine Ev.bind (RUnlong_ev _) ?_
  have hl : (s.drop (s.length - 8)).length = 8 := by rw [List.length_drop]; omega
  unfold ures
  rw [if_pos hl]
  clear e1
  have hb := be_lt8 _ hl
  unfold cntB
  rw [if_neg h]
  generalize be 0 (s.drop (s.length - 8)) = b at hb ⊢
  by_cases h1 : b < 1
  ·rw [if_pos (Or.inl h1)]
   exact Ev.pos (by omega) (Ev.val rfl)
  ·refine Ev.neg (by omega) ?_
   by_cases h2 : b > 32
   ·rw [if_pos (Or.inr h2)]
    exact Ev.pos (by omega) (Ev.val rfl)
   ·refine Ev.neg (by omega) (Ev.val ?_)
    rw [if_neg (by omega), w64 _ (by omega) (by omega)]
def tkn (s : List UInt8) : Option (List UInt8 × List UInt8) := match tk s with
 | none => none
 | some (n, r) => if n > r.length then none else some (r.take n, r.drop n)
def knres : Option (List UInt8 × List UInt8) → ByteArray × ByteArray × Bool
 | none => (lb [], lb [], false)
 | some (a, b) => (lb a, lb b, true)
theorem tk_le {s r : List UInt8} {n : Nat} (h : tk s = some (n, r)) : r.length ≤ s.length ∧ n < 18446744073709551616 := by
 have := (tk_iff s r n).1 h
 rw [this.2, List.length_append]
 exact ⟨by omega, this.1⟩
theorem tkn_le {s a b : List UInt8} (h : tkn s = some (a, b)) : a.length + b.length ≤ s.length := by
 unfold tkn at h
 cases e : tk s with
 | none => rw [e] at h; cases h
 | some nr =>
  obtain ⟨n, r⟩ := nr
  rw [e] at h
  have := tk_le e
  simp only at h
  split at h
  ·cases h
  ·cases h; rw [List.length_take, List.length_drop]; omega
theorem tkn_app (a b : List UInt8) (h : a.length < 18446744073709551616) : tkn (short a.length ++ (a ++ b)) = some (a, b) := by
 unfold tkn
 rw [tk_short _ _ h]
 simp
theorem Rtaken_ev (s : List UInt8) (hs : s.length ≤ 100000000) : Ev (fun k => qb1.f k (lb s)) (knres (tkn s)) := by
 unfold qb1.f tkn
 refine Ev.bind (RTake_ev s (by omega)) ?_
 cases e : tk s with
 | none => exact Ev.neg (by simp [tres]) (Ev.val rfl)
 | some nr =>
  obtain ⟨n, r⟩ := nr
  have h := tk_le e
  refine Ev.pos rfl ?_
  simp only [tres, lb_size]
  rw [wu_nat r.length (by omega)]
  by_cases h1 : n > r.length
  ·rw [if_pos h1]
   exact Ev.pos (by omega) (Ev.val rfl)
  ·rw [if_neg h1]
   rw [w64 (n : Int) (by omega) (by omega)]
   refine Ev.neg (by omega) (Ev.pos (by omega) (Ev.pos (by omega) (Ev.val ?_)))
   rw [Int.toNat_natCast, lb_extract, lb_extract, List.take_length, List.drop_zero]
   rfl
def rstep (s key : List UInt8) : Option (ES × List UInt8) := match tk s with
 | none => none
 | some (n, more) => if n > key.length then none else match tkn more with
  | none => none
  | some (text, behind) => match tk behind with
   | none => none
   | some (seq, after) => match after with
    | [] => none
    | c :: rest => match tkn rest with
     | none => none
     | some (value, last) => some (⟨lb (key.take n ++ text), (seq : Int), ((c.toNat : Int) == 1), lb value⟩, last)
def rgo : Nat → List UInt8 → List UInt8 → List ES → Option (List ES)
 | 0, _, _, acc => some acc
 | m + 1, s, key, acc => match rstep s key with
  | none => none
  | some (x, r) => rgo m r (bl x.f0) (acc ++ [x])
def rfin (s : List UInt8) : Option (List ES) → List ES × Int
 | none => ([], 2)
 | some l => if (encr l).2 = 0 then (if (encr l).1.toList = s then (l, 0) else ([], 2)) else ([], 2)
theorem rgo_ev (s : List UInt8) (hs : s.length ≤ 1000000) : ∀ (m i : Nat) (rest key : List UInt8) (acc : List ES), i + m = cntB s → acc.length ≤ i → rest.length + key.length ≤ 1000000 →
  Ev (fun k => qq.l0 k (lb s) (lb rest) acc (lb key) (i : Int)) (rfin s (rgo m rest key acc)) := by
 have hc := cntB_le s
 intro m
 induction m with
 | zero =>
  intro i rest key acc hi ha hr
  refine Ev.step (fun k => by rw [qq.l0]) ?_
  refine Ev.bind (RCount_ev s (by omega)) (Ev.neg (by omega) (Ev.bind (REncode_ev acc (by omega)) ?_))
  simp only [rgo, rfin, lb_toList]
  by_cases h1 : (encr acc).2 = 0
  ·refine Ev.pos h1 ?_
   rw [if_pos h1]
   by_cases h2 : (encr acc).1.toList = s
   ·exact Ev.pos h2 (Ev.val (by rw [if_pos h2]))
   ·exact Ev.neg h2 (Ev.val (by rw [if_neg h2]))
  ·exact Ev.neg h1 (Ev.val (by rw [if_neg h1]))
 | succ m ih =>
  intro i rest key acc hi ha hr
  have e1 : wrap64 ((i : Int) + 1) = ((i + 1 : Nat) : Int) := by rw [w64 _ (by omega) (by omega)]; omega
  have bad1 : ∀ (a : Int) (b : ByteArray), Ev (fun k => qq.j1 k (lb s) acc (lb key) (i : Int) a b true) (([], 2) : List ES × Int) := by
   intro a b
   refine Ev.step (fun k => by rw [qq.j1]) ?_
   exact Ev.pos rfl (Ev.val rfl)
  have bad2 : ∀ (k2 : ByteArray) (a : Int) (b : ByteArray), Ev (fun k => qq.j2 k (lb s) acc k2 (i : Int) a b true) (([], 2) : List ES × Int) := by
   intro k2 a b
   refine Ev.step (fun k => by rw [qq.j2]) ?_
   exact Ev.pos rfl (Ev.val rfl)
  refine Ev.step (fun k => by rw [qq.l0]) ?_
  refine Ev.bind (RCount_ev s (by omega)) (Ev.pos (by clear e1; omega) (Ev.bind (RTake_ev rest (by clear e1; omega)) ?_))
  rw [rgo, rstep]
  cases t1 : tk rest with
  | none => exact Ev.neg (by simp [tres]) (bad1 _ _)
  | some nm =>
   obtain ⟨n, more⟩ := nm
   have l1 := tk_le t1
   refine Ev.pos rfl ?_
   simp only [tres, lb_size]
   rw [wu_nat key.length (by clear e1; omega)]
   by_cases h1 : n > key.length
   ·rw [if_pos h1, decide_eq_true (show (n : Int) > (key.length : Int) by clear e1; omega)]
    exact bad1 _ _
   rw [if_neg h1, decide_eq_false (show ¬ (n : Int) > (key.length : Int) by clear e1; omega)]
   refine Ev.step (fun k => by rw [qq.j1]) ?_
   refine Ev.neg (by simp) (Ev.bind (Rtaken_ev more (by clear e1; omega)) ?_)
   cases t2 : tkn more with
   | none => exact Ev.neg (by simp [knres]) (Ev.val rfl)
   | some tb =>
    obtain ⟨text, behind⟩ := tb
    have l2 := tkn_le t2
    refine Ev.pos rfl ?_
    simp only [knres, lb_size]
    rw [w64 (n : Int) (by clear e1; omega) (by clear e1; omega)]
    refine Ev.pos (by clear e1; omega) (Ev.pos (by clear e1; omega) ?_)
    rw [Int.toNat_natCast, lb_extract, List.drop_zero]
    have lk : (key.take n).length ≤ key.length := by rw [List.length_take]; exact Nat.min_le_right _ _
    refine Ev.pos (by rw [lb_size]; clear e1; omega) (Ev.bind (RTake_ev behind (by clear e1; omega)) ?_)
    rw [lb_append]
    cases t3 : tk behind with
    | none => exact Ev.neg (by simp [tres]) (bad2 _ _ _)
    | some sa =>
     obtain ⟨seq, after⟩ := sa
     have l3 := tk_le t3
     refine Ev.pos rfl ?_
     simp only [tres, lb_size]
     cases after with
     | nil => exact bad2 _ _ _
     | cons c r =>
      rw [List.length_cons] at l3
      have hz : ((((c :: r).length : Nat) : Int) == 0) = false := by rw [beq_eq_false_iff_ne, List.length_cons]; clear e1; omega
      rw [hz]
      refine Ev.step (fun k => by rw [qq.j2]) ?_
      simp only [lb_size]
      refine Ev.neg (by simp) (Ev.pos (by rw [List.length_cons]; clear e1; omega) ?_)
      have ex : (lb (c :: r)).extract 1 (c :: r).length = lb r := by rw [lb_extract, List.take_length]; rfl
      rw [ex]
      refine Ev.bind (Rtaken_ev r (by clear e1; omega)) ?_
      cases t4 : tkn r with
      | none => exact Ev.neg (by simp [knres]) (Ev.val rfl)
      | some vl =>
       obtain ⟨value, last⟩ := vl
       have l4 := tkn_le t4
       refine Ev.pos rfl (Ev.pos (by rw [List.length_cons]; clear e1; omega) (Ev.pos (by clear e1; omega) ?_))
       have hb : bt (lb (c :: r)) 0 = (c.toNat : Int) := bt_nat (c :: r) 0 (by simp)
       rw [hb, e1]
       simp only [knres]
       refine Ev.eq (ih (i + 1) last (key.take n ++ text) (acc ++ [(⟨lb (key.take n ++ text), (seq : Int), ((c.toNat : Int) == 1), lb value⟩ : ES)]) (by clear e1; omega) (by rw [List.length_append]; simp; clear e1; omega) (by rw [List.length_append]; clear e1; omega)) ?_
       rw [bl_lb]
theorem rstep_ent (n : Nat) (p : List UInt8) (x : ES) (rest : List UInt8) (h : okE x = true) (hn : n ≤ (bl x.f0).length) (hp : n ≤ p.length) (hk : p.take n = (bl x.f0).take n) : rstep (entB n x ++ rest) p = some (x, rest) := by
 have h1 := okE_iff h
 have hu := okE_u h
 unfold rstep entB
 rw [List.append_assoc, tk_short _ _ (by omega)]
 simp only
 rw [if_neg (by omega), List.append_assoc, List.append_assoc]
 have hd : (bl x.f0).length - n = ((bl x.f0).drop n).length := by rw [List.length_drop]
 rw [hd, tkn_app _ _ (by rw [List.length_drop]; omega)]
 simp only
 rw [List.append_assoc]
 unfold sh
 rw [tk_short _ _ (by omega)]
 simp only [List.cons_append]
 rw [List.append_assoc, tkn_app _ _ (by omega)]
 simp only [Option.some.injEq, Prod.mk.injEq, and_true]
 rw [hk, List.take_append_drop, lb_bl, lb_bl]
 obtain ⟨a, b, c, d⟩ := x
 have : ((b.toNat : Nat) : Int) = b := Int.toNat_of_nonneg hu.1
 cases c <;> simp [this]
theorem rgo_body : ∀ (l : List ES) (i : Nat) (p t : List UInt8) (acc : List ES), (∀ x ∈ l, okE x = true) → rgo l.length (bodyB i p l ++ t) p acc = some (acc ++ l) := by
 intro l
 induction l with
 | nil => intro i p t acc _; simp [rgo]
 | cons x l ih =>
  intro i p t acc h
  have h1 := sh_ok i p x
  rw [List.length_cons, rgo, bodyB, List.append_assoc, rstep_ent _ _ _ _ (h x (by simp)) (shB_le i p x) h1.1 h1.2]
  simp only
  rw [ih (i + 1) (bl x.f0) t _ (fun y hy => h y (by simp [hy]))]
  simp
theorem encr_cases (l : List ES) : (rowB l = true ∧ encr l = (lb (encB l), 0)) ∨ (rowB l = false ∧ encr l = (lb [], 2)) := by
 unfold encr
 by_cases h : rowB l = true
 ·exact Or.inl ⟨h, by rw [if_pos h]⟩
 ·exact Or.inr ⟨by simpa using h, by rw [if_neg h]⟩
theorem rfin_decr (s : List UInt8) : rfin s (rgo (cntB s) s [] []) = decr s := by
 obtain ⟨d, hd⟩ : ∃ d, decr s = d := ⟨_, rfl⟩
 obtain ⟨l, e⟩ := d
 rcases decr_ok hd with ⟨rfl, hr, rfl⟩ | ⟨rfl, rfl⟩
 ·rw [hd, cnt_enc (rowB_len hr)]
  have : rgo l.length (encB l) [] [] = some l := by
   unfold encB
   rw [List.append_assoc, rgo_body l 0 [] _ [] (rowB_all hr)]
   simp
  rw [this]
  unfold rfin encr
  simp [hr, lb_toList]
 ·rw [hd]
  cases hg : rgo (cntB s) s [] [] with
  | none => rfl
  | some l =>
   unfold rfin
   simp only
   by_cases h1 : (encr l).2 = 0
   ·rw [if_pos h1]
    by_cases h2 : (encr l).1.toList = s
    ·exfalso
     rcases encr_cases l with ⟨hr, e3⟩ | ⟨_, e3⟩
     ·rw [e3, lb_toList] at h2
      rw [← h2, decr_enc hr] at hd
      cases hd
     ·rw [e3] at h1; simp at h1
    ·rw [if_neg h2]
   ·rw [if_neg h1]
theorem RDecode_ev (s : List UInt8) (hs : s.length ≤ 1000000) : Ev (fun k => qq.f k (lb s)) (decr s) := by
 unfold qq.f
 exact Ev.eq (rgo_ev s hs (cntB s) 0 s [] [] (by omega) (by simp) (by simp; omega)) (rfin_decr s)
theorem RAhead_f (x : ES) (key : List UInt8) (seq : Int) : qc1.f x.f0 x.f1 (lb key) seq = some (ahB x key seq) := by
 have := RAh_f x ⟨lb key, seq, false, lb []⟩
 rw [ah_lt]; exact this
end Go.Proofs.Ytgdkikkjaofbfaa.BlkS
namespace Go.Proofs.Ytgdkikkjaofbfaa.TabS
open Go.RowKit Go.Proofs.Ytgdkikkjaofbfaa.P Go.Proofs.Ytgdkikkjaofbfaa.Th Go.Proofs.Ytgdkikkjaofbfaa.NumS Go.Proofs.Ytgdkikkjaofbfaa.BlkS Go.Proofs.Ytgdkikkjaofbfaa.BloomS Go.Proofs.YtgdkikkjaofbfaaW.PrintWords Go.Proofs.YtgdkikkjaofbfaaW.PrintLast Go.Proofs.YtgdkikkjaofbfaaW.PrintMore

abbrev HS := S80
theorem sorted_app : ∀ (a b : List ES), sorted (a ++ b) = true → sorted a = true ∧ sorted b = true
 | [], b, h => ⟨rfl, h⟩
 | [x], [], h => ⟨rfl, rfl⟩
 | [x], y :: b, h => by
  simp only [List.cons_append, List.nil_append, sorted, Bool.and_eq_true] at h
  exact ⟨rfl, h.2⟩
 | x :: y :: a, b, h => by
  simp only [List.cons_append, sorted, Bool.and_eq_true] at h
  have := sorted_app (y :: a) b (by simpa using h.2)
  exact ⟨by simp only [sorted, Bool.and_eq_true]; exact ⟨h.1, this.1⟩, this.2⟩
def chs : Nat → List ES → List (List ES)
 | 0, _ => []
 | n + 1, l => if l.length = 0 then [] else l.take 8 :: chs n (l.drop 8)
theorem chs_eq : ∀ (n m : Nat) (l : List ES), l.length ≤ n → l.length ≤ m → chs n l = chs m l := by
 intro n
 induction n with
 | zero =>
  intro m l h1 h2
  cases m with
  | zero => rfl
  | succ m => simp only [chs]; rw [if_pos (by omega)]
 | succ n ih =>
  intro m l h1 h2
  cases m with
  | zero => simp only [chs]; rw [if_pos (by omega)]
  | succ m =>
   simp only [chs]
   by_cases h : l.length = 0
   ·rw [if_pos h, if_pos h]
   ·rw [if_neg h, if_neg h, ih m _ (by rw [List.length_drop]; omega) (by rw [List.length_drop]; omega)]
def cks (l : List ES) : List (List ES) := chs l.length l
theorem cks_nil : cks [] = [] := rfl
theorem cks_step {l : List ES} (h : 0 < l.length) : cks l = l.take 8 :: cks (l.drop 8) := by
 unfold cks
 obtain ⟨n, hn⟩ : ∃ n, l.length = n + 1 := ⟨l.length - 1, by omega⟩
 conv => lhs; rw [hn]; simp only [chs]
 rw [if_neg (by omega), chs_eq n (l.drop 8).length _ (by rw [List.length_drop]; omega) (Nat.le_refl _)]
def lastE (c : List ES) : ES := rd_T37 c ((c.length - 1 : Nat) : Int)
def blk (cs : List (List ES)) : List UInt8 := cs.flatMap encB
def hnd : Nat → List (List ES) → List HS
 | _, [] => []
 | o, c :: cs => ⟨(lastE c).f0, (lastE c).f1, (o : Int), ((encB c).length : Int)⟩ :: hnd (o + (encB c).length) cs
theorem tw (acc s : List UInt8) (h1 : acc.length ≤ 1000000000) (h2 : s.length ≤ 1000000000) : qh.wr acc (lb s) = some (acc ++ s) := by
 unfold qh.wr
 rw [if_pos (by rw [lb_size]; omega), bl_lb]
theorem all_app (a b : List ES) (f : ES → Bool) : (a ++ b).all f = (a.all f && b.all f) := by simp
theorem rowB_take {l : List ES} (h : 0 < l.length) (hs : sorted l = true) : rowB (l.take 8) = (l.take 8).all okE := by
 have h1 : sorted (l.take 8) = true := (sorted_app (l.take 8) (l.drop 8) (by rw [List.take_append_drop]; exact hs)).1
 unfold rowB
 rw [h1, decide_eq_true (by rw [List.length_take]; omega)]; simp
theorem sorted_drop8 {l : List ES} (hs : sorted l = true) : sorted (l.drop 8) = true := (sorted_app (l.take 8) (l.drop 8) (by rw [List.take_append_drop]; exact hs)).2
theorem all_take (l : List ES) : l.all okE = ((l.take 8).all okE && (l.drop 8).all okE) := by
 rw [← all_app, List.take_append_drop]
theorem lastE_take {l : List ES} (h : 0 < l.length) : rd_T37 l ((min l.length 8 - 1 : Nat) : Int) = lastE (l.take 8) := by
 unfold lastE
 rw [List.length_take, Nat.min_comm 8, rdE (by omega), rdE (by rw [List.length_take]; omega)]
 simp
theorem bk_ev : ∀ (n : Nat) (l : List ES) (acc : List UInt8) (hs : List HS), l.length < n → l.length ≤ 500 → acc.length + 10000 * l.length ≤ 100000000 → sorted l = true →
  (l.all okE = true → Ev (fun k => qh.bk k n l acc hs) (acc ++ blk (cks l), hs ++ hnd acc.length (cks l), 0)) ∧ (l.all okE = false → ∃ a, Ev (fun k => qh.bk k n l acc hs) (a, [], 2)) := by
 intro n
 induction n with
 | zero => intro l acc hs h; omega
 | succ n ih =>
  intro l acc hs h1 h2 h3 h4
  simp only [qh.bk]
  by_cases h0 : l.length = 0
  ·obtain rfl := List.length_eq_zero_iff.1 h0
   refine ⟨fun _ => Ev.pos rfl (Ev.val ?_), fun h => by simp at h⟩
   rw [cks_nil]; simp [blk, hnd]
  have hp : 0 < l.length := by omega
  have et : l.take (min l.length 8) = l.take 8 := by
   rw [Nat.min_comm, ← List.take_take, List.take_length]
  have ed : l.drop (min l.length 8) = l.drop 8 := by
   by_cases h8 : 8 ≤ l.length
   ·rw [Nat.min_eq_right h8]
   ·rw [List.drop_eq_nil_of_le (by omega), List.drop_eq_nil_of_le (by omega)]
  rw [et, ed, lastE_take hp, cks_step hp, all_take l]
  have hen := Encode_ev (l.take 8) (by rw [List.length_take]; omega)
  have hrb := rowB_take hp h4
  unfold encr at hen
  have hl8 : (l.take 8).length ≤ l.length := by rw [List.length_take]; omega
  cases hok : (l.take 8).all okE with
  | false =>
   rw [hok] at hrb
   rw [if_neg (by rw [hrb]; simp)] at hen
   refine ⟨fun h => by simp at h, fun _ => ⟨acc, Ev.neg h0 (Ev.bind hen (Ev.pos (by simp) (Ev.val rfl)))⟩⟩
  | true =>
   rw [hok] at hrb
   rw [if_pos hrb] at hen
   have hb := encB_len hrb
   have hw : qh.wr acc (lb (encB (l.take 8))) = some (acc ++ encB (l.take 8)) := tw _ _ (by omega) (by omega)
   have := ih (l.drop 8) (acc ++ encB (l.take 8)) (hs ++ [⟨(lastE (l.take 8)).f0, (lastE (l.take 8)).f1, (acc.length : Int), ((encB (l.take 8)).length : Int)⟩]) (by rw [List.length_drop]; omega) (by rw [List.length_drop]; omega) (by rw [List.length_drop, List.length_append]; omega) (sorted_drop8 h4)
   have hz : ((lb (encB (l.take 8))).size : Int) = ((encB (l.take 8)).length : Int) := by rw [lb_size]
   rw [Bool.true_and]
   refine ⟨fun h => ?_, fun h => ?_⟩
   ·refine Ev.neg h0 (Ev.bind hen (Ev.neg (by simp) ?_))
    refine Ev.just hw ?_
    simp only [lb_size]
    refine Ev.eq (this.1 h) ?_
    simp [blk, hnd]
   ·obtain ⟨a, ha⟩ := this.2 h
    refine ⟨a, Ev.neg h0 (Ev.bind hen (Ev.neg (by simp) (Ev.just hw ?_)))⟩
    simp only [lb_size]
    exact ha
def idxE (x : HS) : List UInt8 := short (bl x.f0).length ++ (bl x.f0 ++ (sh x.f1 ++ (sh x.f2 ++ sh x.f3)))
def idxB (l : List HS) : List UInt8 := short l.length ++ l.flatMap idxE
def okH (x : HS) : Prop := (bl x.f0).length ≤ 100 ∧ (0 ≤ x.f1 ∧ x.f1 ≤ 1099511627776) ∧ (0 ≤ x.f2 ∧ x.f2 ≤ 100000000) ∧ (0 ≤ x.f3 ∧ x.f3 ≤ 100000000)
theorem idxE_len {x : HS} (h : okH x) : (idxE x).length ≤ 140 := by
 obtain ⟨h1, h2, h3, h4⟩ := h
 have a := short_len10 (bl x.f0).length (by omega)
 have b := sh_len (n := x.f1) ⟨by omega, by omega⟩
 have c := sh_len (n := x.f2) ⟨by omega, by omega⟩
 have d := sh_len (n := x.f3) ⟨by omega, by omega⟩
 simp only [idxE, List.length_append]; omega
theorem ish_ev {n : Int} (acc : List UInt8) (h : u64 n) (ha : acc.length ≤ 900000000) : Ev (fun k => qh.sh k acc n) (acc ++ sh n) := by
 have := sh_len h
 exact Ev.bind (Sh_ev h) (Ev.val (tw _ _ (by omega) (by omega)))
theorem ih_ev {x : HS} (h : okH x) (acc : List UInt8) (ha : acc.length ≤ 100000000) : Ev (fun k => qh.ih k acc x) (acc ++ idxE x) := by
 have hl := idxE_len h
 obtain ⟨h1, h2, h3, h4⟩ := h
 have e1 : IntKind.u64.wrap (x.f0.size : Int) = ((bl x.f0).length : Int) := by rw [size_bl]; exact wu_nat _ (by omega)
 have e2 : IntKind.u64.wrap x.f2 = x.f2 := wu_in _ (by omega) (by omega)
 have e3 : IntKind.u64.wrap x.f3 = x.f3 := wu_in _ (by omega) (by omega)
 unfold qh.ih qh.tx
 rw [e1, e2, e3]
 have ek : sh ((bl x.f0).length : Int) = short (bl x.f0).length := by unfold sh; rw [Int.toNat_natCast]
 have hlk := sh_len (n := ((bl x.f0).length : Int)) ⟨by omega, by omega⟩
 have hl1 := sh_len (n := x.f1) ⟨by omega, by omega⟩
 have hl2 := sh_len (n := x.f2) ⟨by omega, by omega⟩
 have hw := tw (acc ++ sh ((bl x.f0).length : Int)) (bl x.f0) (by rw [List.length_append]; omega) (by omega)
 rw [lb_bl] at hw
 refine Ev.bind (Ev.bind (ish_ev acc ⟨by omega, by omega⟩ (by omega)) (Ev.val hw)) ?_
 refine Ev.bind (ish_ev _ ⟨by omega, by omega⟩ (by simp only [List.length_append]; omega)) ?_
 refine Ev.bind (ish_ev _ ⟨by omega, by omega⟩ (by simp only [List.length_append]; omega)) ?_
 refine Ev.eq (ish_ev _ ⟨by omega, by omega⟩ (by simp only [List.length_append]; omega)) ?_
 rw [ek]; simp [idxE]
theorem ix_ev : ∀ (l : List HS) (acc : List UInt8), (∀ x ∈ l, okH x) → acc.length + 140 * l.length ≤ 100000000 → Ev (fun k => qh.ix k l acc) (acc ++ l.flatMap idxE) := by
 intro l
 induction l with
 | nil => intro acc _ _; exact Ev.val (by simp [qh.ix])
 | cons x l ih =>
  intro acc h ha
  have hx := h x (by simp)
  have hl := idxE_len hx
  simp only [qh.ix]
  simp only [List.length_cons] at ha
  refine Ev.bind (ih_ev hx acc (by omega)) ?_
  refine Ev.eq (ih _ (fun y hy => h y (by simp [hy])) (by rw [List.length_append]; omega)) ?_
  simp
theorem index_ev (l : List HS) (h : ∀ x ∈ l, okH x) (hl : l.length ≤ 600) : Ev (fun k => qh.index k l) (idxB l) := by
 unfold qh.index
 have hlk := sh_len (n := (l.length : Int)) ⟨by omega, by omega⟩
 have e : sh (l.length : Int) = short l.length := by unfold sh; rw [Int.toNat_natCast]
 rw [wu_nat _ (by omega)]
 refine Ev.bind (ish_ev [] ⟨by omega, by omega⟩ (by simp)) ?_
 refine Ev.eq (ix_ev l _ h (by simp only [List.nil_append]; omega)) ?_
 rw [e]; simp [idxB]
theorem idxB_len (l : List HS) (h : ∀ x ∈ l, okH x) (hl : l.length ≤ 600) : (idxB l).length ≤ 10 + 140 * l.length := by
 have h1 := short_len10 l.length (by omega)
 have h2 : ∀ (l : List HS), (∀ x ∈ l, okH x) → (l.flatMap idxE).length ≤ 140 * l.length := by
  intro l
  induction l with
  | nil => intro _; simp
  | cons x l ih =>
   intro h
   have := idxE_len (h x (by simp))
   have := ih (fun y hy => h y (by simp [hy]))
   simp only [List.flatMap_cons, List.length_append, List.length_cons]; omega
 have := h2 l h
 simp only [idxB, List.length_append]; omega
def keysF : Option (List UInt8) → List ES → List (List UInt8)
 | _, [] => []
 | p, x :: l => if p = some (bl x.f0) then keysF p l else bl x.f0 :: keysF (some (bl x.f0)) l
theorem keysF_len : ∀ (l : List ES) (p : Option (List UInt8)), (keysF p l).length ≤ l.length := by
 intro l
 induction l with
 | nil => intro p; simp [keysF]
 | cons x l ih =>
  intro p
  simp only [keysF]
  split
  ·have := ih p; simp only [List.length_cons]; omega
  ·have := ih (some (bl x.f0)); simp only [List.length_cons]; omega
theorem keysF_mem : ∀ (l : List ES) (p : Option (List UInt8)), ∀ y ∈ keysF p l, ∃ x ∈ l, bl x.f0 = y := by
 intro l
 induction l with
 | nil => intro p y h; simp [keysF] at h
 | cons x l ih =>
  intro p y h
  simp only [keysF] at h
  split at h
  ·obtain ⟨z, h1, h2⟩ := ih p y h; exact ⟨z, by simp [h1], h2⟩
  ·rcases List.mem_cons.1 h with h | h
   ·exact ⟨x, by simp, h.symm⟩
   ·obtain ⟨z, h1, h2⟩ := ih _ y h; exact ⟨z, by simp [h1], h2⟩
theorem mem_keysF : ∀ (l : List ES) (p : Option (List UInt8)), ∀ x ∈ l, bl x.f0 ∈ keysF p l ∨ p = some (bl x.f0) := by
 intro l
 induction l with
 | nil => intro p x h; simp at h
 | cons z l ih =>
  intro p x h
  simp only [keysF]
  rcases List.mem_cons.1 h with h | h
  ·subst h
   by_cases hp : p = some (bl x.f0)
   ·exact Or.inr hp
   ·rw [if_neg hp]; exact Or.inl (by simp)
  ·by_cases hp : p = some (bl z.f0)
   ·rw [if_pos hp]; exact ih p x h
   ·rw [if_neg hp]
    rcases ih (some (bl z.f0)) x h with h | h
    ·exact Or.inl (by simp [h])
    ·exact Or.inl (by rw [← Option.some.inj h]; simp)
def fltr (l : List ES) : ByteArray := (makeS (keysF none l)).1
theorem filter_l0 (l : List ES) (hl : l.length ≤ 500) (hk : ∀ x ∈ l, (bl x.f0).length ≤ 100) : ∀ (n i : Nat) (ks : List (List UInt8)), i + n = l.length → ks.length ≤ i → (∀ y ∈ ks, y.length ≤ 100) →
  Ev (fun k => qQ.l0 k (ks.map lb) l (l.length : Int) (i : Int)) (makeS (ks ++ keysF ks.getLast? (l.drop i))).1 := by
 intro n
 induction n with
 | zero =>
  intro i ks hi h1 h2
  refine Ev.step (fun k => by rw [qQ.l0]) ?_
  refine Ev.neg (by omega) ?_
  rw [List.drop_eq_nil_of_le (by omega)]
  simp only [keysF, List.append_nil]
  exact Ev.bind (Make_ev ks (fun _ y hy => by have := h2 y hy; omega)) (Ev.val rfl)
 | succ n ih =>
  intro i ks hi h1 h2
  have hlt : i < l.length := by omega
  have hx := hk l[i] (List.getElem_mem hlt)
  have happ : (ks.map lb) ++ [l[i].f0] = (ks ++ [bl l[i].f0]).map lb := by simp [lb_bl]
  have hnext := ih (i + 1) (ks ++ [bl l[i].f0]) (by omega) (by rw [List.length_append, List.length_singleton]; omega) (by
   intro y hy
   rcases List.mem_append.1 hy with h | h
   ·exact h2 y h
   ·rw [List.mem_singleton.1 h]; exact hx)
  rw [List.getLast?_concat, ← happ, List.append_assoc, List.singleton_append] at hnext
  refine Ev.step (fun k => by rw [qQ.l0]) ?_
  refine Ev.pos (by omega) (Ev.pos (by omega) (Ev.pos (by omega) ?_))
  rw [rdE hlt, w64 ((i : Int) + 1) (by omega) (by omega), List.drop_eq_getElem_cons hlt]
  simp only [keysF, List.length_map]
  by_cases h0 : ks.length = 0
  ·obtain rfl := List.length_eq_zero_iff.1 h0
   rw [if_neg (by simp)]
   exact Ev.pos (by simp) (Ev.pos (by simp) hnext)
  ·refine Ev.neg (by omega) ?_
   rw [w64 _ (by omega) (by omega)]
   refine Ev.pos (by omega) (Ev.pos (by omega) ?_)
   have e1 : ((ks.length : Int) - 1) = ((ks.length - 1 : Nat) : Int) := by omega
   have e2 : rdOf ByteArray.empty (ks.map lb) ((ks.length : Int) - 1) = lb (ks[ks.length - 1]'(by omega)) := by
    rw [e1]; simp [rdOf, show ks.length - 1 < ks.length by omega]
   have e3 : ks.getLast? = some (ks[ks.length - 1]'(by omega)) := by
    rw [List.getLast?_eq_getElem?, List.getElem?_eq_getElem (by omega)]
   rw [e2, lb_toList, toL_bl, e3]
   by_cases hq : ks[ks.length - 1]'(by omega) = bl l[i].f0
   ·rw [if_pos (by rw [hq])]
    refine Ev.pos hq ?_
    have := ih (i + 1) ks (by omega) (by omega) h2
    rw [e3] at this
    exact this
   ·rw [if_neg (by intro h; exact hq (Option.some.inj h))]
    exact Ev.neg hq (Ev.pos (by omega) hnext)
theorem filter_ev (l : List ES) (hl : l.length ≤ 500) (hk : ∀ x ∈ l, (bl x.f0).length ≤ 100) : Ev (fun k => qQ.f k l) (fltr l) := by
 have := filter_l0 l hl hk l.length 0 [] (by omega) (by simp) (by simp)
 unfold qQ.f fltr
 simpa using this
theorem fltr_eq (l : List ES) (hl : l.length ≤ 500) : fltr l = lb (filt ((keysF none l).length + 1) (places (keysF none l) (8 * (((keysF none l).length : Int) + 1)))) := by
 have := keysF_len l none
 unfold fltr makeS
 rw [if_neg (by omega)]
theorem fltr_len (l : List ES) (hl : l.length ≤ 500) : (bl (fltr l)).length ≤ 501 := by
 have := keysF_len l none
 rw [fltr_eq l hl, bl_lb, filt_len]
 ·omega
 ·intro p hp
  have e : (8 * (((keysF none l).length : Int) + 1)) = 8 * (((keysF none l).length + 1 : Nat) : Int) := by omega
  rw [e] at hp
  exact places_in _ _ (by omega) p hp
abbrev magic : List UInt8 := [115, 99, 114, 101, 101, 48, 48, 49]
def footB (a b n : Nat) : List UInt8 := long a ++ (long b ++ (long n ++ magic))
def idxL (l : List ES) : List UInt8 := idxB (hnd 0 (cks l))
def bldB (l : List ES) : List UInt8 := blk (cks l) ++ (idxL l ++ (bl (fltr l) ++ footB (idxL l).length (bl (fltr l)).length l.length))
def tabR (l : List ES) : Bool := decide (1 ≤ l.length ∧ l.length ≤ 500) && (sorted l && l.all okE)
def bldr (l : List ES) : ByteArray × Int := if tabR l = true then (lb (bldB l), 0) else (lb [], 2)
theorem cks_facts : ∀ (n : Nat) (l : List ES), l.length ≤ n → sorted l = true → l.all okE = true → (cks l).flatten = l ∧ (∀ c ∈ cks l, rowB c = true ∧ c.length ≤ 8) ∧ (cks l).length = (l.length + 7) / 8 := by
 intro n
 induction n with
 | zero => intro l h _ _; obtain rfl := List.length_eq_zero_iff.1 (by omega : l.length = 0); exact ⟨rfl, by simp [cks_nil], rfl⟩
 | succ n ih =>
  intro l h h2 h3
  by_cases h0 : l.length = 0
  ·obtain rfl := List.length_eq_zero_iff.1 h0; exact ⟨rfl, by simp [cks_nil], rfl⟩
  have hp : 0 < l.length := by omega
  rw [all_take, Bool.and_eq_true] at h3
  have := ih (l.drop 8) (by rw [List.length_drop]; omega) (sorted_drop8 h2) h3.2
  rw [cks_step hp]
  refine ⟨?_, ?_, ?_⟩
  ·rw [List.flatten_cons, this.1, List.take_append_drop]
  ·intro c hc
   rcases List.mem_cons.1 hc with h | h
   ·rw [h]; exact ⟨by rw [rowB_take hp h2]; exact h3.1, by rw [List.length_take]; omega⟩
   ·exact this.2.1 c h
  ·rw [List.length_cons, this.2.2, List.length_drop]; omega
theorem blk_len : ∀ (cs : List (List ES)), (∀ c ∈ cs, rowB c = true) → (blk cs).length ≤ 10000 * cs.length := by
 intro cs
 induction cs with
 | nil => intro _; simp [blk]
 | cons c cs ih =>
  intro h
  have h1 := encB_len (h c (by simp))
  have h2 := ih (fun d hd => h d (by simp [hd]))
  unfold blk at h2 ⊢
  rw [List.flatMap_cons, List.length_append, List.length_cons]; omega
theorem lastE_mem {c : List ES} (h : 0 < c.length) : lastE c ∈ c := by
 unfold lastE
 rw [rdE (by omega)]
 exact List.getElem_mem _
theorem hnd_len : ∀ (cs : List (List ES)) (o : Nat), (hnd o cs).length = cs.length := by
 intro cs
 induction cs with
 | nil => intro o; rfl
 | cons c cs ih => intro o; simp only [hnd, List.length_cons, ih]
theorem hnd_ok : ∀ (cs : List (List ES)) (o : Nat), (∀ c ∈ cs, rowB c = true) → o + 10000 * cs.length ≤ 100000000 → ∀ x ∈ hnd o cs, okH x := by
 intro cs
 induction cs with
 | nil => intro o _ _ x h; simp [hnd] at h
 | cons c cs ih =>
  intro o h ho x hx
  have hc := h c (by simp)
  have h1 := encB_len hc
  have hr := rowB_len hc
  have h2 := okE_iff (rowB_all hc _ (lastE_mem (c := c) (by omega)))
  simp only [List.length_cons] at ho
  simp only [hnd] at hx
  rcases List.mem_cons.1 hx with h3 | h3
  ·subst h3; exact ⟨h2.2.1, ⟨by show 0 ≤ (lastE c).f1; omega, by show (lastE c).f1 ≤ _; omega⟩, ⟨by show (0 : Int) ≤ (o : Int); omega, by show (o : Int) ≤ _; omega⟩, ⟨by show (0 : Int) ≤ ((encB c).length : Int); omega, by show ((encB c).length : Int) ≤ _; omega⟩⟩
  ·exact ih (o + (encB c).length) (fun d hd => h d (by simp [hd])) (by omega) x h3
structure Tab (l : List ES) : Prop where
 len : 1 ≤ l.length ∧ l.length ≤ 500
 srt : sorted l = true
 ok : l.all okE = true
 flat : (cks l).flatten = l
 row : ∀ c ∈ cks l, rowB c = true ∧ c.length ≤ 8
 cnt : (cks l).length = (l.length + 7) / 8
 blkL : (blk (cks l)).length ≤ 630000
 hok : ∀ x ∈ hnd 0 (cks l), okH x
 hcnt : (hnd 0 (cks l)).length = (l.length + 7) / 8
 idxl : (idxL l).length ≤ 9000
 fltl : (bl (fltr l)).length ≤ 501
 key : ∀ x ∈ l, (bl x.f0).length ≤ 100
theorem tab_of {l : List ES} (h : tabR l = true) : Tab l := by
 unfold tabR at h
 simp only [Bool.and_eq_true, decide_eq_true_eq] at h
 obtain ⟨h1, h2, h3⟩ := h
 have hc := cks_facts l.length l (Nat.le_refl _) h2 h3
 have hb := blk_len (cks l) (fun c h => (hc.2.1 c h).1)
 have hh := hnd_ok (cks l) 0 (fun c h => (hc.2.1 c h).1) (by have := hc.2.2; omega)
 have hn := hnd_len (cks l) 0
 have hi := idxB_len (hnd 0 (cks l)) hh (by have := hc.2.2; omega)
 exact ⟨h1, h2, h3, hc.1, hc.2.1, hc.2.2, by have := hc.2.2; omega, hh, by have := hc.2.2; omega, by unfold idxL; have := hc.2.2; omega, fltr_len l h1.2, fun x hx => (okE_iff (List.all_eq_true.1 h3 x hx)).2.1⟩
theorem Build_ev (l : List ES) : Ev (fun k => qh.f k l) (bldr l) := by
 unfold qh.f bldr
 by_cases h0 : l.length = 0 ∨ 500 < l.length
 ·rw [if_neg (by unfold tabR; rw [decide_eq_false (by omega)]; simp)]
  exact Ev.pos h0 (Ev.val rfl)
 refine Ev.neg h0 (Ev.bind (Row_ev l (by omega)) ?_)
 cases hs : sorted l with
 | false =>
  rw [if_neg (by unfold tabR; rw [hs]; simp)]
  exact Ev.neg (by simp) (Ev.val rfl)
 | true =>
  refine Ev.pos rfl ?_
  have hbk := bk_ev (l.length + 1) l [] [] (by omega) (by omega) (by simp only [List.length_nil]; omega) hs
  cases hok : l.all okE with
  | false =>
   obtain ⟨a, ha⟩ := hbk.2 hok
   rw [if_neg (by unfold tabR; rw [hok]; simp)]
   exact Ev.bind ha (Ev.pos (by simp) (Ev.val rfl))
  | true =>
   have ht : tabR l = true := by unfold tabR; rw [hs, hok, decide_eq_true (by omega)]; rfl
   rw [if_pos ht]
   have T := tab_of ht
   have h1 := hbk.1 hok
   simp only [List.nil_append, List.length_nil] at h1
   have hbl := T.blkL
   have hil := T.idxl
   have hfl := T.fltl
   refine Ev.bind h1 (Ev.neg (by simp) ?_)
   refine Ev.bind (index_ev (hnd 0 (cks l)) T.hok (by have := T.hcnt; omega)) ?_
   refine Ev.bind (filter_ev l (by omega) T.key) ?_
   have eF : fltr l = lb (bl (fltr l)) := (lb_bl _).symm
   show Ev (fun k => (qh.wr (blk (cks l)) (lb (idxL l))).bind _) _
   refine Ev.just (tw _ _ (by omega) (by omega)) ?_
   rw [eF]
   refine Ev.just (tw _ _ (by simp only [List.length_append]; omega) (by omega)) ?_
   refine Ev.just (a := lb (long (idxL l).length)) (by show qi1.f (IntKind.u64.wrap ((lb (idxL l)).size : Int)) = _; rw [lb_size, wu_nat _ (by omega), Long_f]) ?_
   refine Ev.just (tw _ _ (by simp only [List.length_append]; omega) (by rw [long_len]; omega)) ?_
   refine Ev.just (a := lb (long (bl (fltr l)).length)) (by rw [lb_size, wu_nat _ (by omega), Long_f]) ?_
   refine Ev.just (tw _ _ (by simp only [List.length_append, long_len]; omega) (by rw [long_len]; omega)) ?_
   refine Ev.just (a := lb (long l.length)) (by rw [wu_nat _ (by omega), Long_f]) ?_
   refine Ev.just (tw _ _ (by simp only [List.length_append, long_len]; omega) (by rw [long_len]; omega)) ?_
   refine Ev.just (tw _ magic (by simp only [List.length_append, long_len]; omega) (by decide)) (Ev.val ?_)
   simp [bldB, footB, bl_lb]

theorem cut8 (l : List ES) (i : Nat) (h : i < l.length) : (l.take (min (i + 8) l.length)).drop i = (l.drop i).take 8 := by
 rw [List.drop_take, List.take_eq_take_iff, List.length_drop]; omega
theorem last8 (l : List ES) (i : Nat) (h : i < l.length) : rd_T37 l ((min (i + 8) l.length - 1 : Nat) : Int) = lastE ((l.drop i).take 8) := by
 unfold lastE
 have e : ((l.drop i).take 8).length = min (i + 8) l.length - i := by rw [List.length_take, List.length_drop]; omega
 rw [rdE (by omega), rdE (by omega)]
 simp only [List.getElem_take, List.getElem_drop]
 congr 1; omega
theorem rdH {l : List HS} {i : Nat} (h : i < l.length) : rd_T80 l (i : Int) = l[i] := by simp [rd_T80, h]
theorem cks_drop : ∀ (j : Nat) (l : List ES), (cks l).drop j = cks (l.drop (8 * j)) := by
 intro j
 induction j with
 | zero => intro l; rfl
 | succ j ih =>
  intro l
  by_cases h : 0 < l.length
  ·rw [cks_step h, List.drop_succ_cons, ih, List.drop_drop, show 8 + 8 * j = 8 * (j + 1) by omega]
  ·obtain rfl := List.length_eq_zero_iff.1 (by omega : l.length = 0)
   simp [cks_nil]
theorem cks_get {l : List ES} {j : Nat} (h : 8 * j < l.length) : (cks l)[j]? = some ((l.drop (8 * j)).take 8) := by
 have : ((cks l).drop j)[0]? = (cks l)[j]? := by rw [List.getElem?_drop]; simp
 rw [← this, cks_drop, cks_step (by rw [List.length_drop]; omega)]
 rfl
theorem hnd_get : ∀ (cs : List (List ES)) (o j : Nat) (c : List ES), cs[j]? = some c → (hnd o cs)[j]? = some ⟨(lastE c).f0, (lastE c).f1, ((o + (blk (cs.take j)).length : Nat) : Int), ((encB c).length : Int)⟩ := by
 intro cs
 induction cs with
 | nil => intro o j c h; simp at h
 | cons d cs ih =>
  intro o j c h
  cases j with
  | zero =>
   simp only [List.getElem?_cons_zero, Option.some.injEq] at h
   subst h
   simp [hnd, blk]
  | succ j =>
   simp only [List.getElem?_cons_succ] at h
   simp only [hnd, List.getElem?_cons_succ]
   rw [ih _ j c h]
   simp only [blk, List.take_succ_cons, List.flatMap_cons, List.length_append]
   rw [show o + (encB d).length + (List.flatMap encB (List.take j cs)).length = o + ((encB d).length + (List.flatMap encB (List.take j cs)).length) by omega]
theorem blk_cut : ∀ (cs : List (List ES)) (j : Nat) (c : List ES) (r : List UInt8), cs[j]? = some c → ((blk cs ++ r).take ((blk (cs.take j)).length + (encB c).length)).drop (blk (cs.take j)).length = encB c ∧ (blk (cs.take j)).length + (encB c).length ≤ (blk cs).length := by
 intro cs
 induction cs with
 | nil => intro j c r h; simp at h
 | cons d cs ih =>
  intro j c r h
  cases j with
  | zero =>
   simp only [List.getElem?_cons_zero, Option.some.injEq] at h
   subst h
   simp [blk, List.take_append_of_le_length]
  | succ j =>
   simp only [List.getElem?_cons_succ] at h
   obtain ⟨h1, h2⟩ := ih j c r h
   have e : blk (d :: cs) = encB d ++ blk cs := rfl
   have e2 : blk ((d :: cs).take (j + 1)) = encB d ++ blk (cs.take j) := rfl
   rw [e, e2]
   simp only [List.length_append]
   refine ⟨?_, by omega⟩
   rw [List.append_assoc, List.take_append, List.drop_append, List.take_of_length_le (l := encB d) (by omega), List.drop_eq_nil_of_le (show (encB d).length ≤ (encB d).length + (blk (cs.take j)).length by omega), List.nil_append]
   rw [show (encB d).length + (blk (cs.take j)).length + (encB c).length - (encB d).length = (blk (cs.take j)).length + (encB c).length by omega]
   rw [show (encB d).length + (blk (cs.take j)).length - (encB d).length = (blk (cs.take j)).length by omega]
   exact h1
def hs (l : List ES) : List HS := hnd 0 (cks l)
theorem hs_len (l : List ES) : (hs l).length = (cks l).length := hnd_len _ _
theorem cks_lt {l : List ES} (T : Tab l) {j : Nat} : j < (cks l).length ↔ 8 * j < l.length := by have := T.cnt; omega
theorem bldB_len {l : List ES} (T : Tab l) : (bldB l).length = (blk (cks l)).length + (idxL l).length + (bl (fltr l)).length + 32 := by
 simp only [bldB, footB, List.length_append, long_len, List.length_cons, List.length_nil]; omega
theorem bldB_le {l : List ES} (T : Tab l) : (bldB l).length ≤ 700000 := by
 rw [bldB_len T]; have := T.blkL; have := T.idxl; have := T.fltl; omega
theorem block_f {l : List ES} (T : Tab l) (F : ByteArray) (n : Int) (j : Nat) (h : 8 * j < l.length) :
  qf1.f (lb (bldB l)) (hs l) F n (j : Int) = some (lb (encB ((l.drop (8 * j)).take 8)), lb (bldB l), F, n) := by
 have hg := cks_get h
 have hh := hnd_get (cks l) 0 j _ hg
 have hc := blk_cut (cks l) j _ (idxL l ++ (bl (fltr l) ++ footB (idxL l).length (bl (fltr l)).length l.length)) hg
 have hj : j < (hs l).length := by rw [hs_len, cks_lt T]; exact h
 have hL := bldB_len T
 have hLe := bldB_le T
 obtain ⟨c, hcc⟩ : ∃ c, (l.drop (8 * j)).take 8 = c := ⟨_, rfl⟩
 rw [hcc] at hg hh hc ⊢
 obtain ⟨o, ho⟩ : ∃ o, (blk ((cks l).take j)).length = o := ⟨_, rfl⟩
 rw [ho] at hh hc
 have e1 : rd_T80 (hs l) (j : Int) = ⟨(lastE c).f0, (lastE c).f1, ((0 + o : Nat) : Int), ((encB c).length : Int)⟩ := by
  rw [rdH hj]
  change (hs l)[j]? = _ at hh
  rw [List.getElem?_eq_getElem hj] at hh
  exact Option.some.inj hh
 unfold qf1.f
 rw [e1]
 simp only
 rw [w64 _ (by omega) (by omega)]
 rw [if_pos (by omega), if_pos (by omega), if_pos (by omega), if_pos (by omega), if_pos (by rw [lb_size]; omega), lb_extract]
 rw [show (((0 + o : Nat) : Int)).toNat = o by omega, show (((0 + o : Nat) : Int) + ((encB c).length : Int)).toNat = o + (encB c).length by omega]
 have := hc.1
 unfold bldB
 rw [this]
theorem row8 {l : List ES} (T : Tab l) {j : Nat} (h : 8 * j < l.length) : rowB ((l.drop (8 * j)).take 8) = true := (T.row _ (List.mem_of_getElem? (cks_get h))).1
theorem from_l0 {l : List ES} (T : Tab l) (F : ByteArray) (N : Int) : ∀ (n j : Nat) (acc : List ES), j + n = (cks l).length → acc.length ≤ 8 * j →
  Ev (fun k => qy.l0 k (j : Int) acc (lb (bldB l)) (hs l) F N) (acc ++ l.drop (8 * j), lb (bldB l), F, N) := by
 have hc := T.cnt
 have hlen := hs_len l
 intro n
 induction n with
 | zero =>
  intro j acc hj ha
  refine Ev.step (fun k => by rw [qy.l0]) ?_
  refine Ev.neg (by rw [hlen]; omega) (Ev.val ?_)
  rw [List.drop_eq_nil_of_le (by omega), List.append_nil]
 | succ n ih =>
  intro j acc hj ha
  have h8 : 8 * j < l.length := by omega
  have hr := row8 T h8
  have hb := encB_len hr
  refine Ev.step (fun k => by rw [qy.l0]) ?_
  refine Ev.pos (by rw [hlen]; omega) (Ev.just (block_f T F N j h8) ?_)
  refine Ev.bind (Ev.eq (Decode_ev _ (by omega)) (decr_enc hr)) ?_
  have hl8 : ((l.drop (8 * j)).take 8).length ≤ 8 := by rw [List.length_take]; omega
  refine Ev.pos (by show acc.length + ((l.drop (8 * j)).take 8).length < _; have := T.len; omega) ?_
  rw [w64 _ (by omega) (by have := T.len; omega)]
  refine Ev.eq (ih (j + 1) (acc ++ (l.drop (8 * j)).take 8) (by omega) (by rw [List.length_append]; omega)) ?_
  have e : (l.drop (8 * j)).take 8 ++ l.drop (8 * (j + 1)) = l.drop (8 * j) := by
   rw [show 8 * (j + 1) = 8 * j + 8 by omega, ← List.drop_drop, List.take_append_drop]
  rw [List.append_assoc, e]
theorem from_ev {l : List ES} (T : Tab l) (F : ByteArray) (N : Int) (j : Nat) (hj : j ≤ (cks l).length) : Ev (fun k => qy.f k (lb (bldB l)) (hs l) F N (j : Int)) (l.drop (8 * j), lb (bldB l), F, N) := by
 obtain ⟨n, hn⟩ : ∃ n, j + n = (cks l).length := ⟨_, Nat.add_sub_of_le hj⟩
 exact Ev.eq (from_l0 T F N n j [] hn (by simp)) (by simp)
theorem All_ev {l : List ES} (T : Tab l) (F : ByteArray) (N : Int) : Ev (fun k => qa1.f k (lb (bldB l)) (hs l) F N) (l, lb (bldB l), F, N) := by
 unfold qa1.f
 exact Ev.bind (from_ev T F N 0 (by omega)) (Ev.val (by simp))
theorem Ends_ev {l : List ES} (T : Tab l) (F : ByteArray) (N : Int) (x y : ES) (hx : l[0]? = some x) (hy : l[l.length - 1]? = some y) :
  Ev (fun k => qZ.f k (lb (bldB l)) (hs l) F N) (x.f0, x.f1, x.f2, x.f3, y.f0, y.f1, y.f2, y.f3, lb (bldB l), F, N) := by
 have hl := T.len
 have e0 : rd_T37 l 0 = x := by
  have := rdE (l := l) (i := 0) (by omega)
  rw [List.getElem?_eq_getElem (by omega)] at hx
  rw [← Option.some.inj hx]; exact this
 have e1 : rd_T37 l (wrap64 ((l.length : Int) - 1)) = y := by
  have := rdE (l := l) (i := l.length - 1) (by omega)
  rw [List.getElem?_eq_getElem (by omega)] at hy
  rw [← Option.some.inj hy, ← this, w64 _ (by omega) (by omega)]
  congr 1; omega
 unfold qZ.f
 refine Ev.bind (All_ev T F N) ?_
 refine Ev.pos (by show (0 : Int) < (l.length : Int); omega) ?_
 have e2 : wrap64 ((l.length : Int) - 1) = (l.length : Int) - 1 := w64 _ (by omega) (by omega)
 refine Ev.pos (by show (0 : Int) ≤ wrap64 ((l.length : Int) - 1); omega) (Ev.pos (by show wrap64 ((l.length : Int) - 1) < (l.length : Int); omega) (Ev.val ?_))
 simp only
 rw [e0, e1]
def lst (l : List ES) (j : Nat) : ES := lastE ((l.drop (8 * j)).take 8)
theorem pred_f {l : List ES} (T : Tab l) (key : List UInt8) (seq : Int) (j : Nat) (h : 8 * j < l.length) : qv.pred (hs l) (lb key) seq (j : Int) = some (!(ahB (lst l j) key seq)) := by
 have hj : j < (hs l).length := by rw [hs_len, cks_lt T]; exact h
 have hh := hnd_get (cks l) 0 j _ (cks_get h)
 unfold qv.pred
 rw [if_pos (by omega), rdH hj]
 rw [show (hnd 0 (cks l))[j]? = (hs l)[j]? from rfl, List.getElem?_eq_getElem hj] at hh
 rw [Option.some.inj hh]
 unfold qp1.f ahB lst
 simp only [toL_bl, bl_lb]
 generalize lastE ((l.drop (8 * j)).take 8) = x
 by_cases h1 : Op.bytesLess (bl x.f0) key = true
 ·rw [if_pos h1, h1]; rfl
 ·rw [if_neg h1]
  have h1' : Op.bytesLess (bl x.f0) key = false := by simpa using h1
  rw [h1']
  by_cases h2 : bl x.f0 = key
  ·rw [if_pos h2, decide_eq_true h2]; simp
  ·rw [if_neg h2, decide_eq_false h2]; rfl
theorem search_f {l : List ES} (T : Tab l) (key : List UInt8) (seq : Int) : ∀ (q i j : Nat), i ≤ j → j ≤ (cks l).length → j - i < q →
  ∃ r, qv.search (hs l) (lb key) seq q i j = some r ∧ i ≤ r ∧ r ≤ j ∧ (r = i ∨ (0 < r ∧ ahB (lst l (r - 1)) key seq = true)) ∧ (r = j ∨ ahB (lst l r) key seq = false) := by
 intro q
 induction q with
 | zero => intro i j _ _ h; omega
 | succ q ih =>
  intro i j h1 h2 h3
  simp only [qv.search]
  by_cases hlt : i < j
  ·rw [if_pos hlt, pred_f T key seq ((i + j) / 2) (by rw [← cks_lt T]; omega)]
   simp only [Option.bind_some]
   cases ha : ahB (lst l ((i + j) / 2)) key seq with
   | true =>
    rw [if_neg (by simp)]
    obtain ⟨r, e1, e2, e3, e4, e5⟩ := ih ((i + j) / 2 + 1) j (by omega) h2 (by omega)
    refine ⟨r, e1, by omega, e3, ?_, e5⟩
    rcases e4 with e4 | e4
    ·right; subst e4; exact ⟨by omega, by simpa using ha⟩
    ·exact Or.inr e4
   | false =>
    rw [if_pos (by simp)]
    obtain ⟨r, e1, e2, e3, e4, e5⟩ := ih i ((i + j) / 2) (by omega) (by omega) (by omega)
    refine ⟨r, e1, e2, by omega, e4, ?_⟩
    rcases e5 with e5 | e5
    ·right; rw [e5]; exact ha
    ·exact Or.inr e5
  ·rw [if_neg hlt]
   exact ⟨i, rfl, by omega, by omega, Or.inl rfl, Or.inl (by omega)⟩
def fst (l : List ES) (key : List UInt8) (seq : Int) : Option ES := l.find? (fun x => !(ahB x key seq))
theorem lst_eq {l : List ES} {j : Nat} (h : 8 * j < l.length) : l[min (8 * j + 8) l.length - 1]? = some (lst l j) := by
 have := last8 l (8 * j) h
 rw [rdE (by omega)] at this
 rw [List.getElem?_eq_getElem (by omega), this]; rfl
theorem find_r {l : List ES} (T : Tab l) (key : List UInt8) (seq : Int) : ∃ r, qv.search (hs l) (lb key) seq 1001 0 (hs l).length = some r ∧ r ≤ (cks l).length ∧
  (∀ x ∈ l.take (8 * r), ahB x key seq = true) ∧ (r = (cks l).length → fst l key seq = none) ∧ (r < (cks l).length → 8 * r < l.length ∧ (fst l key seq).isSome = true ∧ fst l key seq = ((l.drop (8 * r)).take 8).find? (fun x => !(ahB x key seq))) := by
 have hc := T.cnt
 have hl := T.len
 obtain ⟨r, e1, e2, e3, e4, e5⟩ := search_f T key seq 1001 0 (cks l).length (by omega) (Nat.le_refl _) (by omega)
 rw [hs_len]
 have hbef : ∀ x ∈ l.take (8 * r), ahB x key seq = true := by
  intro x hx
  rcases e4 with e4 | ⟨e4, e6⟩
  ·subst e4; simp at hx
  ·have hj : 8 * (r - 1) < l.length := by omega
   have hg := lst_eq hj
   obtain ⟨i, hi, rfl⟩ := List.getElem_of_mem hx
   rw [List.length_take] at hi
   rw [List.getElem_take]
   rw [List.getElem?_eq_getElem (by omega)] at hg
   have hg := Option.some.inj hg
   rw [← hg] at e6
   by_cases he : i = min (8 * (r - 1) + 8) l.length - 1
   ·subst he; exact e6
   ·rw [ah_lt] at e6 ⊢
    exact ltE_trans (sorted_lt l T.srt i _ (by omega) (by omega) (by omega)) e6
 have hsplit : fst l key seq = (l.drop (8 * r)).find? (fun x => !(ahB x key seq)) := by
  unfold fst
  conv => lhs; rw [← List.take_append_drop (8 * r) l, List.find?_append]
  have : (l.take (8 * r)).find? (fun x => !(ahB x key seq)) = none := by
   rw [List.find?_eq_none]; intro x hx; rw [hbef x hx]; simp
  rw [this]; rfl
 refine ⟨r, e1, e3, hbef, ?_, ?_⟩
 ·intro hr
  rw [hsplit, List.drop_eq_nil_of_le (by omega)]; rfl
 ·intro hr
  have h8 : 8 * r < l.length := by omega
  have hna : ahB (lst l r) key seq = false := by
   rcases e5 with e5 | e5
   ·omega
   ·exact e5
  have hmem : lst l r ∈ (l.drop (8 * r)).take 8 := lastE_mem (by rw [List.length_take, List.length_drop]; omega)
  have hsome : (((l.drop (8 * r)).take 8).find? (fun x => !(ahB x key seq))).isSome = true := by
   rw [List.find?_isSome]; exact ⟨_, hmem, by rw [hna]; rfl⟩
  have h2 : fst l key seq = ((l.drop (8 * r)).take 8).find? (fun x => !(ahB x key seq)) := by
   rw [hsplit]
   conv => lhs; rw [← List.take_append_drop 8 (l.drop (8 * r)), List.find?_append]
   obtain ⟨y, hy⟩ := Option.isSome_iff_exists.1 hsome
   rw [hy]; rfl
  exact ⟨h8, by rw [h2]; exact hsome, h2⟩

def mF (l : List ES) (key : List UInt8) : Bool := mayS (bl (fltr l)) key
theorem mF_ev {l : List ES} (T : Tab l) (key : List UInt8) (hk : key.length ≤ 140737488351232) : Ev (fun k => qg1.f k (fltr l) (lb key)) (mF l key) := by
 have := May_ev (bl (fltr l)) key hk (by have := T.fltl; omega)
 rw [lb_bl] at this
 exact this
theorem mF_mem {l : List ES} (T : Tab l) (x : ES) (h : x ∈ l) : mF l (bl x.f0) = true := by
 have hl := keysF_len l none
 have hm := mem_keysF l none x h
 unfold mF
 rw [fltr_eq l T.len.2, bl_lb]
 refine may_of_mem (keysF none l) (by have := T.len; omega) _ ?_
 rcases hm with h | h
 ·exact h
 ·cases h
def costS (l : List ES) (key : List UInt8) (seq : Int) : Int := if mF l key = true then (if (fst l key seq).isSome = true then 1 else 0) else 0
theorem Cost_ev {l : List ES} (T : Tab l) (key : List UInt8) (hk : key.length ≤ 140737488351232) (seq : Int) (n : Int) :
  Ev (fun k => qU.f k (lb (bldB l)) (hs l) (fltr l) n (lb key) seq) (costS l key seq, lb (bldB l), fltr l, n) := by
 have hc := T.cnt
 have hl := T.len
 have hn := hs_len l
 obtain ⟨r, e1, e2, e3, e4, e5⟩ := find_r T key seq
 unfold qU.f
 refine Ev.bind (mF_ev T key hk) ?_
 cases hm : mF l key with
 | false =>
  refine Ev.neg (by simp) (Ev.val ?_)
  unfold costS; rw [hm]; rfl
 | true =>
  refine Ev.pos rfl (Ev.pos (by omega) (Ev.just e1 (Ev.val ?_)))
  unfold costS
  rw [hm, if_pos rfl]
  by_cases hr : r = (cks l).length
  ·rw [if_pos (by omega), e4 hr]; rfl
  ·rw [if_neg (by omega), if_pos (e5 (by omega)).2.1]
theorem find_f {l : List ES} {key : List UInt8} {seq : Int} {r : Nat} (hn : (hs l).length ≤ 1000) (e1 : qv.search (hs l) (lb key) seq 1001 0 (hs l).length = some r) (k : Nat) (s F : ByteArray) (n : Int) :
  qv.f k s (hs l) F n (lb key) seq = some ((r : Int), s, F, n) := by
 unfold qv.f
 rw [if_pos hn, e1]; rfl
def getS (l : List ES) (key : List UInt8) (seq : Int) : Option ES := if mF l key = true then (match fst l key seq with | some x => if bl x.f0 = key then some x else none | none => none) else none
def getT (o : Option ES) (s F : ByteArray) (n : Int) : ByteArray × Int × Bool × ByteArray × Bool × ByteArray × ByteArray × Int := match o with
 | some x => (x.f0, x.f1, x.f2, x.f3, true, s, F, n)
 | none => ((⟨#[]⟩ : ByteArray), 0, false, (⟨#[]⟩ : ByteArray), false, s, F, n)
theorem Get_ev {l : List ES} (T : Tab l) (key : List UInt8) (hk : key.length ≤ 140737488351232) (seq : Int) (n : Int) :
  Ev (fun k => qh1.f k (lb (bldB l)) (hs l) (fltr l) n (lb key) seq) (getT (getS l key seq) (lb (bldB l)) (fltr l) n) := by
 have hc := T.cnt
 have hl := T.len
 have hn := hs_len l
 obtain ⟨r, e1, e2, e3, e4, e5⟩ := find_r T key seq
 unfold qh1.f
 refine Ev.bind (Cost_ev T key hk seq n) ?_
 cases hm : mF l key with
 | false =>
  have c0 : costS l key seq = 0 := by unfold costS; rw [hm]; rfl
  refine Ev.pos c0 (Ev.val ?_)
  unfold getS; rw [hm]; rfl
 | true =>
  by_cases hr : r = (cks l).length
  ·have c0 : costS l key seq = 0 := by unfold costS; rw [hm, e4 hr]; rfl
   refine Ev.pos c0 (Ev.val ?_)
   unfold getS; rw [hm, e4 hr]; rfl
  ·obtain ⟨h8, h9, h10⟩ := e5 (by omega)
   have c1 : costS l key seq = 1 := by unfold costS; rw [hm, if_pos rfl, if_pos h9]
   refine Ev.neg (by show ¬ costS l key seq = 0; rw [c1]; decide) ?_
   refine Ev.bind (Ev.val (find_f (by omega) e1 0 (lb (bldB l)) (fltr l) n)) ?_
   refine Ev.just (block_f T (fltr l) n r h8) ?_
   refine Ev.bind (Seek_first (row8 T h8) key seq) ?_
   obtain ⟨x, hx⟩ := Option.isSome_iff_exists.1 h9
   rw [← h10]
   unfold getS
   rw [hm, hx, if_pos rfl]
   refine Ev.pos rfl ?_
   simp only [qp.ans, toL_bl, bl_lb]
   by_cases hq : bl x.f0 = key
   ·refine Ev.pos hq (Ev.val ?_)
    rw [if_pos hq]; rfl
   ·refine Ev.neg hq (Ev.val ?_)
    rw [if_neg hq]; rfl
def lessK (key : List UInt8) (x : ES) : Bool := Op.bytesLess (bl x.f0) key
def cutN (N : Int) (d : List ES) : List ES := d.take (mn (mx N 0) (d.length : Int)).toNat
theorem mn_in (N : Int) (d : Nat) : 0 ≤ mn (mx N 0) (d : Int) ∧ mn (mx N 0) (d : Int) ≤ (d : Int) := by
 unfold mn mx
 split <;> split <;> omega
theorem From_l0 (key : List UInt8) (N : Int) (s F : ByteArray) (H : List HS) (n : Int) : ∀ (m : Nat) (x : List ES), x.length ≤ m →
  Ev (fun k => qG.l0 k (lb key) N x s H F n) (cutN N (x.dropWhile (lessK key)), s, F, n) := by
 intro m
 induction m with
 | zero =>
  intro x h
  obtain rfl := List.length_eq_zero_iff.1 (by omega : x.length = 0)
  have h2 := mn_in N 0
  refine Ev.step (fun k => by rw [qG.l0]) ?_
  refine Ev.neg (by simp) (Ev.pos h2.1 (Ev.pos h2.2 (Ev.val ?_)))
  simp [cutN]
 | succ m ih =>
  intro x h
  cases x with
  | nil => exact ih [] (by simp)
  | cons y x =>
   refine Ev.step (fun k => by rw [qG.l0]) ?_
   have hl : (y :: x).length = x.length + 1 := rfl
   have e : rd_T37 (y :: x) 0 = y := by have := rdE (l := y :: x) (i := 0) (by simp); exact this
   refine Ev.pos (by rw [hl]; omega) (Ev.pos (by rw [hl]; omega) ?_)
   rw [e, toL_bl, toL_bl, bl_lb]
   cases hq : lessK key y with
   | true =>
    refine Ev.pos hq (Ev.pos (by rw [hl]; omega) ?_)
    rw [List.dropWhile_cons_of_pos hq]
    exact ih x (by simp only [List.length_cons] at h; omega)
   | false =>
    have hq' : ¬ Op.bytesLess (bl y.f0) key = true := by unfold lessK at hq; rw [hq]; simp
    have h2 := mn_in N (y :: x).length
    refine Ev.neg hq' (Ev.pos h2.1 (Ev.pos h2.2 (Ev.val ?_)))
    rw [List.dropWhile_cons_of_neg (by rw [hq]; simp)]
    rfl
theorem dropW {p : ES → Bool} : ∀ (a b : List ES), (∀ x ∈ a, p x = true) → (a ++ b).dropWhile p = b.dropWhile p := by
 intro a
 induction a with
 | nil => intro b _; rfl
 | cons x a ih => intro b h; rw [List.cons_append, List.dropWhile_cons_of_pos (h x (by simp)), ih b (fun y hy => h y (by simp [hy]))]
theorem From_ev {l : List ES} (T : Tab l) (key : List UInt8) (N : Int) (n : Int) :
  Ev (fun k => qG.f k (lb (bldB l)) (hs l) (fltr l) n (lb key) N) (cutN N (l.dropWhile (lessK key)), lb (bldB l), fltr l, n) := by
 have hc := T.cnt
 have hl := T.len
 have hn := hs_len l
 obtain ⟨r, e1, e2, e3, e4, e5⟩ := find_r T key 18446744073709551615
 unfold qG.f
 refine Ev.bind (Ev.val (find_f (by omega) e1 0 (lb (bldB l)) (fltr l) n)) ?_
 refine Ev.bind (from_ev T (fltr l) n r e2) ?_
 have e : l.dropWhile (lessK key) = (l.drop (8 * r)).dropWhile (lessK key) := by
  conv => lhs; rw [← List.take_append_drop (8 * r) l]
  refine dropW _ _ (fun x hx => ?_)
  have h1 := e3 x hx
  have h2 := okE_iff (List.all_eq_true.1 T.ok x (List.mem_of_mem_take hx))
  unfold ahB at h1
  rw [Bool.or_eq_true] at h1
  rcases h1 with h1 | h1
  ·exact h1
  ·rw [Bool.and_eq_true] at h1
   have := of_decide_eq_true h1.2
   omega
 rw [e]
 exact From_l0 key N _ _ _ n _ _ (Nat.le_refl _)

def numAt (s : List UInt8) (i : Nat) : Nat := be 0 ((s.drop (s.length - 32 + 8 * i)).take 8)
theorem one_ev (s : List UInt8) (i : Nat) (h : 32 ≤ s.length) (hi : i ≤ 2) : Ev (fun k => qF.one k (lb s) i) ((numAt s i : Nat) : Int) := by
 unfold qF.one numAt
 rw [lb_size, lb_extract, List.drop_take, show s.length - 32 + 8 * i + 8 - (s.length - 32 + 8 * i) = 8 by omega]
 have hl : ((s.drop (s.length - 32 + 8 * i)).take 8).length = 8 := by rw [List.length_take, List.length_drop]; omega
 refine Ev.bind (Unlong_ev _) ?_
 unfold ures
 rw [if_pos hl]
 exact Ev.pos (by simp) (Ev.val rfl)
def sfx (s : List UInt8) : Bool := s.drop (s.length - 8) == magic
theorem sfx_f (s : List UInt8) (h : 8 ≤ s.length) (h2 : s.length ≤ 140737488351232) : qm1.f (lb s) ⟨#[115, 99, 114, 101, 101, 48, 48, 49]⟩ = some (sfx s) := by
 have e : (⟨#[115, 99, 114, 101, 101, 48, 48, 49]⟩ : ByteArray) = lb magic := rfl
 unfold qm1.f ql1.f
 rw [e, lb_size, lb_size]
 have hm : magic.length = 8 := rfl
 rw [hm, w64 _ (by omega) (by omega), if_pos (by omega), if_pos (by omega), if_pos (by omega), lb_extract, List.take_length, show ((s.length : Int) - ((8 : Nat) : Int)).toNat = s.length - 8 by omega, lb_toList, lb_toList]
 rfl
def prt (s : List UInt8) : Int × Int × Int × Bool :=
 if s.length < 32 then qF.no else if sfx s = true then (if s.length - 32 < numAt s 0 ∨ s.length - 32 < numAt s 1 ∨ s.length - 32 < numAt s 2 then qF.no else ((numAt s 0 : Int), (numAt s 1 : Int), (numAt s 2 : Int), decide (numAt s 0 + numAt s 1 ≤ s.length - 32))) else qF.no
theorem parts_ev (s : List UInt8) (h : s.length ≤ 140737488351232) : Ev (fun k => qF.f k (lb s)) (prt s) := by
 unfold qF.f prt
 rw [lb_size]
 by_cases h0 : s.length < 32
 ·rw [if_pos h0]; exact Ev.pos h0 (Ev.val rfl)
 rw [if_neg h0]
 refine Ev.neg h0 (Ev.pos h (Ev.just (sfx_f s (by omega) h) ?_))
 cases hs : sfx s with
 | false => rw [if_neg (by simp)]; exact Ev.neg (by simp) (Ev.val rfl)
 | true =>
  rw [if_pos rfl]
  refine Ev.pos rfl (Ev.bind (one_ev s 0 (by omega) (by omega)) ?_)
  by_cases h1 : s.length - 32 < numAt s 0
  ·rw [if_pos (Or.inl h1)]; exact Ev.pos (by omega) (Ev.val rfl)
  refine Ev.neg (by omega) (Ev.bind (one_ev s 1 (by omega) (by omega)) ?_)
  by_cases h2 : s.length - 32 < numAt s 1
  ·rw [if_pos (Or.inr (Or.inl h2))]; exact Ev.pos (by omega) (Ev.val rfl)
  refine Ev.neg (by omega) (Ev.bind (one_ev s 2 (by omega) (by omega)) ?_)
  by_cases h3 : s.length - 32 < numAt s 2
  ·rw [if_pos (Or.inr (Or.inr h3))]; exact Ev.pos (by omega) (Ev.val rfl)
  refine Ev.neg (by omega) (Ev.val ?_)
  rw [if_neg (by omega)]
  congr 4
  exact Bool.eq_iff_iff.2 (by simp only [decide_eq_true_eq]; omega)
theorem nv_ok (n : Nat) (h : n ≤ 1099511627776) : qk.nv (n : Int) = (n : Int) := by
 have e : Go.bits .and .u64 (n : Int) 2199023255551 = ((n % 2 ^ 41 : Nat) : Int) := by
  have e2 : (2199023255551 : Int) = ((2 ^ 41 - 1 : Nat) : Int) := rfl
  rw [e2, (bits_nat .u64 64 (by decide) wraps_u64 n (2 ^ 41 - 1) (by omega) (by decide)).1, Nat.and_two_pow_sub_one_eq_mod]
 unfold qk.nv
 rw [e, Nat.mod_eq_of_lt (by omega), w64 _ (by omega) (by omega)]
theorem num_ev (n : Nat) (h : n ≤ 1099511627776) (r : List UInt8) (hr : (short n ++ r).length ≤ 140737488351232) : Ev (fun k => qk.num k (lb (short n ++ r)) true) ((n : Int), lb r, true) := by
 unfold qk.num
 refine Ev.bind (Take_ev _ hr) ?_
 rw [tk_short n r (by omega)]
 refine Ev.val ?_
 have e1 : decide ((tres (some (n, r))).1 ≤ 1099511627776) = true := decide_eq_true (by show (n : Int) ≤ _; omega)
 rw [e1]
 show some (qk.nv (n : Int), lb r, true) = _
 rw [nv_ok n h]
theorem hgo_ev : ∀ (l : List HS) (acc : List HS), (∀ x ∈ l, okH x) → (l.flatMap idxE).length ≤ 1000000 → Ev (fun k => qk.go k l.length (lb (l.flatMap idxE)) true acc) (acc ++ l, true) := by
 intro l
 induction l with
 | nil => intro acc _ _; exact Ev.val (by simp [qk.go, lb_toList])
 | cons x l ih =>
  intro acc h hl
  obtain ⟨h1, h2, h3, h4⟩ := h x (by simp)
  obtain ⟨R, hR⟩ : ∃ R, l.flatMap idxE = R := ⟨_, rfl⟩
  have e : (x :: l).flatMap idxE = short (bl x.f0).length ++ (bl x.f0 ++ (short x.f1.toNat ++ (short x.f2.toNat ++ (short x.f3.toNat ++ R)))) := by
   rw [List.flatMap_cons, hR]; simp [idxE, sh]
  rw [e] at hl ⊢
  simp only [List.length_append] at hl
  simp only [List.length_cons, qk.go]
  refine Ev.bind (num_ev _ (by omega) _ (by simp only [List.length_append]; omega)) ?_
  refine Ev.neg (by simp only [lb_size, List.length_append]; simp; omega) (Ev.pos (by simp) ?_)
  simp only [lb_size, Int.toNat_natCast]
  have e1 : (lb (bl x.f0 ++ (short x.f1.toNat ++ (short x.f2.toNat ++ (short x.f3.toNat ++ R))))).extract (bl x.f0).length (bl x.f0 ++ (short x.f1.toNat ++ (short x.f2.toNat ++ (short x.f3.toNat ++ R)))).length = lb (short x.f1.toNat ++ (short x.f2.toNat ++ (short x.f3.toNat ++ R))) := by
   rw [lb_extract, List.take_length, List.drop_left]
  have e2 : (lb (bl x.f0 ++ (short x.f1.toNat ++ (short x.f2.toNat ++ (short x.f3.toNat ++ R))))).extract 0 (bl x.f0).length = x.f0 := by
   rw [lb_extract, List.drop_zero, List.take_left, lb_bl]
  rw [e1, e2]
  refine Ev.bind (num_ev _ (by omega) _ (by simp only [List.length_append]; omega)) ?_
  refine Ev.bind (num_ev _ (by omega) _ (by simp only [List.length_append]; omega)) ?_
  refine Ev.bind (num_ev _ (by omega) _ (by simp only [List.length_append]; omega)) ?_
  have ex : (⟨x.f0, IntKind.u64.wrap (x.f1.toNat : Int), (x.f2.toNat : Int), (x.f3.toNat : Int)⟩ : HS) = x := by
   rw [wu_nat _ (by omega), show ((x.f1.toNat : Nat) : Int) = x.f1 by omega, show ((x.f2.toNat : Nat) : Int) = x.f2 by omega, show ((x.f3.toNat : Nat) : Int) = x.f3 by omega]
  simp only [ex]
  subst hR
  refine Ev.eq (ih (acc ++ [x]) (fun y hy => h y (by simp [hy])) (by omega)) ?_
  simp
theorem handles_ev (l : List HS) (h : ∀ x ∈ l, okH x) (hl : l.length ≤ 500) (hb : (idxB l).length ≤ 100000) : Ev (fun k => qk.f k (lb (idxB l))) (l, true) := by
 unfold qk.f
 unfold idxB at hb ⊢
 refine Ev.bind (num_ev _ (by omega) _ (by omega)) (Ev.pos (by simp) ?_)
 simp only [Int.toNat_natCast]
 rw [Nat.min_eq_left hl]
 refine Ev.eq (hgo_ev l [] h (by rw [List.length_append] at hb; omega)) (by simp)
theorem hnd_sum : ∀ (cs : List (List ES)) (o : Nat), ∀ x ∈ hnd o cs, 0 ≤ x.f2 ∧ 0 ≤ x.f3 ∧ x.f2 + x.f3 ≤ ((o + (blk cs).length : Nat) : Int) := by
 intro cs
 induction cs with
 | nil => intro o x h; simp [hnd] at h
 | cons c cs ih =>
  intro o x h
  have e : (blk (c :: cs)).length = (encB c).length + (blk cs).length := by simp [blk]
  rw [e]
  simp only [hnd] at h
  rcases List.mem_cons.1 h with h | h
  ·subst h
   refine ⟨by show (0 : Int) ≤ (o : Int); omega, by show (0 : Int) ≤ ((encB c).length : Int); omega, by show (o : Int) + ((encB c).length : Int) ≤ _; omega⟩
  ·have := ih _ x h; omega
theorem chk_ok (e : Int) (he : e ≤ 1000000000) : ∀ (l : List HS), (∀ x ∈ l, 0 ≤ x.f2 ∧ 0 ≤ x.f3 ∧ x.f2 + x.f3 ≤ e) → qX.chk e l = true := by
 intro l
 induction l with
 | nil => intro _; rfl
 | cons x l ih =>
  intro h
  have hx := h x (by simp)
  simp only [qX.chk]
  rw [w64 _ (by omega) (by omega), if_neg (by omega)]
  exact ih (fun y hy => h y (by simp [hy]))
theorem body_ge : ∀ (l : List ES) (i : Nat) (p : List UInt8), l.length ≤ (bodyB i p l).length := by
 intro l
 induction l with
 | nil => intro i p; simp
 | cons x l ih =>
  intro i p
  have h1 := ih (i + 1) (bl x.f0)
  have h2 := short_pos (shB i p x)
  simp only [bodyB, entB, List.length_append, List.length_cons]; omega
theorem blk_ge : ∀ (cs : List (List ES)), cs.flatten.length ≤ (blk cs).length := by
 intro cs
 induction cs with
 | nil => simp
 | cons c cs ih =>
  have h1 := body_ge c 0 []
  have h2 := encB_eq c
  have e : (blk (c :: cs)).length = (encB c).length + (blk cs).length := by simp [blk]
  rw [List.flatten_cons, List.length_append, e]; omega
theorem foot_at (P : List UInt8) (a b n : Nat) (ha : a < 18446744073709551616) (hb : b < 18446744073709551616) (hn : n < 18446744073709551616) :
  numAt (P ++ footB a b n) 0 = a ∧ numAt (P ++ footB a b n) 1 = b ∧ numAt (P ++ footB a b n) 2 = n ∧ sfx (P ++ footB a b n) = true := by
 have hL : (P ++ footB a b n).length = P.length + 32 := by simp only [footB, List.length_append, long_len, List.length_cons, List.length_nil]
 have la := long_len a
 have lb_ := long_len b
 have ln := long_len n
 unfold numAt sfx
 rw [hL]
 have d0 : (P ++ footB a b n).drop (P.length + 32 - 32 + 8 * 0) = footB a b n := by rw [show P.length + 32 - 32 + 8 * 0 = P.length by omega, List.drop_left]
 have d1 : (P ++ footB a b n).drop (P.length + 32 - 32 + 8 * 1) = long b ++ (long n ++ magic) := by
  rw [show P.length + 32 - 32 + 8 * 1 = P.length + 8 by omega, ← List.drop_drop, List.drop_left]
  unfold footB
  exact List.drop_left' la
 have d2 : (P ++ footB a b n).drop (P.length + 32 - 32 + 8 * 2) = long n ++ magic := by
  rw [show P.length + 32 - 32 + 8 * 2 = P.length + 32 - 32 + 8 * 1 + 8 by omega, ← List.drop_drop, d1]
  exact List.drop_left' lb_
 have d3 : (P ++ footB a b n).drop (P.length + 32 - 8) = magic := by
  rw [show P.length + 32 - 8 = P.length + 32 - 32 + 8 * 2 + 8 by omega, ← List.drop_drop, d2]
  exact List.drop_left' ln
 rw [d0, d1, d2, d3]
 refine ⟨?_, ?_, ?_, by simp⟩
 ·unfold footB; rw [List.take_left' la, be_long a ha]
 ·rw [List.take_left' lb_, be_long b hb]
 ·rw [List.take_left' ln, be_long n hn]
theorem Open_build {l : List ES} (h : tabR l = true) : Ev (fun k => qX.f k (lb (bldB l))) (some (lb (bldB l), hs l, fltr l, (l.length : Int)), 0) := by
 have T := tab_of h
 have hlen := T.len
 have hL := bldB_len T
 have hLe := bldB_le T
 have hbg := blk_ge (cks l)
 rw [T.flat] at hbg
 have eS : bldB l = (blk (cks l) ++ (idxL l ++ bl (fltr l))) ++ footB (idxL l).length (bl (fltr l)).length l.length := by simp [bldB]
 have hf := foot_at (blk (cks l) ++ (idxL l ++ bl (fltr l))) (idxL l).length (bl (fltr l)).length l.length (by have := T.idxl; omega) (by have := T.fltl; omega) (by omega)
 rw [← eS] at hf
 obtain ⟨f0, f1, f2, f3⟩ := hf
 have hp : prt (bldB l) = (((idxL l).length : Int), ((bl (fltr l)).length : Int), (l.length : Int), true) := by
  unfold prt
  rw [if_neg (by omega), f3, if_pos rfl, f0, f1, f2, if_neg (by omega), decide_eq_true (by omega)]
 unfold qX.f
 refine Ev.bind (Ev.eq (parts_ev _ (by omega)) hp) (Ev.pos rfl (Ev.pos ?_ ?_))
 ·simp only [lb_size]; omega
 simp only [lb_size]
 have e1 : (lb (bldB l)).extract (((bldB l).length : Int) - 32 - ((bl (fltr l)).length : Int) - ((idxL l).length : Int)).toNat (((bldB l).length : Int) - 32 - ((bl (fltr l)).length : Int)).toNat = lb (idxL l) := by
  rw [lb_extract, show (((bldB l).length : Int) - 32 - ((bl (fltr l)).length : Int) - ((idxL l).length : Int)).toNat = (blk (cks l)).length by omega, show (((bldB l).length : Int) - 32 - ((bl (fltr l)).length : Int)).toNat = (blk (cks l)).length + (idxL l).length by omega]
  rw [List.drop_take, show (blk (cks l)).length + (idxL l).length - (blk (cks l)).length = (idxL l).length by omega]
  unfold bldB
  rw [List.drop_left, List.take_left]
 have e2 : (lb (bldB l)).extract (((bldB l).length : Int) - 32 - ((bl (fltr l)).length : Int)).toNat (((bldB l).length : Int) - 32).toNat = fltr l := by
  rw [lb_extract, show (((bldB l).length : Int) - 32).toNat = (blk (cks l)).length + (idxL l).length + (bl (fltr l)).length by omega, show (((bldB l).length : Int) - 32 - ((bl (fltr l)).length : Int)).toNat = (blk (cks l)).length + (idxL l).length by omega]
  rw [List.drop_take, show (blk (cks l)).length + (idxL l).length + (bl (fltr l)).length - ((blk (cks l)).length + (idxL l).length) = (bl (fltr l)).length by omega]
  unfold bldB
  rw [← List.drop_drop, List.drop_left, List.drop_left, List.take_left, lb_bl]
 rw [e1, e2]
 refine Ev.bind (handles_ev (hs l) T.hok (by have := T.hcnt; unfold hs; omega) (by have := T.idxl; unfold idxL at this; unfold hs; omega)) (Ev.pos rfl ?_)
 have hsum := hnd_sum (cks l) 0
 refine Ev.pos (chk_ok _ (by omega) _ (fun x hx => by have := hsum x hx; omega)) ?_
 refine Ev.bind (All_ev T (fltr l) (l.length : Int)) ?_
 have hB := Build_ev l
 unfold bldr at hB
 rw [if_pos h] at hB
 refine Ev.bind hB (Ev.neg (by simp) (Ev.val rfl))

def E (c : UInt8) : ES := ⟨lb [107, c], 5, false, lb [118]⟩
def L9 : List ES := [E 97, E 98, E 99, E 100, E 101, E 102, E 103, E 104, E 105]
theorem el_eq (i : Nat) : qf.el i = E (UInt8.ofNat (97 + i)) := by
 unfold qf.el E
 rw [son, show (⟨#[107]⟩ : ByteArray) = lb [107] from rfl, lb_append, show (97 + (i : Int)) = ((97 + i : Nat) : Int) by omega, ofI_one]
 rfl
theorem ls_eq : qf.ls = L9 := by
 unfold qf.ls
 rw [show qf.el = fun i => E (UInt8.ofNat (97 + i)) from funext el_eq]
 rfl
theorem tab9 : tabR L9 = true := by decide
theorem sm_self (x : ES) : qf.sm x.f0 x.f1 x.f2 x.f3 x := ⟨rfl, rfl, rfl, rfl⟩
theorem fst9 : fst L9 [107, 99] 9 = some (E 99) := rfl
theorem fst4 : fst L9 [107, 99] 4 = some (E 100) := rfl
theorem fstz : fst L9 [122] 9 = none := rfl
theorem m9 : mF L9 [107, 99] = true := mF_mem (tab_of tab9) (E 99) (by simp [L9])
theorem get9 : getS L9 [107, 99] 9 = some (E 99) := by
 unfold getS
 rw [m9, fst9, if_pos rfl]
 simp only
 rw [if_pos (by rfl)]
theorem get4 : getS L9 [107, 99] 4 = none := by
 unfold getS
 rw [m9, fst4, if_pos rfl]
 simp only
 rw [if_neg (by simp [E, bl_lb])]
theorem cost9 : costS L9 [107, 99] 9 = 1 := by
 unfold costS
 rw [m9, fst9]; rfl
theorem costz : costS L9 [122] 9 = 0 := by
 unfold costS
 rw [fstz]
 split <;> rfl
theorem sfx_end {l : List ES} (h : Tab l) : (bldB l).drop ((bldB l).length - 8) = magic := by
 have hf := (foot_at (blk (cks l) ++ (idxL l ++ bl (fltr l))) (idxL l).length (bl (fltr l)).length l.length (by have := h.idxl; omega) (by have := h.fltl; omega) (by have := h.len; omega)).2.2.2
 have eS : bldB l = (blk (cks l) ++ (idxL l ++ bl (fltr l))) ++ footB (idxL l).length (bl (fltr l)).length l.length := by simp [bldB]
 rw [← eS] at hf
 exact of_decide_eq_true (by simpa [sfx] using hf)
theorem Open_more (l : List ES) (h : Tab l) : Ev (fun k => qX.f k (lb (bldB l ++ [63]))) (none, 2) := by
 have hL := bldB_len h
 have hLe := bldB_le h
 have hp : prt (bldB l ++ [63]) = qF.no := by
  unfold prt
  rw [if_neg (by rw [List.length_append, List.length_singleton]; omega)]
  have : sfx (bldB l ++ [63]) = false := by
   unfold sfx
   rw [List.length_append, List.length_singleton, List.drop_append_of_le_length (by omega), beq_eq_false_iff_ne]
   intro e
   have := congrArg List.getLast? e
   simp at this
  rw [this, if_neg (by simp)]
 unfold qX.f
 refine Ev.bind (Ev.eq (parts_ev _ (by rw [List.length_append, List.length_singleton]; omega)) hp) (Ev.neg (by simp [qF.no]) (Ev.val rfl))
theorem fin_ev : Ev (fun k => qf.fin k (lb (bldB L9)) (hs L9) (lb (bldB L9)) (fltr L9) 9) true := by
 have T := tab_of tab9
 have hL := bldB_len T
 have hLe := bldB_le T
 have hb2 : ((hs L9).length : Int) = 2 := by rw [hs_len, T.cnt]; rfl
 have kc : qf.kc = lb [107, 99] := rfl
 have kz : (⟨#[122]⟩ : ByteArray) = lb [122] := rfl
 have kh : (⟨#[107, 104]⟩ : ByteArray) = lb [107, 104] := rfl
 unfold qf.fin
 rw [kc, kz, kh, ls_eq]
 refine Ev.just (a := (9, lb (bldB L9), fltr L9, 9)) rfl (Ev.pos rfl ?_)
 refine Ev.just (a := (((hs L9).length : Int), lb (bldB L9), fltr L9, 9)) rfl (Ev.pos hb2 ?_)
 refine Ev.bind (Cost_ev T [107, 99] (by decide) 9 9) (Ev.pos cost9 ?_)
 refine Ev.bind (Cost_ev T [122] (by decide) 9 9) (Ev.pos costz ?_)
 refine Ev.bind (All_ev T (fltr L9) 9) ?_
 refine Ev.bind (Same_self L9 (by decide)) (Ev.pos rfl ?_)
 refine Ev.bind (From_ev T [107, 104] 9 9) ?_
 refine Ev.pos ⟨?_, ?_, ?_, ?_⟩ (Ev.val rfl)
 ·decide
 ·rw [lb_size]; omega
 ·rw [lb_size]; omega
 ·rw [lb_size, lb_extract, List.take_length, sfx_end T, lb_toList]
theorem mid_ev : Ev (fun k => qf.mid k (lb (bldB L9)) (hs L9) (lb (bldB L9)) (fltr L9) 9) true := by
 have T := tab_of tab9
 have kc : qf.kc = lb [107, 99] := rfl
 unfold qf.mid
 rw [kc, el_eq, el_eq, el_eq]
 refine Ev.bind (Ev.eq (Get_ev T [107, 99] (by decide) 9 9) (by rw [get9])) ?_
 refine Ev.bind (Ev.eq (Get_ev T [107, 99] (by decide) 4 9) (by rw [get4])) ?_
 refine Ev.bind (Ends_ev T (fltr L9) 9 (E 97) (E 105) rfl rfl) ?_
 exact Ev.pos ⟨sm_self _, rfl, rfl, sm_self _, sm_self _⟩ fin_ev
theorem awake_ev : Ev (fun k => qf.f k) true := by
 have T := tab_of tab9
 have hL := bldB_len T
 have hLe := bldB_le T
 have hbg := blk_ge (cks L9)
 rw [T.flat] at hbg
 have h9 : L9.length = 9 := rfl
 unfold qf.f
 rw [ls_eq]
 have hB := Build_ev L9
 unfold bldr at hB
 rw [if_pos tab9] at hB
 refine Ev.bind hB (Ev.pos rfl ?_)
 refine Ev.bind (Open_build tab9) ?_
 simp only
 refine Ev.pos trivial ?_
 have hB0 := Build_ev []
 unfold bldr at hB0
 rw [if_neg (by decide)] at hB0
 refine Ev.bind hB0 (Ev.pos rfl ?_)
 rw [show (⟨#[63]⟩ : ByteArray) = lb [63] from rfl, lb_append]
 refine Ev.bind (Open_more L9 T) ?_
 simp only
 refine Ev.pos ⟨trivial, by rw [lb_size]; omega, by rw [lb_size]; omega⟩ ?_
 exact mid_ev

def qE (key : List UInt8) (seq : Int) (x : ES) : Bool := decide (bl x.f0 = key) && decide (x.f1 ≤ seq)
theorem qE_iff {key : List UInt8} {seq : Int} {x : ES} : qE key seq x = true ↔ bl x.f0 = key ∧ x.f1 ≤ seq := by
 unfold qE; simp
theorem q_ah {key : List UInt8} {seq : Int} {x : ES} (h : ahB x key seq = true) : qE key seq x = false := by
 cases hq : qE key seq x with
 | false => rfl
 | true =>
  obtain ⟨h1, h2⟩ := qE_iff.1 hq
  unfold ahB at h
  rw [h1, bl_self] at h
  simp at h
  omega
theorem q_none {key : List UInt8} {seq : Int} {x : ES} {l : List ES} (hs : sorted (x :: l) = true) (h1 : ¬ Op.bytesLess (bl x.f0) key = true) (h2 : bl x.f0 ≠ key) : l.find? (qE key seq) = none := by
 rw [List.find?_eq_none]
 intro y hy hq
 obtain ⟨e1, e2⟩ := qE_iff.1 hq
 rcases ltE_iff.1 (sorted_all l x hs y hy) with h | ⟨h, _⟩
 ·rw [e1] at h; exact h1 h
 ·rw [e1] at h; exact h2 h
theorem find_qs (key : List UInt8) (seq : Int) : ∀ (l : List ES), sorted l = true → l.find? (qE key seq) = (match l.find? (fun x => !(ahB x key seq)) with | some x => if bl x.f0 = key then some x else none | none => none) := by
 intro l
 induction l with
 | nil => intro _; rfl
 | cons x l ih =>
  intro hs
  cases ha : ahB x key seq with
  | true =>
   rw [List.find?_cons_of_neg (by rw [q_ah ha]; simp), List.find?_cons_of_neg (by simp [ha])]
   exact ih (sorted_tail hs)
  | false =>
   rw [List.find?_cons_of_pos (p := fun x => !(ahB x key seq)) (by simp [ha])]
   simp only
   unfold ahB at ha
   simp only [Bool.or_eq_false_iff, Bool.and_eq_false_iff, decide_eq_false_iff_not] at ha
   by_cases hk : bl x.f0 = key
   ·rw [if_pos hk, List.find?_cons_of_pos (qE_iff.2 ⟨hk, by rcases ha.2 with h | h; exact absurd hk h; omega⟩)]
   ·rw [if_neg hk, List.find?_cons_of_neg (by intro h; exact hk (qE_iff.1 h).1)]
    exact q_none hs (by rw [ha.1]; simp) hk
theorem find_q {l : List ES} (T : Tab l) (key : List UInt8) (seq : Int) : getS l key seq = l.find? (qE key seq) := by
 unfold getS
 by_cases hm : mF l key = true
 ·rw [if_pos hm, find_qs key seq l T.srt]; rfl
 ·rw [if_neg hm]
  symm
  rw [List.find?_eq_none]
  intro y hy hq
  have := mF_mem T y hy
  rw [(qE_iff.1 hq).1] at this
  exact hm this

theorem nv_in (n : Nat) (h : n < 18446744073709551616) : 0 ≤ qk.nv (n : Int) ∧ qk.nv (n : Int) < 2199023255552 := by
 have e : Go.bits .and .u64 (n : Int) 2199023255551 = ((n % 2 ^ 41 : Nat) : Int) := by
  have e2 : (2199023255551 : Int) = ((2 ^ 41 - 1 : Nat) : Int) := rfl
  rw [e2, (bits_nat .u64 64 (by decide) wraps_u64 n (2 ^ 41 - 1) (by omega) (by decide)).1, Nat.and_two_pow_sub_one_eq_mod]
 have hm : n % 2 ^ 41 < 2199023255552 := Nat.mod_lt _ (by decide)
 unfold qk.nv
 rw [e]
 generalize n % 2 ^ 41 = m at hm
 rw [w64 _ (by omega) (by omega)]
 omega
theorem num_any (s : List UInt8) (hs : s.length ≤ 140737488351232) (g : Bool) :
  ∃ (n : Int) (r : List UInt8) (g' : Bool), Ev (fun k => qk.num k (lb s) g) (n, lb r, g') ∧ 0 ≤ n ∧ n < 2199023255552 ∧ r.length ≤ s.length := by
 cases ht : tk s with
 | none =>
  refine ⟨qk.nv ((0 : Nat) : Int), [], g && (false && decide ((0 : Int) ≤ 1099511627776)), ?_, (nv_in 0 (by decide)).1, (nv_in 0 (by decide)).2, by simp⟩
  unfold qk.num
  refine Ev.bind (Take_ev _ hs) (Ev.val ?_)
  rw [ht]
  rfl
 | some p =>
  obtain ⟨n, r⟩ := p
  obtain ⟨hn, he⟩ := (tk_iff _ _ _).1 ht
  refine ⟨qk.nv (n : Int), r, g && (true && decide ((n : Int) ≤ 1099511627776)), ?_, (nv_in n hn).1, (nv_in n hn).2, by rw [he, List.length_append]; omega⟩
  unfold qk.num
  refine Ev.bind (Take_ev _ hs) (Ev.val ?_)
  rw [ht]
  rfl
def inH (x : HS) : Prop := 0 ≤ x.f2 ∧ x.f2 < 2199023255552 ∧ 0 ≤ x.f3 ∧ x.f3 < 2199023255552
theorem hgo_any : ∀ (m : Nat) (s : List UInt8) (g : Bool) (acc : List HS), s.length ≤ 140737488351232 →
  ∃ r, Ev (fun k => qk.go k m (lb s) g acc) r ∧ r.1.length ≤ acc.length + m ∧ ∀ x ∈ r.1, x ∈ acc ∨ inH x := by
 intro m
 induction m with
 | zero =>
  intro s g acc hs
  exact ⟨(acc, g && ((lb s).toList == ([] : List UInt8))), Ev.val (by simp [qk.go]), Nat.le_refl _, fun x hx => Or.inl hx⟩
 | succ m ih =>
  intro s g acc hs
  obtain ⟨n1, r1, g1, e1, a1, b1, l1⟩ := num_any s hs g
  by_cases hc : g1 = false ∨ (((lb r1).size : Int) < n1)
  ·refine ⟨([], false), ?_, by simp, by simp⟩
   simp only [qk.go]
   exact Ev.bind e1 (Ev.pos hc (Ev.val rfl))
  ·have hx : (lb r1).extract n1.toNat (lb r1).size = lb (r1.drop n1.toNat) := by rw [lb_extract, lb_size, List.take_length]
   obtain ⟨n2, r2, g2, e2, a2, b2, l2⟩ := num_any (r1.drop n1.toNat) (by rw [List.length_drop]; omega) g1
   rw [List.length_drop] at l2
   obtain ⟨n3, r3, g3, e3, a3, b3, l3⟩ := num_any r2 (by omega) g2
   obtain ⟨n4, r4, g4, e4, a4, b4, l4⟩ := num_any r3 (by omega) g3
   obtain ⟨r, er, hr1, hr2⟩ := ih r4 g4 (acc ++ [⟨(lb r1).extract 0 n1.toNat, IntKind.u64.wrap n2, n3, n4⟩]) (by omega)
   refine ⟨r, ?_, by rw [List.length_append] at hr1; simp at hr1; omega, fun x hx => ?_⟩
   ·simp only [qk.go]
    refine Ev.bind e1 (Ev.neg hc (Ev.pos a1 ?_))
    simp only
    rw [hx]
    exact Ev.bind e2 (Ev.bind e3 (Ev.bind e4 er))
   ·rcases hr2 x hx with h | h
    ·rw [List.mem_append] at h
     rcases h with h | h
     ·exact Or.inl h
     ·right
      rw [List.mem_singleton] at h
      subst h
      exact ⟨a3, b3, a4, b4⟩
    ·exact Or.inr h
theorem handles_any (s : List UInt8) (hs : s.length ≤ 140737488351232) : ∃ r, Ev (fun k => qk.f k (lb s)) r ∧ r.1.length ≤ 500 ∧ ∀ x ∈ r.1, inH x := by
 obtain ⟨n1, r1, g1, e1, a1, b1, l1⟩ := num_any s hs true
 obtain ⟨r, er, h1, h2⟩ := hgo_any (min n1.toNat 500) r1 g1 [] (by omega)
 refine ⟨r, ?_, by simp at h1; omega, fun x hx => ?_⟩
 ·unfold qk.f
  exact Ev.bind e1 (Ev.pos a1 er)
 ·rcases h2 x hx with h | h
  ·simp at h
  ·exact h
theorem chk_true (e : Int) : ∀ (l : List HS), (∀ x ∈ l, inH x) → qX.chk e l = true → ∀ x ∈ l, x.f2 + x.f3 ≤ e := by
 intro l
 induction l with
 | nil => intro _ _ x hx; simp at hx
 | cons x l ih =>
  intro hr h y hy
  obtain ⟨h1, h2, h3, h4⟩ := hr x (by simp)
  simp only [qX.chk] at h
  rw [w64 _ (by omega) (by omega)] at h
  by_cases hc : e < x.f2 + x.f3
  ·rw [if_pos hc] at h; simp at h
  ·rw [if_neg hc] at h
   rcases List.mem_cons.1 hy with rfl | hy
   ·omega
   ·exact ih (fun z hz => hr z (by simp [hz])) h y hy
theorem block_any (s : List UInt8) (hs : s.length ≤ 10000000) (H : List HS) (F : ByteArray) (n : Int) (j : Nat) (hj : j < H.length) (hin : inH H[j]) (hle : H[j].f2 + H[j].f3 ≤ (s.length : Int)) :
  ∃ t : List UInt8, t.length ≤ s.length ∧ qf1.f (lb s) H F n (j : Int) = some (lb t, lb s, F, n) := by
 obtain ⟨h1, h2, h3, h4⟩ := hin
 refine ⟨(s.take (H[j].f2 + H[j].f3).toNat).drop H[j].f2.toNat, by rw [List.length_drop, List.length_take]; omega, ?_⟩
 unfold qf1.f
 rw [rdH hj, w64 _ (by omega) (by omega)]
 rw [if_pos (by omega), if_pos (by omega), if_pos (by omega), if_pos (by omega), if_pos (by rw [lb_size]; omega), lb_extract]
theorem decr_len {s : List UInt8} : (decr s).1.length ≤ 32 := by
 cases hd : decr s with
 | mk l e =>
 rcases decr_ok hd with ⟨_, h, _⟩ | ⟨_, rfl⟩
 ·exact (rowB_len h).2
 ·simp
theorem from_any (s : List UInt8) (hs : s.length ≤ 10000000) (H : List HS) (hH : H.length ≤ 500) (hin : ∀ x ∈ H, inH x) (hle : ∀ x ∈ H, x.f2 + x.f3 ≤ (s.length : Int)) (F : ByteArray) (N : Int) :
  ∀ (n j : Nat) (acc : List ES), j + n = H.length → acc.length ≤ 32 * j → ∃ a, Ev (fun k => qy.l0 k (j : Int) acc (lb s) H F N) (a, lb s, F, N) := by
 intro n
 induction n with
 | zero =>
  intro j acc hj ha
  refine ⟨acc, Ev.step (fun k => by rw [qy.l0]) ?_⟩
  exact Ev.neg (by omega) (Ev.val rfl)
 | succ n ih =>
  intro j acc hj ha
  have hjl : j < H.length := by omega
  have hm : H[j] ∈ H := List.getElem_mem hjl
  obtain ⟨t, ht, hb⟩ := block_any s hs H F N j hjl (hin _ hm) (hle _ hm)
  have hd := @decr_len t
  obtain ⟨a, he⟩ := ih (j + 1) (acc ++ (decr t).1) (by omega) (by rw [List.length_append]; omega)
  refine ⟨a, Ev.step (fun k => by rw [qy.l0]) ?_⟩
  refine Ev.pos (by omega) (Ev.just hb ?_)
  refine Ev.bind (Decode_ev t (by omega)) ?_
  refine Ev.pos (by show acc.length + (decr t).1.length < _; omega) ?_
  rw [w64 _ (by omega) (by omega)]
  exact he
theorem All_any (s : List UInt8) (hs : s.length ≤ 10000000) (H : List HS) (hH : H.length ≤ 500) (hin : ∀ x ∈ H, inH x) (hle : ∀ x ∈ H, x.f2 + x.f3 ≤ (s.length : Int)) (F : ByteArray) (N : Int) :
  ∃ a, Ev (fun k => qa1.f k (lb s) H F N) (a, lb s, F, N) := by
 obtain ⟨a, he⟩ := from_any s hs H hH hin hle F N H.length 0 [] (by omega) (by simp)
 refine ⟨a, ?_⟩
 unfold qa1.f qy.f
 exact Ev.bind he (Ev.val rfl)
theorem prt_ok {s : List UInt8} (h : (prt s).2.2.2 = true) : 0 ≤ (prt s).1 ∧ 0 ≤ (prt s).2.1 ∧ (prt s).1 + (prt s).2.1 ≤ (s.length : Int) - 32 := by
 unfold prt at h ⊢
 split at h
 ·simp [qF.no] at h
 ·rename_i h0
  rw [if_neg h0]
  split at h
  ·rename_i h1
   rw [if_pos h1]
   split at h
   ·simp [qF.no] at h
   ·rename_i h2
    rw [if_neg h2]
    simp only [decide_eq_true_eq] at h ⊢
    omega
  ·simp [qF.no] at h
theorem Open_none (s : List UInt8) (hs : s.length ≤ 10000000) (h : ∀ l, tabR l = true → s ≠ bldB l) : Ev (fun k => qX.f k (lb s)) (none, 2) := by
 unfold qX.f
 refine Ev.bind (parts_ev s (by omega)) ?_
 by_cases hp : (prt s).2.2.2 = true
 ·obtain ⟨p1, p2, p3⟩ := prt_ok hp
  refine Ev.pos hp (Ev.pos (by rw [lb_size]; omega) ?_)
  rw [lb_size]
  generalize prt s = p at p1 p2 p3
  rw [lb_extract, lb_extract]
  obtain ⟨⟨H, ok⟩, eh, hH, hin⟩ := handles_any ((s.take ((s.length : Int) - 32 - p.2.1).toNat).drop ((s.length : Int) - 32 - p.2.1 - p.1).toNat) (by rw [List.length_drop, List.length_take]; omega)
  refine Ev.bind eh ?_
  by_cases hok : ok = true
  ·refine Ev.pos hok ?_
   by_cases hc : qX.chk ((s.length : Int) - 32) H = true
   ·refine Ev.pos hc ?_
    have hle := chk_true _ H hin hc
    obtain ⟨a, ea⟩ := All_any s hs H hH hin (fun x hx => by have := hle x hx; omega) (lb ((s.take ((s.length : Int) - 32).toNat).drop ((s.length : Int) - 32 - p.2.1).toNat)) p.2.2.1
    refine Ev.bind ea (Ev.bind (Build_ev a) (Ev.pos ?_ (Ev.val rfl)))
    unfold bldr
    by_cases ht : tabR a = true
    ·rw [if_pos ht]
     right
     simp only [lb_toList]
     exact fun e => h a ht e.symm
    ·rw [if_neg ht]
     left
     simp
   ·exact Ev.neg hc (Ev.val rfl)
  ·exact Ev.neg hok (Ev.val rfl)
 ·exact Ev.neg hp (Ev.val rfl)

theorem short_z {n : Nat} {r s : List UInt8} (h : short n ++ r = 0 :: s) : n = 0 ∧ r = s := by
 have e : short 0 = [0] := short_lt 0 (by decide)
 refine short_free (h.trans ?_)
 rw [e]; rfl
theorem ent_nz {i : Nat} {p : List UInt8} {x : ES} (hx : okE x = true) {t r : List UInt8} : entB (shB i p x) x ++ t ≠ 0 :: 0 :: r := by
 intro h
 have h1 := okE_iff hx
 unfold entB at h
 rw [List.append_assoc] at h
 obtain ⟨e1, e2⟩ := short_z h
 rw [List.append_assoc] at e2
 obtain ⟨e3, _⟩ := short_z e2
 omega
theorem ent_free {i : Nat} {p : List UInt8} {x y : ES} (hx : okE x = true) (hy : okE y = true) {t t' : List UInt8} (h : entB (shB i p x) x ++ t = entB (shB i p y) y ++ t') : x = y ∧ t = t' := by
 have h1 := okE_iff hx
 have h2 := okE_iff hy
 unfold entB at h
 simp only [List.append_assoc, List.cons_append] at h
 obtain ⟨e1, h⟩ := short_free h
 obtain ⟨e2, h⟩ := short_free h
 obtain ⟨e3, h⟩ := List.append_inj h (by rw [List.length_drop, List.length_drop]; exact e2)
 obtain ⟨e4, h⟩ := short_free h
 simp only [List.cons.injEq] at h
 obtain ⟨e5, h⟩ := h
 obtain ⟨e6, h⟩ := short_free h
 obtain ⟨e7, h⟩ := List.append_inj h e6
 refine ⟨?_, h⟩
 have hk : (bl x.f0).take (shB i p x) = (bl y.f0).take (shB i p x) := by
  by_cases hi : i % 4 = 0
  ·have z : shB i p x = 0 := by unfold shB; rw [if_pos hi]
   rw [z]; rfl
  ·have zx : shB i p x = comm p (bl x.f0) := by unfold shB; rw [if_neg hi]
   have zy : shB i p y = comm p (bl y.f0) := by unfold shB; rw [if_neg hi]
   have a := comm_take p (bl x.f0)
   have b := comm_take p (bl y.f0)
   rw [← zx] at a
   rw [← zy, ← e1] at b
   exact a.symm.trans b
 have hkk : bl x.f0 = bl y.f0 := by
  rw [← List.take_append_drop (shB i p x) (bl x.f0), hk, e3, ← e1, List.take_append_drop]
 have hf0 : x.f0 = y.f0 := by rw [← lb_bl x.f0, hkk, lb_bl]
 have hf1 : x.f1 = y.f1 := by omega
 have hf2 : x.f2 = y.f2 := by
  cases hx2 : x.f2 <;> cases hy2 : y.f2 <;> simp [hx2, hy2] at e5 <;> rfl
 have hf3 : x.f3 = y.f3 := by rw [← lb_bl x.f3, e7, lb_bl]
 obtain ⟨x0, x1, x2, x3⟩ := x
 obtain ⟨y0, y1, y2, y3⟩ := y
 simp only at hf0 hf1 hf2 hf3
 subst hf0 hf1 hf2 hf3
 rfl
theorem body_free : ∀ (l l' : List ES) (i : Nat) (p r r' : List UInt8), (∀ x ∈ l, okE x = true) → (∀ x ∈ l', okE x = true) → bodyB i p l ++ 0 :: 0 :: r = bodyB i p l' ++ 0 :: 0 :: r' → l = l' := by
 intro l
 induction l with
 | nil =>
  intro l' i p r r' _ h' h
  cases l' with
  | nil => rfl
  | cons y m =>
   simp only [bodyB, List.nil_append, List.append_assoc] at h
   exact absurd h.symm (ent_nz (h' y (by simp)))
 | cons x l ih =>
  intro l' i p r r' h1 h2 h
  cases l' with
  | nil =>
   simp only [bodyB, List.nil_append, List.append_assoc] at h
   exact absurd h (ent_nz (h1 x (by simp)))
  | cons y m =>
   simp only [bodyB, List.append_assoc] at h
   obtain ⟨rfl, h⟩ := ent_free (h1 x (by simp)) (h2 y (by simp)) h
   rw [ih m (i + 1) (bl x.f0) r r' (fun z hz => h1 z (by simp [hz])) (fun z hz => h2 z (by simp [hz])) h]
theorem encB_form {c : List ES} (hc : rowB c = true) : ∃ r : List UInt8, ∀ t, encB c ++ t = bodyB 0 [] c ++ 0 :: 0 :: (r ++ t) := by
 have h1 := rowB_len hc
 cases c with
 | nil => simp at h1
 | cons x c =>
  have e : ∃ r, long 0 = 0 :: 0 :: r := ⟨[0, 0, 0, 0, 0, 0], by decide⟩
  obtain ⟨r, hr⟩ := e
  refine ⟨r ++ ((startsB 1 (0 + (entB (shB 0 [] x) x).length) (bl x.f0) c).flatMap long ++ long (x :: c).length), fun t => ?_⟩
  unfold encB
  have es : startsB 0 0 [] (x :: c) = 0 :: startsB 1 (0 + (entB (shB 0 [] x) x).length) (bl x.f0) c := by simp [startsB]
  rw [es, List.flatMap_cons, hr]
  simp only [List.append_assoc, List.cons_append]
theorem encB_free {c c' : List ES} (hc : rowB c = true) (hc' : rowB c' = true) {t t' : List UInt8} (h : encB c ++ t = encB c' ++ t') : c = c' ∧ t = t' := by
 obtain ⟨r, e⟩ := encB_form hc
 obtain ⟨r', e'⟩ := encB_form hc'
 have hb := body_free c c' 0 [] (r ++ t) (r' ++ t') (rowB_all hc) (rowB_all hc') (by rw [← e, ← e']; exact h)
 subst hb
 exact ⟨rfl, List.append_cancel_left h⟩

def prv (l : List ES) : Nat → Option (List UInt8)
 | 0 => none
 | i + 1 => match l[i]? with | some x => some (bl x.f0) | none => none
theorem rkeys_l0 (l : List ES) (hl : l.length ≤ 500) : ∀ (n i : Nat) (ks : List (List UInt8)), i + n = l.length → ks.length ≤ i →
  Ev (fun k => qz.l0 k l (ks.map lb) (i : Int)) ((ks ++ keysF (prv l i) (l.drop i)).map lb) := by
 intro n
 induction n with
 | zero =>
  intro i ks hi h1
  refine Ev.step (fun k => by rw [qz.l0]) ?_
  refine Ev.neg (by omega) (Ev.val ?_)
  rw [List.drop_eq_nil_of_le (by omega)]
  simp [keysF]
 | succ n ih =>
  intro i ks hi h1
  have hlt : i < l.length := by omega
  have happ : (ks.map lb) ++ [l[i].f0] = (ks ++ [bl l[i].f0]).map lb := by simp [lb_bl]
  have hp : prv l (i + 1) = some (bl l[i].f0) := by simp only [prv, List.getElem?_eq_getElem hlt]
  have hnext := ih (i + 1) (ks ++ [bl l[i].f0]) (by omega) (by rw [List.length_append, List.length_singleton]; omega)
  rw [hp, ← happ, List.append_assoc, List.singleton_append] at hnext
  refine Ev.step (fun k => by rw [qz.l0]) ?_
  refine Ev.pos (by omega) ?_
  rw [w64 ((i : Int) + 1) (by omega) (by omega), List.drop_eq_getElem_cons hlt, rdE hlt]
  simp only [keysF, List.length_map]
  by_cases h0 : i = 0
  ·subst h0
   rw [if_neg (by simp [prv])]
   exact Ev.pos rfl (Ev.pos (by omega) (Ev.pos (by omega) hnext))
  ·obtain ⟨j, rfl⟩ : ∃ j, i = j + 1 := ⟨i - 1, by omega⟩
   have hj : j < l.length := by omega
   refine Ev.neg (by omega) ?_
   rw [w64 _ (by omega) (by omega)]
   refine Ev.pos (by omega) (Ev.pos (by omega) (Ev.pos (by omega) ?_))
   have e1 : (((j + 1 : Nat) : Int) - 1) = (j : Int) := by omega
   have e3 : prv l (j + 1) = some (bl l[j].f0) := by simp only [prv, List.getElem?_eq_getElem hj]
   rw [e1, rdE hj, toL_bl, toL_bl, e3]
   by_cases hq : bl l[j].f0 = bl l[j + 1].f0
   ·rw [if_pos (by rw [hq])]
    refine Ev.pos hq ?_
    have := ih (j + 1 + 1) ks (by omega) (by omega)
    rw [hp, ← hq] at this
    exact this
   ·rw [if_neg (by intro h; exact hq (Option.some.inj h))]
    exact Ev.neg hq (Ev.pos (by omega) hnext)
theorem RKeys_ev (l : List ES) (hl : l.length ≤ 500) : Ev (fun k => qz.f k l) ((keysF none l).map lb) := by
 have := rkeys_l0 l hl l.length 0 [] (by omega) (by simp)
 unfold qz.f
 simpa [prv] using this
def idx2 (m : Nat) (idx : List UInt8) : List UInt8 := short m ++ idx
def finB (l : List ES) (out idx : List UInt8) (m : Nat) : List UInt8 := out ++ (idx2 m idx ++ (bl (fltr l) ++ footB (idx2 m idx).length (bl (fltr l)).length l.length))
theorem rfin (l : List ES) (hl : l.length ≤ 500) (hok : l.all okE = true) (out idx : List UInt8) (m i : Nat) (hi : l.length ≤ i) (hi2 : i ≤ 600) (ho : out.length ≤ 10000000) (hx : idx.length ≤ 1000000) (hm : m ≤ 600) :
  Ev (fun k => qr.l0 k l (lb out) (lb idx) (m : Int) (i : Int)) (lb (finB l out idx m), 0) := by
 have hs := short_len10 m (by omega)
 have hfl := fltr_len l hl
 have hks := keysF_len l none
 have eF : fltr l = lb (bl (fltr l)) := (lb_bl _).symm
 have e1 : lb (short m) ++ lb idx = lb (idx2 m idx) := by rw [lb_append]; rfl
 have hi3 : (idx2 m idx).length ≤ 1000010 := by unfold idx2; rw [List.length_append]; omega
 refine Ev.step (fun k => by rw [qr.l0]) ?_
 refine Ev.neg (by omega) ?_
 rw [wu_nat m (by omega)]
 refine Ev.bind (RShort_ev m (by omega)) (Ev.pos (by rw [lb_size, lb_size]; omega) ?_)
 simp only [e1]
 refine Ev.bind (RKeys_ev l hl) ?_
 refine Ev.bind (RMake_ev (keysF none l) (fun _ y hy => by
  obtain ⟨x, h1, h2⟩ := keysF_mem l none y hy
  have := okE_iff (List.all_eq_true.1 hok x h1)
  rw [← h2]; omega)) ?_
 have em : (makeS (keysF none l)).1 = lb (bl (fltr l)) := eF
 simp only [em]
 refine Ev.pos (by rw [lb_size, lb_size]; omega) ?_
 rw [lb_append]
 refine Ev.pos (by rw [lb_size, lb_size, List.length_append]; omega) ?_
 rw [lb_size (idx2 m idx), wu_nat _ (by omega)]
 refine Ev.bind (RLong_ev _ (by omega)) ?_
 rw [lb_append]
 refine Ev.pos (by simp only [lb_size, List.length_append, long_len]; omega) ?_
 rw [lb_size, wu_nat _ (by omega)]
 refine Ev.bind (RLong_ev _ (by omega)) ?_
 rw [lb_append]
 refine Ev.pos (by simp only [lb_size, List.length_append, long_len]; omega) ?_
 rw [wu_nat _ (by omega)]
 refine Ev.bind (RLong_ev _ (by omega)) ?_
 rw [lb_append]
 refine Ev.pos (by simp only [lb_size, List.length_append, long_len]; omega) ?_
 rw [lb_append]
 refine Ev.pos (by simp only [lb_size, List.length_append, long_len]; omega) (Ev.val ?_)
 rw [show (⟨#[115, 99, 114, 101, 101, 48, 48, 49]⟩ : ByteArray) = lb magic from rfl, lb_append]
 simp [finB, footB, bl_lb]
theorem rbuild_l0 (l : List ES) (hl : l.length ≤ 500) : ∀ (n i : Nat) (out idx : List UInt8) (m : Nat), l.length ≤ i + n → i ≤ l.length + 8 → out.length ≤ 10000 * i → idx.length ≤ 140 * i → m ≤ i → sorted (l.drop i) = true → (l.take i).all okE = true →
  Ev (fun k => qr.l0 k l (lb out) (lb idx) (m : Int) (i : Int)) (if (l.drop i).all okE = true then (lb (finB l (out ++ blk (cks (l.drop i))) (idx ++ (hnd out.length (cks (l.drop i))).flatMap idxE) (m + (cks (l.drop i)).length)), 0) else (lb [], 2)) := by
 intro n
 induction n with
 | zero =>
  intro i out idx m h1 h2 h3 h4 h5 h6 h7
  rw [List.drop_eq_nil_of_le (by omega), cks_nil]
  rw [if_pos (by simp)]
  rw [List.take_of_length_le (by omega)] at h7
  refine Ev.eq (rfin l hl h7 out idx m i (by omega) (by omega) (by omega) (by omega) (by omega)) ?_
  simp [blk, hnd]
 | succ n ih =>
  intro i out idx m h1 h2 h3 h4 h5 h6 h7
  by_cases hge : l.length ≤ i
  ·rw [List.drop_eq_nil_of_le (by omega), cks_nil]
   rw [if_pos (by simp)]
   rw [List.take_of_length_le (by omega)] at h7
   refine Ev.eq (rfin l hl h7 out idx m i (by omega) (by omega) (by omega) (by omega) (by omega)) ?_
   simp [blk, hnd]
  have hlt : i < l.length := by omega
  have hp : 0 < (l.drop i).length := by rw [List.length_drop]; omega
  have key : Ev (fun k => qr.j2 k l (lb out) (lb idx) (m : Int) (i : Int) ((min (i + 8) l.length : Nat) : Int)) (if (l.drop i).all okE = true then (lb (finB l (out ++ blk (cks (l.drop i))) (idx ++ (hnd out.length (cks (l.drop i))).flatMap idxE) (m + (cks (l.drop i)).length)), 0) else (lb [], 2)) := by
   refine Ev.step (fun k => by rw [qr.j2]) ?_
   refine Ev.pos (by omega) (Ev.pos (by omega) (Ev.pos (by omega) ?_))
   rw [Int.toNat_natCast, Int.toNat_natCast, cut8 l i hlt]
   have hen := REncode_ev ((l.drop i).take 8) (by rw [List.length_take]; omega)
   have hrb := rowB_take hp h6
   unfold encr at hen
   rw [all_take (l.drop i), cks_step hp]
   have el : wrap64 (((min (i + 8) l.length : Nat) : Int) - 1) = ((min (i + 8) l.length - 1 : Nat) : Int) := by rw [w64 _ (by omega) (by omega)]; omega
   rw [el, last8 l i hlt]
   cases hok : ((l.drop i).take 8).all okE with
   | false =>
    rw [hok] at hrb
    rw [if_neg (by rw [hrb]; simp)] at hen
    rw [if_neg (by simp)]
    exact Ev.bind hen (Ev.neg (by simp) (Ev.val rfl))
   | true =>
    rw [hok] at hrb
    rw [if_pos hrb] at hen
    rw [Bool.true_and]
    obtain ⟨c, hc⟩ : ∃ c, (l.drop i).take 8 = c := ⟨_, rfl⟩
    rw [hc] at hen hrb hok ⊢
    have hb := encB_len hrb
    have hr := rowB_len hrb
    have ho := okE_iff (rowB_all hrb _ (lastE_mem (c := c) (by omega)))
    have hu := okE_u (rowB_all hrb _ (lastE_mem (c := c) (by omega)))
    obtain ⟨x, hx⟩ : ∃ x, lastE c = x := ⟨_, rfl⟩
    rw [hx] at ho hu ⊢
    have ht := RText_ev (bl x.f0) (by omega)
    rw [lb_bl] at ht
    have l1 := short_len10 (bl x.f0).length (by omega)
    have l2 := sh_len hu
    have l3 := short_len10 out.length (by omega)
    have l4 := short_len10 (encB c).length (by omega)
    refine Ev.bind hen (Ev.pos rfl (Ev.pos (by omega) (Ev.pos (by omega) ?_)))
    refine Ev.bind ht (Ev.bind (RSh_ev hu) ?_)
    refine Ev.pos (by simp only [lb_size, List.length_append]; omega) ?_
    rw [lb_size, lb_size, wu_nat _ (by omega), wu_nat _ (by omega)]
    refine Ev.bind (RShort_ev _ (by omega)) ?_
    rw [lb_append]
    refine Ev.pos (by simp only [lb_size, List.length_append]; omega) ?_
    refine Ev.bind (RShort_ev _ (by omega)) ?_
    rw [lb_append]
    refine Ev.pos (by simp only [lb_size, List.length_append]; omega) ?_
    rw [lb_append]
    refine Ev.pos (by simp only [lb_size, List.length_append]; omega) ?_
    refine Ev.pos (by omega) ?_
    rw [lb_append, lb_append, w64 _ (by omega) (by omega), w64 _ (by omega) (by omega)]
    have e8 : (l.drop i).drop 8 = l.drop (i + 8) := by rw [List.drop_drop]
    have h6' := sorted_drop8 h6
    rw [e8] at h6' ⊢
    have hlt7 : (l.take (i + 8)).all okE = true := by
     rw [← List.take_append_drop i (l.take (i + 8)), all_app, List.take_take, Nat.min_eq_left (by omega), h7, List.drop_take, show i + 8 - i = 8 by omega, hc, hok]; rfl
    have := ih (i + 8) (out ++ encB c) (idx ++ ((short (bl x.f0).length ++ bl x.f0) ++ sh x.f1 ++ short out.length ++ short (encB c).length)) (m + 1) (by omega) (by omega) (by rw [List.length_append]; omega) (by simp only [List.length_append]; omega) (by omega) h6' hlt7
    have ei : idxE (⟨x.f0, x.f1, (out.length : Int), ((encB c).length : Int)⟩ : HS) = (short (bl x.f0).length ++ bl x.f0) ++ sh x.f1 ++ short out.length ++ short (encB c).length := by
     simp [idxE, sh]
    have eb : blk (c :: cks (l.drop (i + 8))) = encB c ++ blk (cks (l.drop (i + 8))) := rfl
    have ec : (c :: cks (l.drop (i + 8))).length = (cks (l.drop (i + 8))).length + 1 := rfl
    rw [← ei] at this ⊢
    simp only [hnd, hx, List.flatMap_cons, eb, ec]
    rw [List.append_assoc out, List.append_assoc idx, List.length_append] at this
    rw [show m + ((cks (l.drop (i + 8))).length + 1) = m + 1 + (cks (l.drop (i + 8))).length by omega]
    exact this
  refine Ev.step (fun k => by rw [qr.l0]) ?_
  refine Ev.pos (by omega) ?_
  rw [w64 _ (by omega) (by omega)]
  by_cases h8 : l.length < i + 8
  ·rw [Nat.min_eq_right (by omega)] at key
   exact Ev.pos (by omega) key
  ·rw [Nat.min_eq_left (by omega)] at key
   exact Ev.neg (by omega) key
theorem RBuild_ev (l : List ES) : Ev (fun k => qr.f k l) (bldr l) := by
 unfold qr.f bldr
 have bad : Ev (fun k => qr.j0 k l true) (lb [], 2) := by
  refine Ev.step (fun k => by rw [qr.j0]) ?_
  exact Ev.pos rfl (Ev.val rfl)
 by_cases h1 : l.length < 1
 ·rw [if_neg (by unfold tabR; rw [decide_eq_false (by omega)]; simp)]
  exact Ev.pos (by omega) bad
 by_cases h2 : l.length > 500
 ·rw [if_neg (by unfold tabR; rw [decide_eq_false (by omega)]; simp)]
  exact Ev.neg (by omega) (Ev.pos (by omega) bad)
 refine Ev.neg (by omega) (Ev.neg (by omega) (Ev.bind (RRow_ev l (by omega)) ?_))
 cases hs : sorted l with
 | false =>
  rw [if_neg (by unfold tabR; rw [hs]; simp)]
  exact bad
 | true =>
  have := rbuild_l0 l (by omega) l.length 0 [] [] 0 (by omega) (by omega) (by simp) (by simp) (by omega) (by simpa using hs) (by simp)
  refine Ev.step (fun k => by rw [qr.j0]) ?_
  refine Ev.neg (by simp) ?_
  refine Ev.eq this ?_
  simp only [List.drop_zero, List.nil_append, Nat.zero_add, List.length_nil]
  have et : tabR l = l.all okE := by unfold tabR; rw [hs, decide_eq_true (by omega)]; simp
  rw [et]
  cases hok : l.all okE with
  | false => rfl
  | true =>
   rw [if_pos rfl, if_pos rfl]
   have hn := hnd_len (cks l) 0
   have ei : idx2 (cks l).length ((hnd 0 (cks l)).flatMap idxE) = idxL l := by unfold idx2 idxL idxB; rw [hn]
   unfold finB bldB
   rw [ei]

theorem l1_end (T : List UInt8) (n a kk e : Int) (acc : List ES) {r : List ES} (h : Ev (fun k => qm.l0 k (lb T) n acc a) r) : Ev (fun k => qm.l1 k (lb T) n acc a kk true e) r := by
 have hj : Ev (fun k => qm.j3 k (lb T) n acc a kk true e false) r := by
  refine Ev.step (fun k => by rw [qm.j3]) ?_
  exact Ev.neg (by simp) (Ev.pos rfl h)
 refine Ev.step (fun k => by rw [qm.l1]) ?_
 by_cases hc : e ≤ ((lb T).size : Int)
 ·exact Ev.pos hc hj
 ·exact Ev.neg hc hj
def Scan (T : List UInt8) (n : Int) (acc : List ES) (a kk e : Nat) : Prop :=
  (Ev (fun k => qm.l1 k (lb T) n acc (a : Int) (kk : Int) false (e : Int)) [] ∧ ∀ (e' : Nat) (c : List ES), e ≤ e' → e' ≤ T.length → rowB c = true → c.length = kk → (T.take e').drop a ≠ encB c) ∨
  ∃ (e' : Nat) (c : List ES), e ≤ e' ∧ e' ≤ T.length ∧ rowB c = true ∧ c.length = kk ∧ (T.take e').drop a = encB c ∧
   ∀ r, Ev (fun k => qm.l0 k (lb T) n (acc ++ c) (e' : Int)) r → Ev (fun k => qm.l1 k (lb T) n acc (a : Int) (kk : Int) false (e : Int)) r
theorem scan (T : List UInt8) (hT : T.length ≤ 100000) (n : Int) (acc : List ES) (ha : acc.length ≤ 1000) (a kk : Nat) : ∀ (d e : Nat), T.length + 1 ≤ e + d → a ≤ e → e ≤ 200000 → Scan T n acc a kk e := by
 have hout : ∀ e : Nat, T.length < e → Ev (fun k => qm.l1 k (lb T) n acc (a : Int) (kk : Int) false (e : Int)) [] := by
  intro e he
  refine Ev.step (fun k => by rw [qm.l1]) ?_
  refine Ev.neg (by rw [lb_size]; omega) ?_
  refine Ev.step (fun k => by rw [qm.j3]) ?_
  exact Ev.neg (by simp) (Ev.neg (by simp) (Ev.val rfl))
 intro d
 induction d with
 | zero =>
  intro e he _ _
  exact Or.inl ⟨hout e (by omega), fun e' c h1 h2 => absurd h2 (by omega)⟩
 | succ d ih =>
  intro e he hae hme
  by_cases hle : e ≤ T.length
  case neg => exact Or.inl ⟨hout e (by omega), fun e' c h1 h2 => absurd h2 (by omega)⟩
  have hsl : ((T.take e).drop a).length ≤ 100000 := by rw [List.length_drop, List.length_take]; omega
  have hw : wrap64 ((e : Int) + 1) = ((e + 1 : Nat) : Int) := by rw [w64 _ (by omega) (by omega)]; omega
  have hx : ((lb T).extract ((a : Int)).toNat ((e : Int)).toNat) = lb ((T.take e).drop a) := by rw [Int.toNat_natCast, Int.toNat_natCast, lb_extract]
  -- what the step comes to
  have step1 : ∀ r, cntB ((T.take e).drop a) ≠ kk → Ev (fun k => qm.l1 k (lb T) n acc (a : Int) (kk : Int) false ((e + 1 : Nat) : Int)) r → Ev (fun k => qm.l1 k (lb T) n acc (a : Int) (kk : Int) false (e : Int)) r := by
   intro r hk h
   refine Ev.step (fun k => by rw [qm.l1]) ?_
   refine Ev.pos (by rw [lb_size]; omega) ?_
   refine Ev.step (fun k => by rw [qm.j3]) ?_
   refine Ev.pos rfl (Ev.pos (by omega) (Ev.pos (by omega) (Ev.pos (by rw [lb_size]; omega) ?_)))
   rw [hx, hw]
   exact Ev.bind (RCount_ev _ (by omega)) (Ev.neg (by omega) h)
  have step2 : ∀ r (c : List ES) (er : Int), cntB ((T.take e).drop a) = kk → decr ((T.take e).drop a) = (c, er) → er ≠ 0 → Ev (fun k => qm.l1 k (lb T) n acc (a : Int) (kk : Int) false ((e + 1 : Nat) : Int)) r → Ev (fun k => qm.l1 k (lb T) n acc (a : Int) (kk : Int) false (e : Int)) r := by
   intro r c er hk hd her h
   refine Ev.step (fun k => by rw [qm.l1]) ?_
   refine Ev.pos (by rw [lb_size]; omega) ?_
   refine Ev.step (fun k => by rw [qm.j3]) ?_
   refine Ev.pos rfl (Ev.pos (by omega) (Ev.pos (by omega) (Ev.pos (by rw [lb_size]; omega) ?_)))
   rw [hx, hw]
   exact Ev.bind (RCount_ev _ (by omega)) (Ev.pos (by omega) (Ev.bind (Ev.eq (RDecode_ev _ (by omega)) hd) (Ev.neg her h)))
  have step3 : ∀ r (c : List ES), cntB ((T.take e).drop a) = kk → decr ((T.take e).drop a) = (c, 0) → c.length ≤ 32 → Ev (fun k => qm.l0 k (lb T) n (acc ++ c) (e : Int)) r → Ev (fun k => qm.l1 k (lb T) n acc (a : Int) (kk : Int) false (e : Int)) r := by
   intro r c hk hd hc h
   refine Ev.step (fun k => by rw [qm.l1]) ?_
   refine Ev.pos (by rw [lb_size]; omega) ?_
   refine Ev.step (fun k => by rw [qm.j3]) ?_
   refine Ev.pos rfl (Ev.pos (by omega) (Ev.pos (by omega) (Ev.pos (by rw [lb_size]; omega) ?_)))
   rw [hx, hw]
   exact Ev.bind (RCount_ev _ (by omega)) (Ev.pos (by omega) (Ev.bind (Ev.eq (RDecode_ev _ (by omega)) hd) (Ev.pos rfl (Ev.pos (by show acc.length + c.length < _; omega) (l1_end T n (e : Int) (kk : Int) _ _ h)))))
  have next : (∀ r, Ev (fun k => qm.l1 k (lb T) n acc (a : Int) (kk : Int) false ((e + 1 : Nat) : Int)) r → Ev (fun k => qm.l1 k (lb T) n acc (a : Int) (kk : Int) false (e : Int)) r) →
    (∀ c : List ES, rowB c = true → c.length = kk → (T.take e).drop a ≠ encB c) → Scan T n acc a kk e := fun hs hno => by
   rcases ih (e + 1) (by omega) (by omega) (by omega) with ⟨h1, h2⟩ | ⟨e', c, h1, h2, h3, h4, h5, h6⟩
   ·exact Or.inl ⟨hs _ h1, fun e' c g1 g2 g3 g4 => by
     rcases Nat.lt_or_ge e e' with g | g
     ·exact h2 e' c g g2 g3 g4
     ·have : e' = e := by omega
      subst this
      exact hno c g3 g4⟩
   ·exact Or.inr ⟨e', c, by omega, h2, h3, h4, h5, fun r hr => hs r (h6 r hr)⟩
  by_cases hk : cntB ((T.take e).drop a) = kk
  ·cases hd : decr ((T.take e).drop a) with
   | mk c er =>
    rcases decr_ok hd with ⟨rfl, h1, h2⟩ | ⟨rfl, h1⟩
    ·right
     have hcl : c.length = kk := by rw [← hk, ← h2, cnt_enc (rowB_len h1)]
     exact ⟨e, c, Nat.le_refl _, hle, h1, hcl, h2.symm, fun r hr => step3 r c hk hd (rowB_len h1).2 hr⟩
    ·refine next (fun r => step2 r c 2 hk hd (by decide)) (fun c' g1 g2 g3 => ?_)
     rw [g3, decr_enc g1] at hd
     simp at hd
  ·refine next (fun r => step1 r hk) (fun c' g1 g2 g3 => hk ?_)
   rw [g3, cnt_enc (rowB_len g1), g2]
theorem rstart (T : List UInt8) (hT : T.length ≤ 100000) (n : Nat) (hn : n ≤ 500) (acc : List ES) (a : Nat) (ha : a ≤ 100000) (hl : acc.length < n) {r : List ES}
  (h : Ev (fun k => qm.l1 k (lb T) (n : Int) acc (a : Int) ((min 8 (n - acc.length) : Nat) : Int) false ((a + 8 : Nat) : Int)) r) : Ev (fun k => qm.l0 k (lb T) (n : Int) acc (a : Int)) r := by
 have hw : wrap64 ((a : Int) + 8) = ((a + 8 : Nat) : Int) := by rw [w64 _ (by omega) (by omega)]; omega
 have hs : wrap64 ((n : Int) - (acc.length : Int)) = (n : Int) - (acc.length : Int) := w64 _ (by omega) (by omega)
 refine Ev.step (fun k => by rw [qm.l0]) ?_
 rw [hs]
 refine Ev.pos (by omega) ?_
 by_cases h8 : (n : Int) - (acc.length : Int) > 8
 ·refine Ev.pos h8 ?_
  refine Ev.step (fun k => by rw [qm.j1]) ?_
  rw [hw]
  rw [show min 8 (n - acc.length) = 8 by omega] at h
  exact h
 ·refine Ev.neg h8 ?_
  refine Ev.step (fun k => by rw [qm.j1]) ?_
  rw [hw]
  rw [show ((min 8 (n - acc.length) : Nat) : Int) = (n : Int) - (acc.length : Int) by omega] at h
  exact h
theorem rend (T : List UInt8) (n : Nat) (acc : List ES) (a : Int) (hl : acc.length = n) : Ev (fun k => qm.l0 k (lb T) (n : Int) acc a) acc := by
 refine Ev.step (fun k => by rw [qm.l0]) ?_
 exact Ev.neg (by omega) (Ev.val rfl)
theorem rows_any (T : List UInt8) (hT : T.length ≤ 100000) (n : Nat) (hn : n ≤ 500) : ∀ (m : Nat) (acc : List ES) (a : Nat), n ≤ acc.length + m → acc.length ≤ n → a ≤ T.length → ∃ r, Ev (fun k => qm.l0 k (lb T) (n : Int) acc (a : Int)) r := by
 intro m
 induction m with
 | zero => intro acc a h1 h2 _; exact ⟨acc, rend T n acc _ (by omega)⟩
 | succ m ih =>
  intro acc a h1 h2 h3
  by_cases hl : acc.length = n
  ·exact ⟨acc, rend T n acc _ hl⟩
  ·rcases scan T hT (n : Int) acc (by omega) a (min 8 (n - acc.length)) (T.length + 1) (a + 8) (by omega) (by omega) (by omega) with ⟨h, _⟩ | ⟨e', c, g1, g2, g3, g4, _, g6⟩
   ·exact ⟨[], rstart T hT n hn acc a (by omega) (by omega) h⟩
   ·have hc := rowB_len g3
    obtain ⟨r, hr⟩ := ih (acc ++ c) e' (by rw [List.length_append]; omega) (by rw [List.length_append]; omega) g2
    exact ⟨r, rstart T hT n hn acc a (by omega) (by omega) (g6 r hr)⟩
theorem encB_ge {c : List ES} (hc : rowB c = true) : 8 ≤ (encB c).length := by
 rw [encB_eq]; unfold strt; omega
theorem rows_blk (T : List UInt8) (hT : T.length ≤ 100000) (R : List UInt8) (n : Nat) (hn : n ≤ 500) : ∀ (m : Nat) (l acc : List ES) (a : Nat), l.length ≤ m → acc.length + l.length = n → sorted l = true → l.all okE = true → a ≤ T.length → T.drop a = blk (cks l) ++ R →
  Ev (fun k => qm.l0 k (lb T) (n : Int) acc (a : Int)) (acc ++ l) := by
 intro m
 induction m with
 | zero =>
  intro l acc a h1 h2 _ _ _ _
  have : l = [] := List.length_eq_zero_iff.1 (by omega)
  subst this
  rw [List.append_nil]
  exact rend T n acc _ (by simpa using h2)
 | succ m ih =>
  intro l acc a h1 h2 hs hok ha hd
  by_cases h0 : l.length = 0
  ·have : l = [] := List.length_eq_zero_iff.1 h0
   subst this
   rw [List.append_nil]
   exact rend T n acc _ (by simpa using h2)
  have hp : 0 < l.length := by omega
  have hall := all_take l
  rw [hok] at hall
  have hall' := Bool.and_eq_true_iff.1 hall.symm
  have hrow : rowB (l.take 8) = true := by rw [rowB_take hp hs, hall'.1]
  have hlen8 : (l.take 8).length = min 8 (n - acc.length) := by rw [List.length_take]; omega
  rw [cks_step hp] at hd
  unfold blk at hd
  rw [List.flatMap_cons, List.append_assoc] at hd
  have hge := encB_ge hrow
  have hlT := congrArg List.length hd
  rw [List.length_drop, List.length_append] at hlT
  have hseg : (T.take (a + (encB (l.take 8)).length)).drop a = encB (l.take 8) := by
   rw [List.drop_take, Nat.add_sub_cancel_left, hd, List.take_left]
  rcases scan T hT (n : Int) acc (by omega) a (min 8 (n - acc.length)) (T.length + 1) (a + 8) (by omega) (by omega) (by omega) with ⟨_, h⟩ | ⟨e', c, g1, g2, g3, g4, g5, g6⟩
  ·exact absurd hseg (h _ _ (by omega) (by omega) hrow hlen8)
  ·have hcat : encB c ++ T.drop e' = T.drop a := by
    rw [← g5, List.drop_take]
    have : T.drop e' = (T.drop a).drop (e' - a) := by rw [List.drop_drop]; congr 1; omega
    rw [this, List.take_append_drop]
   rw [hd] at hcat
   obtain ⟨e1, e2⟩ := encB_free g3 hrow hcat
   have h8 := ih (l.drop 8) (acc ++ c) e' (by rw [List.length_drop]; omega) (by rw [List.length_append, g4, List.length_drop]; omega) (sorted_drop8 hs) hall'.2 g2 e2
   refine rstart T hT n hn acc a (by omega) (by omega) (g6 _ ?_)
   refine Ev.eq h8 ?_
   rw [e1, List.append_assoc, List.take_append_drop]
theorem ROpen_none (s : List UInt8) (hs : s.length ≤ 100000) (h : ∀ l, tabR l = true → s ≠ bldB l) : Ev (fun k => qd1.f k (lb s)) (none, 2) := by
 unfold qd1.f
 rw [lb_size]
 by_cases h0 : (s.length : Int) - 32 < 0
 ·exact Ev.pos h0 (Ev.val rfl)
 refine Ev.neg h0 (Ev.pos (by omega) ?_)
 by_cases hm : ((lb s).extract (s.length - 8) s.length).toList = qd1.mg
 case neg => exact Ev.neg hm (Ev.val rfl)
 refine Ev.pos hm ?_
 rw [lb_extract (l := s) (i := s.length - 16) (j := s.length - 8)]
 refine Ev.bind (RUnlong_ev _) ?_
 have hu : ∃ m : Nat, (ures ((s.take (s.length - 8)).drop (s.length - 16))).1 = (m : Int) := by
  unfold ures
  split
  ·exact ⟨_, rfl⟩
  ·exact ⟨0, rfl⟩
 obtain ⟨m, hm⟩ := hu
 rw [hm]
 by_cases hn : (m : Int) < 1 ∨ 500 < (m : Int)
 ·exact Ev.pos hn (Ev.val rfl)
 refine Ev.neg hn ?_
 rw [lb_extract, List.drop_zero]
 obtain ⟨r, hr⟩ := rows_any (s.take (s.length - 32)) (by rw [List.length_take]; omega) m (by omega) m [] 0 (by simp) (by simp) (by omega)
 refine Ev.bind hr (Ev.bind (RBuild_ev r) (Ev.pos ?_ (Ev.val rfl)))
 unfold bldr
 by_cases ht : tabR r = true
 ·rw [if_pos ht]
  right
  simp only [lb_toList]
  exact fun e => h r ht e.symm
 ·rw [if_neg ht]
  left
  simp
theorem ROpen_tab {l : List ES} (ht : tabR l = true) (hs : (bldB l).length ≤ 100000) : Ev (fun k => qd1.f k (lb (bldB l))) (some (l, fltr l), 0) := by
 have T := tab_of ht
 have hlen := T.len
 have hL := bldB_len T
 have eS : bldB l = (blk (cks l) ++ (idxL l ++ bl (fltr l))) ++ footB (idxL l).length (bl (fltr l)).length l.length := by simp [bldB]
 have hf := foot_at (blk (cks l) ++ (idxL l ++ bl (fltr l))) (idxL l).length (bl (fltr l)).length l.length (by have := T.idxl; omega) (by have := T.fltl; omega) (by omega)
 rw [← eS] at hf
 obtain ⟨_, _, f2, _⟩ := hf
 have hfl : ((footB (idxL l).length (bl (fltr l)).length l.length)).length = 32 := by simp only [footB, List.length_append, long_len, List.length_cons, List.length_nil]
 have hB := RBuild_ev l
 unfold bldr at hB
 rw [if_pos ht] at hB
 unfold qd1.f
 rw [lb_size]
 refine Ev.neg (by omega) (Ev.pos (by omega) (Ev.pos ?_ ?_))
 ·rw [lb_extract, List.take_length, sfx_end T, lb_toList]
 rw [lb_extract (l := bldB l) (i := (bldB l).length - 16) (j := (bldB l).length - 8)]
 have hx : ((bldB l).take ((bldB l).length - 8)).drop ((bldB l).length - 16) = ((bldB l).drop ((bldB l).length - 32 + 8 * 2)).take 8 := by
  rw [List.drop_take, show (bldB l).length - 8 - ((bldB l).length - 16) = 8 by omega, show (bldB l).length - 32 + 8 * 2 = (bldB l).length - 16 by omega]
 rw [hx]
 have hl8 : (((bldB l).drop ((bldB l).length - 32 + 8 * 2)).take 8).length = 8 := by rw [List.length_take, List.length_drop]; omega
 have hU := RUnlong_ev (((bldB l).drop ((bldB l).length - 32 + 8 * 2)).take 8)
 unfold ures at hU
 rw [if_pos hl8] at hU
 unfold numAt at f2
 rw [f2] at hU
 refine Ev.bind hU (Ev.neg (by simp only; omega) ?_)
 simp only
 rw [lb_extract, List.drop_zero]
 have e3 : (bldB l).take ((bldB l).length - 32) = blk (cks l) ++ (idxL l ++ bl (fltr l)) := by
  rw [show (bldB l).length - 32 = (blk (cks l) ++ (idxL l ++ bl (fltr l))).length by rw [List.length_append, List.length_append]; omega, eS, List.take_left]
 rw [e3]
 have hT : (blk (cks l) ++ (idxL l ++ bl (fltr l))).length ≤ 100000 := by rw [List.length_append, List.length_append]; omega
 have hR := rows_blk (blk (cks l) ++ (idxL l ++ bl (fltr l))) hT (idxL l ++ bl (fltr l)) l.length (by omega) l.length l [] 0 (Nat.le_refl _) (by simp) T.srt T.ok (by omega) rfl
 refine Ev.bind hR (Ev.bind hB (Ev.neg (by simp) ?_))
 rw [List.nil_append]
 refine Ev.bind (RKeys_ev l (by omega)) ?_
 refine Ev.bind (RMake_ev (keysF none l) (fun _ y hy => by
  obtain ⟨x, hx, rfl⟩ := keysF_mem l none y hy
  have := T.key x hx
  omega)) (Ev.val rfl)
theorem RGet_eq {l : List ES} (T : Tab l) (key : List UInt8) (seq : Int) : qx.f l (lb key) seq = qx.res (getS l key seq) := by
 have hq : qx.q (lb key) seq = qE key seq := by
  funext x
  unfold qx.q qE
  simp only [toL_bl, bl_lb]
 unfold qx.f
 rw [hq, find_q T]
theorem RCost_ev {l : List ES} (T : Tab l) (key : List UInt8) (hk : key.length ≤ 140737488351232) (seq : Int) : Ev (fun k => qj1.f k l (fltr l) (lb key) seq) (costS l key seq) := by
 have hlen := T.len
 have hlast : rd_T37 l ((l.length - 1 : Nat) : Int) = l[l.length - 1] := rdE (by omega)
 have hM := RMay_ev (bl (fltr l)) key hk (by have := T.fltl; omega)
 rw [lb_bl] at hM
 unfold qj1.f costS
 rw [hlast]
 have hm : mayS (bl (fltr l)) key = mF l key := rfl
 rw [hm] at hM
 refine Ev.bind hM ?_
 cases hmf : mF l key with
 | false => exact Ev.neg (by simp) (Ev.val rfl)
 | true =>
  rw [if_pos rfl, if_pos rfl]
  refine Ev.just (RAhead_f l[l.length - 1] key seq) ?_
  have hmem : l[l.length - 1] ∈ l := List.getElem_mem _
  cases ha : ahB l[l.length - 1] key seq with
  | false =>
   have : (fst l key seq).isSome = true := by
    unfold fst
    rw [List.find?_isSome]
    exact ⟨_, hmem, by simp [ha]⟩
   rw [if_pos this]
   exact Ev.neg (by simp) (Ev.val rfl)
  | true =>
   have : fst l key seq = none := by
    unfold fst
    rw [List.find?_eq_none]
    intro x hx
    obtain ⟨i, hi, rfl⟩ := List.getElem_of_mem hx
    by_cases hil : i = l.length - 1
    ·subst hil; simp [ha]
    ·have h1 := sorted_lt l T.srt i (l.length - 1) hi (by omega) (by omega)
     rw [ah_lt] at ha ⊢
     rw [ltE_trans h1 ha]
     simp
   rw [this]
   exact Ev.pos rfl (Ev.val rfl)
theorem rgo_eq (key : List UInt8) (n : Int) : ∀ (l out : List ES), qK.go (lb key) n l out = out ++ (l.filter (fun x => !(lessK key x))).take (n - out.length).toNat := by
 intro l
 induction l with
 | nil => intro out; simp [qK.go]
 | cons x l ih =>
  intro out
  rw [qK.go]
  by_cases hn : (out.length : Int) < n
  ·rw [if_pos hn]
   have hlk : Op.bytesLess x.f0.toList (lb key).toList = lessK key x := by unfold lessK; rw [toL_bl, toL_bl, bl_lb]
   rw [hlk]
   cases hl : lessK key x with
   | true => rw [if_pos rfl, ih, List.filter_cons_of_neg (by simp [hl])]
   | false =>
    rw [if_neg (by simp), ih, List.filter_cons_of_pos (by simp [hl])]
    rw [show (n - (out.length : Int)).toNat = (n - ((out ++ [x]).length : Int)).toNat + 1 by rw [List.length_append]; simp; omega, List.take_succ_cons]
    simp
  ·rw [if_neg hn, show (n - (out.length : Int)).toNat = 0 by omega, List.take_zero, List.append_nil]
theorem filt_dw (key : List UInt8) : ∀ (l : List ES), sorted l = true → l.filter (fun x => !(lessK key x)) = l.dropWhile (lessK key) := by
 intro l
 induction l with
 | nil => intro _; rfl
 | cons x l ih =>
  intro hs
  rw [List.dropWhile_cons]
  cases hl : lessK key x with
  | true => rw [List.filter_cons_of_neg (by simp [hl]), if_pos rfl, ih (sorted_tail hs)]
  | false =>
   rw [List.filter_cons_of_pos (by simp [hl]), if_neg (by simp)]
   congr 1
   rw [List.filter_eq_self]
   intro y hy
   have hxy := ltE_iff.1 (sorted_all l x hs y hy)
   cases hly : lessK key y with
   | false => rfl
   | true =>
    unfold lessK at hl hly
    rcases hxy with h | ⟨h, _⟩
    ·rw [bl_trans _ _ _ h hly] at hl; simp at hl
    ·rw [h, hly] at hl; simp at hl
theorem RFrom_eq {l : List ES} (T : Tab l) (key : List UInt8) (n : Int) : qK.f l (lb key) n = cutN n (l.dropWhile (lessK key)) := by
 unfold qK.f cutN
 rw [rgo_eq, filt_dw key l T.srt, List.nil_append]
 generalize l.dropWhile (lessK key) = d
 have h := mn_in n d.length
 have e : (mn (mx n 0) (d.length : Int)).toNat = min n.toNat d.length := by unfold mn mx; split <;> split <;> omega
 rw [e, List.take_eq_take_iff]
 simp

theorem smReads (x : ES) : qj.sm x.f0 x.f1 x.f2 x.f3 x := ⟨rfl, rfl, rfl, rfl⟩
theorem reads_K3 {l : List ES} (T : Tab l) (key : List UInt8) (n : Int) : Ev (fun k => qj.K3 k l (lb key) n (hs l) (lb (bldB l)) (fltr l) (l.length : Int)) true := by
 have hl := T.len
 have hc := T.cnt
 have hn := hs_len l
 unfold qj.K3
 refine Ev.bind (All_ev T (fltr l) (l.length : Int)) (Ev.bind (Same_self l (by omega)) (Ev.pos rfl ?_))
 refine Ev.bind (From_ev T key n (l.length : Int)) ?_
 rw [RFrom_eq T]
 have hle : (cutN n (l.dropWhile (lessK key))).length ≤ 1000000 := by
  have h1 : (cutN n (l.dropWhile (lessK key))).length ≤ (l.dropWhile (lessK key)).length := by unfold cutN; rw [List.length_take]; omega
  have h2 : (l.dropWhile (lessK key)).length ≤ l.length := (List.dropWhile_sublist _).length_le
  omega
 refine Ev.bind (Same_self _ hle) (Ev.pos rfl ?_)
 refine Ev.just (a := ((l.length : Int), lb (bldB l), fltr l, (l.length : Int))) rfl (Ev.pos rfl ?_)
 refine Ev.just (a := (((hs l).length : Int), lb (bldB l), fltr l, (l.length : Int))) rfl (Ev.pos ?_ (Ev.val rfl))
 rw [Int.tdiv_eq_ediv_of_nonneg (by omega)]
 simp only
 omega
theorem reads_K {l : List ES} (T : Tab l) (key : List UInt8) (hk : key.length ≤ 140737488351232) (seq n : Int) : Ev (fun k => qj.K k l (fltr l) (lb key) seq n (lb (bldB l), hs l, fltr l, (l.length : Int))) true := by
 have hl := T.len
 have a0 : qj.at l 0 = l[0] := rdE (by omega)
 have an : qj.at l (l.length - 1) = l[l.length - 1] := rdE (by omega)
 unfold qj.K
 rw [a0, an, RGet_eq T]
 refine Ev.bind (Get_ev T key hk seq (l.length : Int)) ?_
 have hg : ∀ o : Option ES, (getT o (lb (bldB l)) (fltr l) (l.length : Int)).1.toList = (qx.res o).1.toList ∧ (getT o (lb (bldB l)) (fltr l) (l.length : Int)).2.1 = (qx.res o).2.1 ∧ (getT o (lb (bldB l)) (fltr l) (l.length : Int)).2.2.1 = (qx.res o).2.2.1 ∧ (getT o (lb (bldB l)) (fltr l) (l.length : Int)).2.2.2.1.toList = (qx.res o).2.2.2.1.toList ∧ (getT o (lb (bldB l)) (fltr l) (l.length : Int)).2.2.2.2.1 = (qx.res o).2.2.2.2 := by
  intro o
  cases o with
  | none => exact ⟨rfl, rfl, rfl, rfl, rfl⟩
  | some x => exact ⟨rfl, rfl, rfl, rfl, rfl⟩
 refine Ev.pos (hg _) ?_
 have hE := Ends_ev T (fltr l) (l.length : Int) l[0] l[l.length - 1] (List.getElem?_eq_getElem _) (List.getElem?_eq_getElem _)
 have hr : ∀ o : Option ES, (getT o (lb (bldB l)) (fltr l) (l.length : Int)).2.2.2.2.2 = (lb (bldB l), fltr l, (l.length : Int)) := by
  intro o
  cases o with
  | none => rfl
  | some x => rfl
 rw [hr]
 refine Ev.bind hE (Ev.pos ⟨smReads _, smReads _⟩ ?_)
 refine Ev.bind (Cost_ev T key hk seq (l.length : Int)) (Ev.bind (RCost_ev T key hk seq) (Ev.pos rfl ?_))
 exact reads_K3 T key n
theorem TableReads : ∀ (a0 : ByteArray) (a1 : ByteArray) (a2 : Int) (a3 : Int), (a0.size ≤ 140737488351232) → (a1.size ≤ 140737488351232) → ((Lit.int .u64 a2).wf = true) → ((Lit.int .i64 a3).wf = true) → ∃ k, qj.f k a0 a1 a2 a3 = some true := by
 intro a0 a1 seq n h0 h1 _ _
 obtain ⟨s, rfl⟩ := ex_lb a0
 obtain ⟨key, rfl⟩ := ex_lb a1
 rw [lb_size] at h0 h1
 refine Ev.rounds ?_
 unfold qj.f
 refine Ev.bind awake_ev (Ev.pos rfl ?_)
 rw [lb_size, lb_size]
 by_cases hc : (16384 < (s.length : Int)) ∨ (300 < (key.length : Int))
 ·exact Ev.pos hc (Ev.val rfl)
 refine Ev.neg hc ?_
 by_cases ht : ∃ l, tabR l = true ∧ s = bldB l
 ·obtain ⟨l, ht, rfl⟩ := ht
  have T := tab_of ht
  have hl := T.len
  refine Ev.bind (Open_build ht) (Ev.bind (ROpen_tab ht (by omega)) ?_)
  unfold qj.two
  exact Ev.pos ⟨rfl, by show 0 < l.length; omega, by show l.length < 1000000; omega⟩ (reads_K T key h1 seq n)
 ·have hno : ∀ l, tabR l = true → s ≠ bldB l := fun l h1 h2 => ht ⟨l, h1, h2⟩
  refine Ev.bind (Open_none s (by omega) hno) (Ev.bind (ROpen_none s (by omega) hno) ?_)
  unfold qj.two
  exact Ev.pos rfl (Ev.val rfl)
end Go.Proofs.Ytgdkikkjaofbfaa.TabS
