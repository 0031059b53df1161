/- What the printed functions come to, in one text (merge.py): NumA, NumU, Blk, Blk2, Blk3, Blk4, Blk5, Blk6, Blk7, Blk8, Blk9. -/
import Derived.Test.YtcogolbgfkikfaaPx0
import Derived.Test.YtcogolbgfkikfaaPx3
import Derived.Test.YtcogolbgfkikfaaPx5
import Derived.Test.YtcogolbgfkikfaaTh2
import Derived.Test.YtcogolbgfkikfaaPx4
import Derived.Test.YtcogolbgfkikfaaPx2
import Derived.Test.YtcogolbgfkikfaaPx6
import Derived.Test.YtcogolbgfkikfaaPx7
import Derived.Test.YtcogolbgfkikfaaPx8
set_option linter.unusedVariables false
set_option linter.unusedSimpArgs false
namespace Go.Proofs.Ytcogolbgfkikfaa.NumS
open Go.RowKit Go.Proofs.Ytcogolbgfkikfaa.P Go.Proofs.Ytcogolbgfkikfaa.Th Go.Proofs.YtcogolbgfkikfaaW.PrintWords Go.Proofs.YtcogolbgfkikfaaW.PrintLast Go.Proofs.YtcogolbgfkikfaaW.PrintMore


theorem short_l0 (m : Nat) : ∀ (n : Nat) (acc : List Int), n < 128 ^ (m + 1) → acc.length + m + 1 < 140737488355328 →
    Ev (fun k => num_Short.l0 k (n : Int) acc) (lb (ofI acc ++ short n)) := by
  induction m with
  | zero =>
    intro n acc h hl
    refine Ev.step (fun k => by rw [num_Short.l0]) ?_
    refine Ev.neg (by omega) (Ev.pos (by omega) (Ev.val ?_))
    rw [son, ofI_app, ofI_mod, short_lt n (by omega)]
  | succ m ih =>
    intro n acc h hl
    refine Ev.step (fun k => by rw [num_Short.l0]) ?_
    rcases Nat.lt_or_ge n 128 with h1 | h1
    · refine Ev.neg (by omega) (Ev.pos (by omega) (Ev.val ?_))
      rw [son, ofI_app, ofI_mod, short_lt n h1]
    · refine Ev.pos (by omega) (Ev.pos (by omega) ?_)
      have e1 : ((n : Int) / 128) = ((n / 128 : Nat) : Int) := by omega
      have e2 : ((n : Int) % 256) = ((n % 256 : Nat) : Int) := by omega
      have e3 : n % 256 % 128 = n % 128 := by omega
      rw [e1, e2, b8_or128 _ (by omega), e3]
      have := ih (n / 128) (acc ++ [((n % 128 + 128 : Nat) : Int)]) (by rw [Nat.div_lt_iff_lt_mul (by decide)]; rw [Nat.pow_succ] at h; exact h) (by simp; omega)
      refine Ev.eq this ?_
      rw [ofI_app, ofI_one, short_ge n h1]; simp
theorem Short_ev (n : Nat) (h : n < 18446744073709551616) : Ev (fun k => num_Short.f k (n : Int)) (lb (short n)) :=
  short_l0 9 n [] (Nat.lt_of_lt_of_le h (by decide)) (by simp)

/-! ### taking -/
def tres : Option (Nat × List UInt8) → Int × ByteArray × Bool
  | some (n, r) => ((n : Int), lb r, true)
  | none => (0, lb [], false)
/-- What is taken behind i bytes that go on, of which the number x was read. -/
def tki (i x : Nat) (l : List UInt8) : Option (Nat × List UInt8) := match tka l with
  | some (m, r) => if (i = 0 ∨ m ≠ 0) ∧ x + m * 2 ^ (7 * i) < 18446744073709551616 then some (x + m * 2 ^ (7 * i), r) else none
  | none => none
theorem tki_zero (l : List UInt8) : tki 0 0 l = tk l := by
  unfold tki tk
  cases tka l with
  | none => rfl
  | some p => obtain ⟨m, r⟩ := p; simp
theorem pow7 (i : Nat) : 2 ^ (7 * (i + 1)) = 128 * 2 ^ (7 * i) := by rw [Nat.mul_add, Nat.pow_add, Nat.mul_comm]
theorem tki_step (i x : Nat) (c : UInt8) (l : List UInt8) (h : ¬ c.toNat < 128) : tki i x (c :: l) = tki (i + 1) (x + c.toNat % 128 * 2 ^ (7 * i)) l := by
  unfold tki
  cases e : tka l with
  | none => rw [tka_none h e]
  | some p =>
    obtain ⟨m, r⟩ := p
    rw [tka_some h e]
    by_cases hm : m = 0
    · simp [hm]
    · have h1 : x + (c.toNat % 128 + 128 * m) * 2 ^ (7 * i) = x + c.toNat % 128 * 2 ^ (7 * i) + m * 2 ^ (7 * (i + 1)) := by
        rw [pow7, Nat.add_mul]
        have : 128 * m * 2 ^ (7 * i) = m * (128 * 2 ^ (7 * i)) := by rw [Nat.mul_comm 128 m, Nat.mul_assoc]
        omega
      have h2 : (i = 0 ∨ c.toNat % 128 + 128 * m ≠ 0) := by omega
      simp only [if_neg hm]
      rw [h1]
      have h3 : (i + 1 = 0 ∨ m ≠ 0) := .inr hm
      simp only [h2, h3, true_and]
theorem tki_big (i x : Nat) (c : UInt8) (l : List UInt8) (hi : 10 ≤ i) : tki i x (c :: l) = none := by
  unfold tki
  cases e : tka (c :: l) with
  | none => rfl
  | some p =>
    obtain ⟨m, r⟩ := p
    simp only
    rw [if_neg]
    rintro ⟨h1, h2⟩
    have hm : m ≠ 0 := by omega
    have : 2 ^ 70 ≤ 2 ^ (7 * i) := Nat.pow_le_pow_right (by decide) (by omega)
    have h3 : 1 * 2 ^ (7 * i) ≤ m * 2 ^ (7 * i) := Nat.mul_le_mul_right _ (by omega)
    omega
theorem tki_over (i x : Nat) (c : UInt8) (l : List UInt8) (hi : 18446744073709551616 ≤ c.toNat % 128 * 2 ^ (7 * i)) : tki i x (c :: l) = none := by
  unfold tki
  cases e : tka (c :: l) with
  | none => rfl
  | some p =>
    obtain ⟨m, r⟩ := p
    simp only
    rw [if_neg]
    rintro ⟨h1, h2⟩
    have hm : c.toNat % 128 ≤ m := by
      rcases Nat.lt_or_ge c.toNat 128 with hc | hc
      · rw [tka_cons_lt _ _ hc] at e; simp at e; omega
      · cases e2 : tka l with
        | none => rw [tka_none (by omega) e2] at e; cases e
        | some q =>
          obtain ⟨m', r'⟩ := q
          rw [tka_some (by omega) e2] at e
          split at e
          · cases e
          · simp at e; omega
    have h3 : c.toNat % 128 * 2 ^ (7 * i) ≤ m * 2 ^ (7 * i) := Nat.mul_le_mul_right _ hm
    omega
theorem tki_last (i x : Nat) (c : UInt8) (l : List UInt8) (h : c.toNat < 128) :
    tki i x (c :: l) = if (i = 0 ∨ c.toNat ≠ 0) ∧ x + c.toNat * 2 ^ (7 * i) < 18446744073709551616 then some (x + c.toNat * 2 ^ (7 * i), l) else none := by
  unfold tki; rw [tka_cons_lt _ _ h]
theorem shl_nat (x y : Nat) (hy : y ≤ 64) : shl .u64 (x : Int) (y : Int) = ((x * 2 ^ y % 18446744073709551616 : Nat) : Int) := by
  unfold shl
  have h : min ((y : Int)).toNat IntKind.u64.bits = y := by show min ((y : Int)).toNat 64 = y; omega
  rw [h, wu]
  simp
theorem shr_nat (x y : Nat) (hy : y ≤ 64) : shr .u64 (x : Int) (y : Int) = ((x / 2 ^ y : Nat) : Int) := by
  unfold shr
  have h : min ((y : Int)).toNat IntKind.u64.bits = y := by show min ((y : Int)).toNat 64 = y; omega
  rw [h]
  simp
theorem shift_back (low j : Nat) (hl : low < 256) : decide ((low * 2 ^ j % 18446744073709551616) / 2 ^ j = low) = decide (low * 2 ^ j < 18446744073709551616) := by
  have hp : 0 < 2 ^ j := Nat.two_pow_pos j
  rcases Nat.lt_or_ge (low * 2 ^ j) 18446744073709551616 with h | h
  · rw [Nat.mod_eq_of_lt h, Nat.mul_div_cancel _ hp]; simp [h]
  · have h1 : (low * 2 ^ j % 18446744073709551616) / 2 ^ j < low := by
      rw [Nat.div_lt_iff_lt_mul hp]; omega
    have h2 : ¬ (low * 2 ^ j < 18446744073709551616) := by omega
    simp only [h2, decide_false, decide_eq_false_iff_not]
    omega
theorem drop_app1 (pre rest : List UInt8) (c : UInt8) : (List.take (pre ++ c :: rest).length (pre ++ c :: rest)).drop (pre.length + 1) = rest := by
  rw [List.take_length, ← List.drop_drop]; simp

theorem take_l0 : ∀ (rest pre : List UInt8) (x : Nat), (pre ++ rest).length ≤ 140737488351232 → (x < 18446744073709551616 ∧ x < 2 ^ (7 * pre.length)) →
    Ev (fun k => num_Take.l0 k (lb (pre ++ rest)) (x : Int) (((lb (pre ++ rest)).size : Nat) : Int) (pre.length : Int)) (tres (tki pre.length x rest)) := by
  intro rest
  induction rest with
  | nil =>
    intro pre x hl hx
    refine Ev.step (fun k => by rw [num_Take.l0]) ?_
    refine Ev.neg (by rw [lb_size]; simp) (Ev.val ?_)
    rfl
  | cons c rest ih =>
    intro pre x hl hx
    have hlen : (pre ++ c :: rest).length = pre.length + 1 + rest.length := by simp; omega
    have hc := u8_lt c
    have hb : IntKind.u64.wrap (bt (lb (pre ++ c :: rest)) (pre.length : Int)) = ((c.toNat : Nat) : Int) := by
      rw [bt_app]; exact wu_nat _ (by omega)
    have e7 : wrap64 (7 * (pre.length : Int)) = ((7 * pre.length : Nat) : Int) := by rw [w64 _ (by omega) (by omega)]; omega
    refine Ev.step (fun k => by rw [num_Take.l0]) ?_
    refine Ev.pos (by rw [lb_size]; omega) (Ev.pos (by omega) (Ev.pos (by rw [lb_size]; omega) ?_))
    rw [hb, e7, b64_andNot128 _ hc]
    by_cases h7 : 64 ≤ 7 * pre.length
    · refine Ev.pos (by omega) ?_
      refine Ev.step (fun k => by rw [num_Take.j1]) ?_
      refine Ev.pos rfl (Ev.val ?_)
      rw [tki_big _ _ _ _ (by omega)]; rfl
    · refine Ev.neg (by omega) (Ev.pos (by omega) ?_)
      rw [shl_nat _ _ (by omega), shr_nat _ _ (by omega)]
      have hsb := shift_back (c.toNat % 128) (7 * pre.length) (by omega)
      have hbne : (((((c.toNat % 128 * 2 ^ (7 * pre.length) % 18446744073709551616) / 2 ^ (7 * pre.length) : Nat) : Int)) != ((c.toNat % 128 : Nat) : Int)) = !decide (c.toNat % 128 * 2 ^ (7 * pre.length) < 18446744073709551616) := by
        rw [← hsb]
        by_cases e : (c.toNat % 128 * 2 ^ (7 * pre.length) % 18446744073709551616) / 2 ^ (7 * pre.length) = c.toNat % 128
        · rw [e]; simp
        · rw [decide_eq_false e]
          have : ((((c.toNat % 128 * 2 ^ (7 * pre.length) % 18446744073709551616) / 2 ^ (7 * pre.length) : Nat) : Int)) ≠ ((c.toNat % 128 : Nat) : Int) := by exact_mod_cast e
          simpa using this
      rw [hbne]
      by_cases hov : c.toNat % 128 * 2 ^ (7 * pre.length) < 18446744073709551616
      · rw [decide_eq_true hov]
        refine Ev.step (fun k => by rw [num_Take.j1]) ?_
        refine Ev.neg (by simp) (Ev.pos (by omega) ?_)
        rw [shl_nat _ _ (by omega), Nat.mod_eq_of_lt hov, b64_or x _ _ hx.2 hov hx.1]
        have e1 : wrap64 ((pre.length : Int) + 1) = ((pre.length + 1 : Nat) : Int) := by rw [w64 _ (by omega) (by omega)]; omega
        have hpow : c.toNat % 128 * 2 ^ (7 * pre.length) ≤ 127 * 2 ^ (7 * pre.length) := Nat.mul_le_mul_right _ (by omega)
        have hlt : x + c.toNat % 128 * 2 ^ (7 * pre.length) < 2 ^ (7 * (pre.length + 1)) := by rw [pow7]; omega
        have hsum : x + c.toNat % 128 * 2 ^ (7 * pre.length) < 18446744073709551616 := by
          have hdiv : (2 ^ (7 * pre.length)) * 2 ^ (64 - 7 * pre.length) = 18446744073709551616 := by
            rw [← Nat.pow_add, show 7 * pre.length + (64 - 7 * pre.length) = 64 by omega]
          have hlow : c.toNat % 128 + 1 ≤ 2 ^ (64 - 7 * pre.length) := by
            rw [← hdiv, Nat.mul_comm] at hov
            exact Nat.lt_of_mul_lt_mul_left hov
          have := Nat.mul_le_mul_left (2 ^ (7 * pre.length)) hlow
          rw [hdiv, Nat.mul_add, Nat.mul_one, Nat.mul_comm] at this
          omega
        by_cases h128 : c.toNat < 128
        · have hm : c.toNat % 128 = c.toNat := Nat.mod_eq_of_lt h128
          rw [hm] at hsum
          refine Ev.pos (by omega) ?_
          rw [tki_last _ _ _ _ h128, e1, hm]
          have hext : (lb (pre ++ c :: rest)).extract (((pre.length + 1 : Nat) : Int)).toNat (lb (pre ++ c :: rest)).size = lb rest := by
            rw [lb_extract, lb_size]
            have : (((pre.length + 1 : Nat) : Int)).toNat = pre.length + 1 := by omega
            rw [this, drop_app1]
          rw [hext]
          by_cases h0 : c.toNat = 0
          · refine Ev.pos (by omega) ?_
            by_cases hi : pre.length = 0
            · refine Ev.neg (by omega) (Ev.pos (by omega) (Ev.pos (by rw [lb_size]; omega) (Ev.val ?_)))
              rw [if_pos ⟨.inl hi, hsum⟩]; rfl
            · refine Ev.pos (by omega) (Ev.val ?_)
              rw [if_neg (by rintro ⟨h, _⟩; omega)]; rfl
          · refine Ev.neg (by omega) (Ev.pos (by omega) (Ev.pos (by rw [lb_size]; omega) (Ev.val ?_)))
            rw [if_pos ⟨.inr h0, hsum⟩]; rfl
        · refine Ev.neg (by omega) ?_
          rw [e1, tki_step _ _ _ _ h128]
          have := ih (pre ++ [c]) (x + c.toNat % 128 * 2 ^ (7 * pre.length)) (by simpa using hl) ⟨hsum, by simpa using hlt⟩
          simpa using this
      · rw [decide_eq_false hov]
        refine Ev.step (fun k => by rw [num_Take.j1]) ?_
        refine Ev.pos rfl (Ev.val ?_)
        rw [tki_over _ _ _ _ (by omega)]; rfl
theorem Take_ev (l : List UInt8) (h : l.length ≤ 140737488351232) : Ev (fun k => num_Take.f k (lb l)) (tres (tk l)) := by
  have := take_l0 l [] 0 (by simpa using h) (by simp)
  simp only [List.nil_append, List.length_nil, tki_zero] at this
  exact this
end Go.Proofs.Ytcogolbgfkikfaa.NumS
set_option linter.unusedVariables false
set_option linter.unusedSimpArgs false
namespace Go.Proofs.Ytcogolbgfkikfaa.NumS
open Go.RowKit Go.Proofs.Ytcogolbgfkikfaa.P Go.Proofs.Ytcogolbgfkikfaa.Th Go.Proofs.YtcogolbgfkikfaaW.PrintWords Go.Proofs.YtcogolbgfkikfaaW.PrintLast Go.Proofs.YtcogolbgfkikfaaW.PrintMore

theorem Long_f (n : Nat) : num_Long.f (n : Int) = some (lb (long n)) := by
  unfold num_Long.f
  congr 1
  rw [son]
  congr 1
  simp only [num_Long.bs, ofI, long, longk, List.map_cons, List.map_nil, List.nil_append, List.cons_append, Nat.div_div_eq_div_mul]
  have e0 : ((n : Int) % 256).toNat = n % 256 := by omega
  have e1 : ((n : Int) / 256 % 256).toNat = n / 256 % 256 := by omega
  have e2 : ((n : Int) / 65536 % 256).toNat = n / 65536 % 256 := by omega
  have e3 : ((n : Int) / 16777216 % 256).toNat = n / 16777216 % 256 := by omega
  have e4 : ((n : Int) / 4294967296 % 256).toNat = n / 4294967296 % 256 := by omega
  have e5 : ((n : Int) / 1099511627776 % 256).toNat = n / 1099511627776 % 256 := by omega
  have e6 : ((n : Int) / 281474976710656 % 256).toNat = n / 281474976710656 % 256 := by omega
  have e7 : ((n : Int) / 72057594037927936 % 256).toNat = n / 72057594037927936 % 256 := by omega
  rw [e0, e1, e2, e3, e4, e5, e6, e7]
theorem b64_or' (b i a : Nat) (ha : a < 2 ^ i) (hb : b * 2 ^ i < 18446744073709551616) (ha2 : a < 18446744073709551616) : Go.bits .or .u64 ((b * 2 ^ i : Nat) : Int) (a : Int) = ((b * 2 ^ i + a : Nat) : Int) := by
  rw [(bits_nat .u64 64 (by decide) wraps_u64 (b * 2 ^ i) a (by simpa using hb) (by simpa using ha2)).2]
  rw [Nat.mul_comm b, ← Nat.two_pow_add_eq_or_of_lt ha b]
theorem unlong_l0 : ∀ (rest pre : List UInt8), pre.length + rest.length = 8 →
    Ev (fun k => num_Unlong.l0 k (lb (pre ++ rest)) ((be 0 pre : Nat) : Int) (pre.length : Int)) (((be 0 (pre ++ rest) : Nat) : Int), true) := by
  intro rest
  induction rest with
  | nil =>
    intro pre h
    refine Ev.step (fun k => by rw [num_Unlong.l0]) ?_
    refine Ev.neg (by simp at h; omega) (Ev.val ?_)
    simp
  | cons c rest ih =>
    intro pre h
    have h' : pre.length + (rest.length + 1) = 8 := by simpa using h
    have hc := u8_lt c
    have hlt := be_lt pre 0
    have hp : 256 ^ pre.length ≤ 256 ^ 7 := Nat.pow_le_pow_right (by decide) (by omega)
    refine Ev.step (fun k => by rw [num_Unlong.l0]) ?_
    refine Ev.pos (by omega) (Ev.pos (by omega) (Ev.pos (by rw [lb_size]; simp; omega) ?_))
    rw [bt_app, wu_nat _ (by omega)]
    have e1 : wrap64 ((pre.length : Int) + 1) = ((pre.length + 1 : Nat) : Int) := by rw [w64 _ (by omega) (by omega)]; omega
    have e2 : IntKind.u64.wrap (((be 0 pre : Nat) : Int) * 256) = ((be 0 pre * 2 ^ 8 : Nat) : Int) := by
      rw [wu_in _ (by omega) (by omega)]; omega
    rw [e1, e2, b64_or' _ 8 _ (by omega) (by omega) (by omega)]
    have := ih (pre ++ [c]) (by simp; omega)
    rw [be_app, be_cons, be_nil] at this
    simpa using this
def ures (l : List UInt8) : Int × Bool := if l.length = 8 then (((be 0 l : Nat) : Int), true) else (0, false)
theorem Unlong_ev (l : List UInt8) : Ev (fun k => num_Unlong.f k (lb l)) (ures l) := by
  unfold ures num_Unlong.f
  by_cases h : l.length = 8
  · rw [if_pos h]
    refine Ev.pos (by rw [lb_size]; omega) ?_
    exact unlong_l0 l [] (by simpa using h)
  · rw [if_neg h]
    exact Ev.neg (by rw [lb_size]; omega) (Ev.now _)
end Go.Proofs.Ytcogolbgfkikfaa.NumS
set_option linter.unusedVariables false
set_option linter.unusedSimpArgs false
namespace Go.Proofs.Ytcogolbgfkikfaa.BlkS
open Go.RowKit Go.Proofs.Ytcogolbgfkikfaa.P Go.Proofs.Ytcogolbgfkikfaa.Th Go.Proofs.Ytcogolbgfkikfaa.NumS Go.Proofs.YtcogolbgfkikfaaW.PrintWords Go.Proofs.YtcogolbgfkikfaaW.PrintLast Go.Proofs.YtcogolbgfkikfaaW.PrintMore

abbrev ES := S35
theorem size_bl (s : ByteArray) : s.size = (bl s).length := by rw [← lb_size, lb_bl]
theorem toL_bl (s : ByteArray) : s.toList = bl s := by
  have := lb_toList (bl s)
  rwa [lb_bl] at this
theorem rdE {l : List ES} {i : Nat} (h : i < l.length) : rd_T35 l (i : Int) = l[i] := by simp [rd_T35, h]

/-! ### what two texts share -/
def comm : List UInt8 → List UInt8 → Nat
  | a :: l, b :: m => if a = b then comm l m + 1 else 0
  | _, _ => 0
theorem comm_nil (b : List UInt8) : comm [] b = 0 := by cases b <;> rfl
theorem comm_nil' (a : List UInt8) : comm a [] = 0 := by cases a <;> rfl
theorem comm_cons (a b : UInt8) (l m : List UInt8) : comm (a :: l) (b :: m) = if a = b then comm l m + 1 else 0 := rfl
theorem comm_le : ∀ (a b : List UInt8), comm a b ≤ a.length ∧ comm a b ≤ b.length := by
  intro a
  induction a with
  | nil => intro b; rw [comm_nil]; simp
  | cons x a ih =>
    intro b
    cases b with
    | nil => rw [comm_nil']; simp
    | cons y b =>
      rw [comm_cons]
      have := ih b
      split <;> simp <;> omega
theorem comm_take : ∀ (a b : List UInt8), a.take (comm a b) = b.take (comm a b) := by
  intro a
  induction a with
  | nil => intro b; rw [comm_nil]; simp
  | cons x a ih =>
    intro b
    cases b with
    | nil => rw [comm_nil']; simp
    | cons y b =>
      rw [comm_cons]
      by_cases h : x = y
      · rw [if_pos h, h, List.take_succ_cons, List.take_succ_cons, ih b]
      · rw [if_neg h]; simp
theorem comm_ne : ∀ (a b : List UInt8) (h1 : comm a b < a.length) (h2 : comm a b < b.length), a[comm a b] ≠ b[comm a b] := by
  intro a
  induction a with
  | nil => intro b h1 h2; simp at h1
  | cons x a ih =>
    intro b
    cases b with
    | nil => intro h1 h2; simp at h2
    | cons y b =>
      by_cases h : x = y
      · have e : comm (x :: a) (y :: b) = comm a b + 1 := by rw [comm_cons, if_pos h]
        intro h1 h2
        have := ih b (by rw [e] at h1; simpa using h1) (by rw [e] at h2; simpa using h2)
        simpa [e] using this
      · have e : comm (x :: a) (y :: b) = 0 := by rw [comm_cons, if_neg h]
        intro h1 h2
        simpa [e] using h
theorem comm_sym : ∀ (a b : List UInt8), comm a b = comm b a := by
  intro a
  induction a with
  | nil => intro b; rw [comm_nil, comm_nil']
  | cons x a ih =>
    intro b
    cases b with
    | nil => rw [comm_nil, comm_nil']
    | cons y b => rw [comm_cons, comm_cons, ih b]; by_cases h : x = y <;> simp [h, eq_comm]
theorem comm_app (c a b : List UInt8) : comm (c ++ a) (c ++ b) = c.length + comm a b := by
  induction c with
  | nil => simp
  | cons x c ih => rw [List.cons_append, List.cons_append, comm_cons, if_pos rfl, ih, List.length_cons]; omega
theorem comm_self (a : List UInt8) : comm a a = a.length := by
  have := comm_app a [] []
  simpa [comm_nil] using this
theorem shared_l0 (a b : List UInt8) (m : Nat) (hm : m = min a.length b.length) (ha : a.length ≤ 1000000000) : ∀ (n i : Nat), i + n = m → Ev (fun k => block_Shared.l0 k (lb a) (lb b) (m : Int) (m : Int) (i : Int)) ((i + comm (a.drop i) (b.drop i) : Nat) : Int) := by
  intro n
  induction n with
  | zero =>
    intro i hi
    refine Ev.step (fun k => by rw [block_Shared.l0]) ?_
    refine Ev.neg (by omega) (Ev.val ?_)
    have : comm (a.drop i) (b.drop i) = 0 := by
      rcases Nat.le_total a.length b.length with h | h
      · rw [List.drop_eq_nil_of_le (show a.length ≤ i by omega), comm_nil]
      · rw [List.drop_eq_nil_of_le (show b.length ≤ i by omega), comm_nil']
    rw [this]; congr 1; omega
  | succ n ih =>
    intro i hi
    have h1 : i < a.length := by omega
    have h2 : i < b.length := by omega
    refine Ev.step (fun k => by rw [block_Shared.l0]) ?_
    refine Ev.pos (by omega) (Ev.pos (by omega) (Ev.pos (by rw [lb_size]; omega) (Ev.pos (by rw [lb_size]; omega) ?_)))
    rw [bt_nat a i h1, bt_nat b i h2, List.drop_eq_getElem_cons h1, List.drop_eq_getElem_cons h2, comm_cons]
    by_cases h : a[i] = b[i]
    · rw [if_pos h]
      refine Ev.pos (by rw [h]) ?_
      rw [w64 _ (by omega) (by omega)]
      refine Ev.eq (ih (i + 1) (by omega)) ?_
      congr 1; omega
    · rw [if_neg h]
      exact Ev.neg (fun e => h (u8_ext (by omega))) (Ev.val rfl)
theorem Shared_ev (a b : List UInt8) (ha : a.length ≤ 1000000000) : Ev (fun k => block_Shared.f k (lb a) (lb b)) ((comm a b : Nat) : Int) := by
  have := shared_l0 a b _ rfl ha (min a.length b.length) 0 (by omega)
  simp only [block_Shared.f, lb_size, mn_nat]
  refine Ev.eq this ?_
  simp

/-! ### what may be an entry, what may be a row -/
def okE (x : ES) : Bool := decide (1 ≤ (bl x.f0).length ∧ (bl x.f0).length ≤ 100 ∧ (bl x.f3).length ≤ 100 ∧ (x.f2 = true → bl x.f3 = []) ∧ 1 ≤ x.f1 ∧ x.f1 ≤ 1099511627776)
theorem may_f (x : ES) : block_may.f x.f0 x.f1 x.f2 x.f3 = some (okE x) := by
  unfold block_may.f okE
  rw [toL_bl, toL_bl, size_bl, size_bl]
  by_cases h : bl x.f0 = []
  · rw [if_pos h, h]; simp
  · rw [if_neg h]
    have h0 : 1 ≤ (bl x.f0).length := List.length_pos_iff.2 h
    by_cases h1 : ((bl x.f0).length : Int) ≤ 100
    · rw [if_pos h1]
      by_cases h2 : ((bl x.f3).length : Int) ≤ 100
      · rw [if_pos h2]
        cases hd : x.f2
        · rw [if_neg (by simp)]
          by_cases h3 : x.f1 > 0
          · rw [if_pos h3]
            congr 1; rw [Bool.eq_iff_iff]; simp only [decide_eq_true_eq]
            exact ⟨fun h4 => ⟨h0, by omega, by omega, by simp, by omega, h4⟩, fun h4 => h4.2.2.2.2.2⟩
          · rw [if_neg h3]
            congr 1; symm; rw [decide_eq_false_iff_not]; intro h4; omega
        · rw [if_pos rfl]
          by_cases h5 : bl x.f3 = []
          · rw [if_pos h5]
            by_cases h3 : x.f1 > 0
            · rw [if_pos h3]
              congr 1; rw [Bool.eq_iff_iff]; simp only [decide_eq_true_eq]
              exact ⟨fun h4 => ⟨h0, by omega, by omega, fun _ => h5, by omega, h4⟩, fun h4 => h4.2.2.2.2.2⟩
            · rw [if_neg h3]
              congr 1; symm; rw [decide_eq_false_iff_not]; intro h4; omega
          · rw [if_neg h5]
            congr 1; symm; rw [decide_eq_false_iff_not]; intro h4; exact h5 (h4.2.2.2.1 rfl)
      · rw [if_neg h2]
        congr 1; symm; rw [decide_eq_false_iff_not]; intro h3; omega
    · rw [if_neg h1]
      congr 1; symm; rw [decide_eq_false_iff_not]; intro h3; omega
theorem idx_f : ∀ (l : List ES) (i : Nat), ∃ r, api_Entry_46.idx l (i : Int) = some r ∧ decide (r ≥ 0) = !(l.all okE) := by
  intro l
  induction l with
  | nil => intro i; exact ⟨-1, rfl, by simp⟩
  | cons x l ih =>
    intro i
    rw [api_Entry_46.idx]
    unfold block_row_1.f
    rw [may_f]
    simp only [Option.bind_some]
    cases h : okE x
    · exact ⟨(i : Int), by simp, by simp [h]⟩
    · obtain ⟨r, h1, h2⟩ := ih (i + 1)
      refine ⟨r, ?_, ?_⟩
      · simpa using h1
      · rw [h2]; simp [h]
/-- Does an entry stand before another one? -/
def ltE (x y : ES) : Bool := Op.bytesLess (bl x.f0) (bl y.f0) || (decide (bl x.f0 = bl y.f0) && decide (x.f1 > y.f1))
def sorted : List ES → Bool
  | x :: y :: l => ltE x y && sorted (y :: l)
  | _ => true
theorem cmp_ev (x y : ES) : ∃ r : Int, Ev (fun k => merge_compare.f k x.f0 x.f1 x.f2 x.f3 y.f0 y.f1 y.f2 y.f3) r ∧ decide (r ≥ 0) = !(ltE x y) := by
  have j0 : ∀ b, ∃ r : Int, Ev (fun k => merge_compare.j0 k b x.f0 x.f1 x.f2 x.f3 y.f0 y.f1 y.f2 y.f3) r ∧ decide (r ≥ 0) = !b := by
    intro b
    cases b
    · by_cases h : x.f0.toList = y.f0.toList
      · by_cases h2 : x.f1 = y.f1
        · refine ⟨0, Ev.step (fun k => by rw [merge_compare.j0]) ?_, rfl⟩
          exact Ev.neg (by simp) (Ev.pos h (Ev.pos h2 (Ev.val rfl)))
        · refine ⟨1, Ev.step (fun k => by rw [merge_compare.j0]) ?_, rfl⟩
          exact Ev.neg (by simp) (Ev.pos h (Ev.neg h2 (Ev.val rfl)))
      · refine ⟨1, Ev.step (fun k => by rw [merge_compare.j0]) ?_, rfl⟩
        exact Ev.neg (by simp) (Ev.neg h (Ev.val rfl))
    · refine ⟨-1, Ev.step (fun k => by rw [merge_compare.j0]) ?_, rfl⟩
      exact Ev.pos rfl (Ev.val rfl)
  unfold merge_compare.f ltE
  by_cases h : Op.bytesLess x.f0.toList y.f0.toList = true
  · obtain ⟨r, h1, h2⟩ := j0 true
    refine ⟨r, Ev.pos h h1, ?_⟩
    rw [toL_bl, toL_bl] at h
    rw [h2, h]; rfl
  · have h' : Op.bytesLess (bl x.f0) (bl y.f0) = false := by rw [toL_bl, toL_bl] at h; simpa using h
    by_cases h3 : x.f0.toList = y.f0.toList
    · obtain ⟨r, h1, h2⟩ := j0 (decide (x.f1 > y.f1))
      refine ⟨r, Ev.neg h (Ev.pos h3 h1), ?_⟩
      rw [toL_bl, toL_bl] at h3
      rw [h2, h', decide_eq_true h3]; simp
    · obtain ⟨r, h1, h2⟩ := j0 false
      refine ⟨r, Ev.neg h (Ev.neg h3 h1), ?_⟩
      rw [toL_bl, toL_bl] at h3
      rw [h2, h', decide_eq_false h3]; rfl
theorem sorted_drop (l : List ES) (i : Nat) (h : i + 1 < l.length) : sorted (l.drop i) = (ltE (l[i]'(by omega)) l[i + 1] && sorted (l.drop (i + 1))) := by
  rw [List.drop_eq_getElem_cons (show i < l.length by omega), List.drop_eq_getElem_cons h]; rfl
theorem row_l0 (l : List ES) (hl : l.length ≤ 1000000) : ∀ (n i : Nat), 1 ≤ i → i + n = max 1 l.length → Ev (fun k => merge_Row.l0 k l (i : Int)) (sorted (l.drop (i - 1))) := by
  intro n
  induction n with
  | zero =>
    intro i h1 hi
    refine Ev.step (fun k => by rw [merge_Row.l0]) ?_
    refine Ev.neg (by omega) (Ev.val ?_)
    congr 1; symm
    have : (l.drop (i - 1)).length ≤ 1 := by rw [List.length_drop]; omega
    match h : l.drop (i - 1) with
    | [] => rfl
    | [x] => rfl
    | x :: y :: r => rw [h] at this; simp at this
  | succ n ih =>
    intro i h1 hi
    have h2 : i < l.length := by omega
    obtain ⟨i, rfl⟩ : ∃ j, i = j + 1 := ⟨i - 1, by omega⟩
    refine Ev.step (fun k => by rw [merge_Row.l0]) ?_
    have e : wrap64 (((i + 1 : Nat) : Int) - 1) = (i : Int) := by rw [w64 _ (by omega) (by omega)]; omega
    rw [e]
    refine Ev.pos (by omega) (Ev.pos (by omega) (Ev.pos (by omega) (Ev.pos (by omega) ?_)))
    rw [rdE (show i < l.length by omega), rdE h2]
    obtain ⟨r, hr, hd⟩ := cmp_ev l[i] l[i + 1]
    refine Ev.bind hr ?_
    rw [Nat.add_sub_cancel, sorted_drop l i h2]
    by_cases h3 : r ≥ 0
    · rw [decide_eq_true h3] at hd
      refine Ev.pos h3 (Ev.val ?_)
      have : ltE l[i] l[i + 1] = false := by cases hh : ltE l[i] l[i + 1] <;> simp [hh] at hd ⊢
      rw [this]; rfl
    · rw [decide_eq_false h3] at hd
      have : ltE l[i] l[i + 1] = true := by cases hh : ltE l[i] l[i + 1] <;> simp [hh] at hd ⊢
      refine Ev.neg h3 ?_
      rw [this, Bool.true_and, w64 _ (by omega) (by omega)]
      have := ih (i + 1 + 1) (by omega) (by omega)
      simpa using this
theorem Row_ev (l : List ES) (hl : l.length ≤ 1000000) : Ev (fun k => merge_Row.f k l) (sorted l) := by
  have := row_l0 l hl (max 1 l.length - 1) 1 (by omega) (by omega)
  simpa [merge_Row.f] using this
def rowB (l : List ES) : Bool := decide (1 ≤ l.length ∧ l.length ≤ 32) && (sorted l && l.all okE)
theorem row_ev (l : List ES) (hl : l.length ≤ 1000000) : Ev (fun k => block_row.f k l) (rowB l) := by
  unfold block_row.f rowB
  by_cases h1 : (l.length : Int) > 0
  · refine Ev.pos h1 ?_
    by_cases h2 : (l.length : Int) ≤ 32
    · refine Ev.pos h2 (Ev.bind (Row_ev l hl) ?_)
      rw [decide_eq_true (show 1 ≤ l.length ∧ l.length ≤ 32 from ⟨by omega, by omega⟩)]
      cases hs : sorted l
      · exact Ev.neg (by simp) (Ev.val rfl)
      · refine Ev.pos rfl (Ev.val ?_)
        unfold api_Entry_46.f
        rw [if_pos (by omega)]
        obtain ⟨r, h3, h4⟩ := idx_f l 0
        have h3' : api_Entry_46.idx l 0 = some r := h3
        rw [h3']
        simp only [Option.bind_some, h4]
        simp
    · rw [decide_eq_false (show ¬ (1 ≤ l.length ∧ l.length ≤ 32) from fun h => by omega)]
      exact Ev.neg h2 (Ev.val rfl)
  · rw [decide_eq_false (show ¬ (1 ≤ l.length ∧ l.length ≤ 32) from fun h => by omega)]
    exact Ev.neg h1 (Ev.val rfl)
theorem rowB_len {l : List ES} (h : rowB l = true) : 1 ≤ l.length ∧ l.length ≤ 32 := by
  unfold rowB at h; rw [Bool.and_eq_true] at h; exact of_decide_eq_true h.1
theorem rowB_sorted {l : List ES} (h : rowB l = true) : sorted l = true := by
  unfold rowB at h; rw [Bool.and_eq_true, Bool.and_eq_true] at h; exact h.2.1
theorem rowB_all {l : List ES} (h : rowB l = true) : ∀ x ∈ l, okE x = true := by
  unfold rowB at h; rw [Bool.and_eq_true, Bool.and_eq_true] at h; exact List.all_eq_true.1 h.2.2
end Go.Proofs.Ytcogolbgfkikfaa.BlkS
set_option linter.unusedVariables false
set_option linter.unusedSimpArgs false
namespace Go.Proofs.Ytcogolbgfkikfaa.BlkS
open Go.RowKit Go.Proofs.Ytcogolbgfkikfaa.P Go.Proofs.Ytcogolbgfkikfaa.Th Go.Proofs.Ytcogolbgfkikfaa.NumS Go.Proofs.YtcogolbgfkikfaaW.PrintWords Go.Proofs.YtcogolbgfkikfaaW.PrintLast Go.Proofs.YtcogolbgfkikfaaW.PrintMore

def u64 (n : Int) : Prop := 0 ≤ n ∧ n < 18446744073709551616
def sh (n : Int) : List UInt8 := short n.toNat
theorem Sh_ev {n : Int} (h : u64 n) : Ev (fun k => num_Short.f k n) (lb (sh n)) := by
  obtain ⟨m, rfl⟩ := Int.eq_ofNat_of_zero_le h.1
  exact Short_ev m (by have := h.2; omega)
theorem sh_len {n : Int} (h : u64 n) : (sh n).length ≤ 10 := short_len10 _ (by have := h.1; have := h.2; omega)
theorem okE_iff {x : ES} (h : okE x = true) : 1 ≤ (bl x.f0).length ∧ (bl x.f0).length ≤ 100 ∧ (bl x.f3).length ≤ 100 ∧ (x.f2 = true → bl x.f3 = []) ∧ 1 ≤ x.f1 ∧ x.f1 ≤ 1099511627776 := of_decide_eq_true h
theorem okE_u {x : ES} (h : okE x = true) : u64 x.f1 := by have := okE_iff h; exact ⟨by omega, by omega⟩

/-- An entry's bytes, of whose key n bytes are shared. -/
def entB (n : Nat) (x : ES) : List UInt8 := short n ++ (short ((bl x.f0).length - n) ++ ((bl x.f0).drop n ++ (sh x.f1 ++ ((if x.f2 = true then (1 : UInt8) else 0) :: (short (bl x.f3).length ++ bl x.f3)))))
def shB (i : Nat) (p : List UInt8) (x : ES) : Nat := if i % 4 = 0 then 0 else comm p (bl x.f0)
def bodyB : Nat → List UInt8 → List ES → List UInt8
  | _, _, [] => []
  | i, p, x :: l => entB (shB i p x) x ++ bodyB (i + 1) (bl x.f0) l
def startsB : Nat → Nat → List UInt8 → List ES → List Nat
  | _, _, _, [] => []
  | i, j, p, x :: l => (if i % 4 = 0 then [j] else []) ++ startsB (i + 1) (j + (entB (shB i p x) x).length) (bl x.f0) l
def encB (l : List ES) : List UInt8 := bodyB 0 [] l ++ (startsB 0 0 [] l).flatMap long ++ long l.length
def encr (l : List ES) : ByteArray × Int := if rowB l = true then (lb (encB l), 0) else (lb [], 2)
theorem shB_le (i : Nat) (p : List UInt8) (x : ES) : shB i p x ≤ (bl x.f0).length := by
  unfold shB; split
  · omega
  · exact (comm_le _ _).2
theorem entB_len {n : Nat} {x : ES} (h : okE x = true) (hn : n ≤ (bl x.f0).length) : (entB n x).length ≤ 300 := by
  have h1 := okE_iff h
  have h2 := short_len10 n (by omega)
  have h3 := short_len10 ((bl x.f0).length - n) (by omega)
  have h4 := sh_len (okE_u h)
  have h5 := short_len10 (bl x.f3).length (by omega)
  unfold entB
  simp only [List.length_append, List.length_drop, List.length_cons]
  omega
theorem wr_some (acc : List UInt8) (s : List UInt8) (h1 : acc.length ≤ 1000000) (h2 : s.length ≤ 1000000) : block_Encode.wr acc (lb s) = some (acc ++ s) := by
  unfold block_Encode.wr
  rw [if_pos (by rw [lb_size]; omega), bl_lb]
theorem ent_ev (acc : List UInt8) (n : Nat) (x : ES) (h : okE x = true) (hn : n ≤ (bl x.f0).length) (ha : acc.length ≤ 100000) : Ev (fun k => block_Encode.ent k acc (n : Int) x) (acc ++ entB n x) := by
  have h1 := okE_iff h
  have l2 := short_len10 n (by omega)
  have l3 := short_len10 ((bl x.f0).length - n) (by omega)
  have l4 := sh_len (okE_u h)
  have l5 := short_len10 (bl x.f3).length (by omega)
  have e1 : IntKind.u64.wrap (n : Int) = (n : Int) := wu_nat n (by omega)
  have e2 : IntKind.u64.wrap (wrap64 (((bl x.f0).length : Int) - (n : Int))) = (((bl x.f0).length - n : Nat) : Int) := by
    rw [w64 _ (by omega) (by omega), wu_in _ (by omega) (by omega)]; omega
  have e3 : IntKind.u64.wrap ((bl x.f3).length : Int) = ((bl x.f3).length : Int) := wu_nat _ (by omega)
  unfold block_Encode.ent
  rw [size_bl x.f0, size_bl x.f3, e1, e2, e3]
  refine Ev.bind (Short_ev n (by omega)) (Ev.just (wr_some _ _ (by omega) (by omega)) ?_)
  refine Ev.bind (Short_ev _ (by omega)) (Ev.just (wr_some _ _ (by simp only [List.length_append]; omega) (by omega)) ?_)
  refine Ev.pos (by omega) (Ev.pos (by omega) ?_)
  have e4 : x.f0.extract ((n : Int)).toNat (bl x.f0).length = lb ((bl x.f0).drop n) := by
    conv => lhs; rw [← lb_bl x.f0]
    rw [lb_extract, bl_lb, List.take_length, Int.toNat_natCast]
  rw [e4]
  refine Ev.just (wr_some _ _ (by simp only [List.length_append]; omega) (by simp only [List.length_drop]; omega)) ?_
  refine Ev.bind (Sh_ev (okE_u h)) (Ev.just (wr_some _ _ (by simp only [List.length_append, List.length_drop]; omega) (by omega)) ?_)
  refine Ev.just (a := _ ++ [if x.f2 = true then (1 : UInt8) else 0]) (by unfold block_Encode.wb; rw [if_pos (by simp only [List.length_append, List.length_drop]; omega)]) ?_
  refine Ev.bind (Short_ev _ (by omega)) (Ev.just (wr_some _ _ (by simp only [List.length_append, List.length_drop, List.length_singleton]; omega) (by omega)) ?_)
  refine Ev.val ?_
  have := wr_some (acc ++ short n ++ short ((bl x.f0).length - n) ++ (bl x.f0).drop n ++ sh x.f1 ++ [if x.f2 = true then (1 : UInt8) else 0] ++ short (bl x.f3).length) (bl x.f3) (by simp only [List.length_append, List.length_drop, List.length_singleton]; omega) (by omega)
  rw [lb_bl] at this
  rw [this]
  simp [entB]
def prev (L : List ES) : Nat → List UInt8
  | 0 => []
  | i + 1 => match L[i]? with | some x => bl x.f0 | none => []
theorem prev_succ {L : List ES} {i : Nat} (h : i < L.length) : prev L (i + 1) = bl L[i].f0 := by simp only [prev, List.getElem?_eq_getElem h]
theorem go_ev (L : List ES) (hall : ∀ x ∈ L, okE x = true) (hL : L.length ≤ 32) : ∀ (n i : Nat) (acc : List UInt8) (st : List Int), i + n = L.length → acc.length ≤ 300 * i →
    Ev (fun k => block_Encode.go k L i (L.drop i) acc st) (acc ++ bodyB i (prev L i) (L.drop i), st ++ (startsB i acc.length (prev L i) (L.drop i)).map Int.ofNat) := by
  intro n
  induction n with
  | zero =>
    intro i acc st hi ha
    rw [List.drop_eq_nil_of_le (by omega)]
    exact Ev.val (by simp [block_Encode.go, bodyB, startsB])
  | succ n ih =>
    intro i acc st hi ha
    have h1 : i < L.length := by omega
    have hx := hall L[i] (List.getElem_mem h1)
    rw [List.drop_eq_getElem_cons h1]
    simp only [block_Encode.go, bodyB, startsB]
    by_cases h4 : i % 4 = 0
    · have e : shB i (prev L i) L[i] = 0 := by unfold shB; rw [if_pos h4]
      rw [e, if_pos h4]
      refine Ev.pos h4 (Ev.bind (ent_ev acc 0 L[i] hx (by omega) (by omega)) ?_)
      have hl := entB_len (n := 0) hx (by omega)
      refine Ev.eq (ih (i + 1) _ _ (by omega) (by simp only [List.length_append]; omega)) ?_
      rw [prev_succ h1]
      simp
    · have e : shB i (prev L i) L[i] = comm (prev L i) (bl L[i].f0) := by unfold shB; rw [if_neg h4]
      obtain ⟨j, rfl⟩ : ∃ j, i = j + 1 := ⟨i - 1, by omega⟩
      have h2 : j < L.length := by omega
      have hp := okE_iff (hall L[j] (List.getElem_mem h2))
      have hc := comm_le (bl L[j].f0) (bl L[j + 1].f0)
      rw [prev_succ h2] at e
      rw [prev_succ h2, e, if_neg h4]
      refine Ev.neg h4 ?_
      have er : rd_T35 L (((j + 1 : Nat) : Int) - 1) = L[j] := by
        rw [show (((j + 1 : Nat) : Int) - 1) = (j : Int) by omega]; exact rdE h2
      rw [er]
      have hs := Shared_ev (bl L[j].f0) (bl L[j + 1].f0) (by omega)
      rw [lb_bl, lb_bl] at hs
      refine Ev.bind hs (Ev.bind (ent_ev acc _ L[j + 1] hx hc.2 (by omega)) ?_)
      have hl := entB_len (n := comm (bl L[j].f0) (bl L[j + 1].f0)) hx hc.2
      refine Ev.eq (ih (j + 1 + 1) _ _ (by omega) (by simp only [List.length_append]; omega)) ?_
      rw [prev_succ h1]
      simp
theorem body_len (l : List ES) : ∀ (i : Nat) (p : List UInt8), (∀ x ∈ l, okE x = true) → (bodyB i p l).length ≤ 300 * l.length := by
  induction l with
  | nil => intro i p _; simp [bodyB]
  | cons x l ih =>
    intro i p h
    have h1 := entB_len (h x (by simp)) (shB_le i p x)
    have h2 := ih (i + 1) (bl x.f0) (fun y hy => h y (by simp [hy]))
    simp only [bodyB, List.length_append, List.length_cons]
    omega
theorem starts_le (l : List ES) : ∀ (i j : Nat) (p : List UInt8), (∀ x ∈ l, okE x = true) → ∀ a ∈ startsB i j p l, a ≤ j + 300 * l.length := by
  induction l with
  | nil => intro i j p _ a ha; simp [startsB] at ha
  | cons x l ih =>
    intro i j p h a ha
    have h1 := entB_len (h x (by simp)) (shB_le i p x)
    simp only [startsB, List.mem_append] at ha
    simp only [List.length_cons]
    rcases ha with ha | ha
    · split at ha
      · simp only [List.mem_singleton] at ha; omega
      · simp at ha
    · have := ih (i + 1) _ (bl x.f0) (fun y hy => h y (by simp [hy])) a ha
      omega
theorem starts_len (l : List ES) : ∀ (i j : Nat) (p : List UInt8), (startsB i j p l).length ≤ l.length := by
  induction l with
  | nil => intro i j p; simp [startsB]
  | cons x l ih =>
    intro i j p
    have := ih (i + 1) (j + (entB (shB i p x) x).length) (bl x.f0)
    simp only [startsB, List.length_append, List.length_cons]
    split <;> simp <;> omega
theorem longs_len (st : List Nat) : (st.flatMap long).length = 8 * st.length := by
  induction st with
  | nil => rfl
  | cons a l ih => simp only [List.flatMap_cons, List.length_append, List.length_cons, long_len, ih]; omega
theorem tl_f : ∀ (st : List Nat) (acc : List UInt8), (∀ a ∈ st, a < 18446744073709551616) → acc.length + 8 * st.length ≤ 1000000 → block_Encode.tl (st.map Int.ofNat) acc = some (acc ++ st.flatMap long) := by
  intro st
  induction st with
  | nil => intro acc _ _; simp [block_Encode.tl]
  | cons a l ih =>
    intro acc h ha
    have h1 := h a (by simp)
    simp only [List.length_cons] at ha
    simp only [List.map_cons, block_Encode.tl]
    rw [show (Int.ofNat a) = (a : Int) from rfl, wu_nat a h1, Long_f]
    simp only [Option.bind_some]
    rw [wr_some _ _ (by omega) (by rw [long_len]; omega)]
    simp only [Option.bind_some]
    rw [ih _ (fun b hb => h b (by simp [hb])) (by rw [List.length_append, long_len]; omega)]
    simp
theorem Encode_ev (l : List ES) (hl : l.length ≤ 1000000) : Ev (fun k => block_Encode.f k l) (encr l) := by
  unfold block_Encode.f
  refine Ev.bind (row_ev l hl) ?_
  unfold encr
  cases h : rowB l
  · exact Ev.neg (by simp) (Ev.val rfl)
  · have h1 := rowB_len h
    have hall := rowB_all h
    refine Ev.pos rfl (Ev.pos hl ?_)
    have hg := go_ev l hall h1.2 l.length 0 [] [] (by omega) (by simp)
    refine Ev.bind (a := (bodyB 0 [] l, (startsB 0 0 [] l).map Int.ofNat)) (Ev.eq hg (by simp [prev])) ?_
    have hb := body_len l 0 [] hall
    have hs := starts_len l 0 0 []
    have hle := starts_le l 0 0 [] hall
    refine Ev.just (tl_f (startsB 0 0 [] l) (bodyB 0 [] l) (fun a ha => by have := hle a ha; omega) (by omega)) ?_
    refine Ev.just (a := lb (long l.length)) (by rw [wu_nat _ (by omega), Long_f]) ?_
    refine Ev.just (wr_some _ _ (by rw [List.length_append, longs_len]; omega) (by rw [long_len]; omega)) (Ev.val rfl)
theorem encB_len {l : List ES} (h : rowB l = true) : (encB l).length ≤ 10000 := by
  have h1 := rowB_len h
  have hb := body_len l 0 [] (rowB_all h)
  have hs := starts_len l 0 0 []
  unfold encB
  rw [List.length_append, List.length_append, longs_len, long_len]
  omega
end Go.Proofs.Ytcogolbgfkikfaa.BlkS
set_option linter.unusedVariables false
set_option linter.unusedSimpArgs false
namespace Go.Proofs.Ytcogolbgfkikfaa.BlkS
open Go.RowKit Go.Proofs.Ytcogolbgfkikfaa.P Go.Proofs.Ytcogolbgfkikfaa.Th Go.Proofs.Ytcogolbgfkikfaa.NumS Go.Proofs.YtcogolbgfkikfaaW.PrintWords Go.Proofs.YtcogolbgfkikfaaW.PrintLast Go.Proofs.YtcogolbgfkikfaaW.PrintMore

def nu (s : List UInt8) (b : Bool) : Nat × List UInt8 × Bool := match tk s with
  | some (n, r) => (n, r, b)
  | none => (0, [], true)
theorem nu_some {s r : List UInt8} {n : Nat} (h : tk s = some (n, r)) (b : Bool) : nu s b = (n, r, b) := by unfold nu; rw [h]
theorem nu_none {s : List UInt8} (h : tk s = none) (b : Bool) : nu s b = (0, [], true) := by unfold nu; rw [h]
theorem nu_le (s : List UInt8) (b : Bool) : (nu s b).2.1.length ≤ s.length ∧ (nu s b).1 < 18446744073709551616 := by
  cases h : tk s with
  | none => rw [nu_none h]; simp
  | some q =>
    obtain ⟨n, r⟩ := q
    rw [nu_some h]
    obtain ⟨h1, h2⟩ := (tk_iff _ _ _).1 h
    exact ⟨by rw [h2]; simp, h1⟩
theorem nu_short {n : Nat} (h : n < 18446744073709551616) (r : List UInt8) (b : Bool) : nu (short n ++ r) b = (n, r, b) := nu_some (tk_short n r h) b
theorem number_ev (s : List UInt8) (b : Bool) (h : s.length ≤ 140737488351232) : Ev (fun k => block_Decode.number k (lb s) b) (((nu s b).1 : Int), lb (nu s b).2.1, (nu s b).2.2) := by
  unfold block_Decode.number
  refine Ev.bind (Take_ev s h) (Ev.val ?_)
  cases e : tk s with
  | none => rw [nu_none e]; simp [tres]
  | some q => obtain ⟨n, r⟩ := q; rw [nu_some e]; simp [tres]
def te (s : List UInt8) (b : Bool) (n : Nat) : List UInt8 × List UInt8 × Bool := if b = true then ([], s, true) else (if n > s.length then ([], s, true) else (s.take n, s.drop n, false))
theorem te_le (s : List UInt8) (b : Bool) (n : Nat) : (te s b n).1.length + (te s b n).2.1.length ≤ s.length := by
  unfold te
  split
  · simp
  · split
    · simp
    · simp; omega
theorem te_app (s r : List UInt8) : te (s ++ r) false s.length = (s, r, false) := by
  unfold te
  rw [if_neg (by simp), if_neg (by simp)]
  simp
theorem text_f (s : List UInt8) (b : Bool) (n : Nat) (h : s.length ≤ 140737488351232) : block_Decode.text (lb s) b (n : Int) = some (lb (te s b n).1, lb (te s b n).2.1, (te s b n).2.2) := by
  unfold block_Decode.text te
  rw [lb_size, wu_nat _ (by omega)]
  cases b
  · rw [if_neg (show ¬ (false = true) by simp), if_neg (show ¬ (false = true) by simp)]
    by_cases h1 : n > s.length
    · rw [if_pos (show (n : Int) > (s.length : Int) by omega), if_pos h1]; rfl
    · rw [if_neg (show ¬ (n : Int) > (s.length : Int) by omega), if_neg h1, if_pos (show (0 : Int) ≤ n by omega), if_pos (show (n : Int) ≤ (s.length : Int) by omega), lb_extract, lb_extract, Int.toNat_natCast, List.take_length]
      simp
  · rw [if_pos rfl, if_pos rfl]; rfl
def nx (s : List UInt8) (b : Bool) (last : List UInt8) : ES × List UInt8 × Bool × List UInt8 :=
  let a := nu s b
  if a.1 > last.length then (⟨lb [], 0, false, lb []⟩, a.2.1, true, last) else
    let c := nu a.2.1 a.2.2
    let d := te c.2.1 c.2.2 c.1
    let q := nu d.2.1 d.2.2
    let kd := nu q.2.1 q.2.2
    let u := nu kd.2.1 kd.2.2
    let v := te u.2.1 u.2.2 u.1
    (⟨lb (last.take a.1 ++ d.1), (q.1 : Int), ((kd.1 : Int) == 1), lb v.1⟩, v.2.1, v.2.2 || decide (kd.1 > 1), last.take a.1 ++ d.1)
theorem nx_le (s : List UInt8) (b : Bool) (last : List UInt8) : (nx s b last).2.1.length + (nx s b last).2.2.2.length ≤ s.length + last.length := by
  unfold nx
  have h1 := (nu_le s b).1
  generalize nu s b = a at h1
  obtain ⟨an, sa, ab⟩ := a
  simp only at h1 ⊢
  split
  · simp only; omega
  · have h2 := (nu_le sa ab).1
    generalize nu sa ab = c at h2
    obtain ⟨cn, cs, cb⟩ := c
    simp only at h2 ⊢
    have h3 := te_le cs cb cn
    generalize te cs cb cn = d at h3
    obtain ⟨dt, ds, db⟩ := d
    simp only at h3 ⊢
    have h4 := (nu_le ds db).1
    generalize nu ds db = q at h4
    obtain ⟨qn, qs, qb⟩ := q
    simp only at h4 ⊢
    have h5 := (nu_le qs qb).1
    generalize nu qs qb = kd at h5
    obtain ⟨kn, ks, kb⟩ := kd
    simp only at h5 ⊢
    have h6 := (nu_le ks kb).1
    generalize nu ks kb = u at h6
    obtain ⟨un, us, ub⟩ := u
    simp only at h6 ⊢
    have h7 := te_le us ub un
    rw [List.length_append, List.length_take]
    omega
theorem next_ev (s : List UInt8) (b : Bool) (last : List UInt8) (hs : s.length + last.length ≤ 100000000) : Ev (fun k => block_Decode.next k (lb s) b (lb last)) ((nx s b last).1, lb (nx s b last).2.1, (nx s b last).2.2.1, lb (nx s b last).2.2.2) := by
  unfold block_Decode.next
  refine Ev.bind (number_ev s b (by omega)) ?_
  unfold nx
  have h1 := (nu_le s b).1
  generalize nu s b = a at h1 ⊢
  obtain ⟨an, sa, ab⟩ := a
  simp only at h1 ⊢
  rw [lb_size, wu_nat _ (by omega)]
  by_cases hc : an > last.length
  · rw [if_pos hc]
    exact Ev.pos (by omega) (Ev.val rfl)
  rw [if_neg hc]
  refine Ev.neg (by omega) (Ev.pos (by omega) (Ev.pos (by omega) ?_))
  refine Ev.bind (number_ev sa ab (by omega)) ?_
  have h2 := (nu_le sa ab).1
  generalize nu sa ab = c at h2 ⊢
  obtain ⟨cn, cs, cb⟩ := c
  simp only at h2 ⊢
  refine Ev.just (text_f cs cb cn (by omega)) ?_
  have h3 := te_le cs cb cn
  generalize te cs cb cn = d at h3 ⊢
  obtain ⟨dt, ds, db⟩ := d
  simp only at h3 ⊢
  refine Ev.pos (by rw [lb_extract, lb_size, lb_size]; simp; omega) ?_
  refine Ev.bind (number_ev ds db (by omega)) ?_
  have h4 := (nu_le ds db).1
  generalize nu ds db = q at h4 ⊢
  obtain ⟨qn, qs, qb⟩ := q
  simp only at h4 ⊢
  refine Ev.bind (number_ev qs qb (by omega)) ?_
  have h5 := (nu_le qs qb).1
  generalize nu qs qb = kd at h5 ⊢
  obtain ⟨kn, ks, kb⟩ := kd
  simp only at h5 ⊢
  refine Ev.bind (number_ev ks kb (by omega)) ?_
  have h6 := (nu_le ks kb).1
  generalize nu ks kb = u at h6 ⊢
  obtain ⟨un, us, ub⟩ := u
  simp only at h6 ⊢
  refine Ev.just (text_f us ub un (by omega)) (Ev.val ?_)
  rw [lb_extract, Int.toNat_natCast, lb_append]
  have e : decide ((kn : Int) > 1) = decide (kn > 1) := by rw [Bool.eq_iff_iff]; simp only [decide_eq_true_eq]; omega
  rw [e]
  simp
end Go.Proofs.Ytcogolbgfkikfaa.BlkS
set_option linter.unusedVariables false
set_option linter.unusedSimpArgs false
namespace Go.Proofs.Ytcogolbgfkikfaa.BlkS
open Go.RowKit Go.Proofs.Ytcogolbgfkikfaa.P Go.Proofs.Ytcogolbgfkikfaa.Th Go.Proofs.Ytcogolbgfkikfaa.NumS Go.Proofs.YtcogolbgfkikfaaW.PrintWords Go.Proofs.YtcogolbgfkikfaaW.PrintLast Go.Proofs.YtcogolbgfkikfaaW.PrintMore

def dgo : Nat → List UInt8 → Bool → List UInt8 → List ES → Bool × List ES
  | 0, _, b, _, l => (b, l)
  | m + 1, s, b, last, l => dgo m (nx s b last).2.1 (nx s b last).2.2.1 (nx s b last).2.2.2 (l ++ [(nx s b last).1])
theorem dgo_ev : ∀ (m : Nat) (s : List UInt8) (b : Bool) (last : List UInt8) (l : List ES), s.length + last.length ≤ 100000000 → Ev (fun k => block_Decode.go k m (lb s) b (lb last) l) (dgo m s b last l) := by
  intro m
  induction m with
  | zero => intro s b last l _; exact Ev.val rfl
  | succ m ih =>
    intro s b last l h
    simp only [block_Decode.go, dgo]
    refine Ev.bind (next_ev s b last h) ?_
    exact ih _ _ _ _ (Nat.le_trans (nx_le s b last) h)
theorem dgo_len : ∀ (m : Nat) (s : List UInt8) (b : Bool) (last : List UInt8) (l : List ES), (dgo m s b last l).2.length = l.length + m := by
  intro m
  induction m with
  | zero => intro s b last l; rfl
  | succ m ih => intro s b last l; simp only [dgo]; rw [ih, List.length_append, List.length_singleton]; omega
def cntB (s : List UInt8) : Nat := if s.length < 8 then 0 else (if be 0 (s.drop (s.length - 8)) < 1 ∨ be 0 (s.drop (s.length - 8)) > 32 then 0 else be 0 (s.drop (s.length - 8)))
theorem cntB_le (s : List UInt8) : cntB s ≤ 32 := by
  unfold cntB
  split
  · omega
  · split <;> omega
theorem Count_ev (s : List UInt8) (hs : s.length ≤ 100000000) : Ev (fun k => block_Count.f k (lb s)) ((cntB s : Nat) : Int) := by
  unfold block_Count.f cntB
  rw [lb_size]
  by_cases h : s.length < 8
  · rw [if_pos h]
    exact Ev.pos (by omega) (Ev.val rfl)
  · rw [if_neg h]
    have e : wrap64 ((s.length : Int) - 8) = ((s.length - 8 : Nat) : Int) := by rw [w64 _ (by omega) (by omega)]; omega
    rw [e]
    refine Ev.neg (by omega) (Ev.pos (by omega) (Ev.pos (by omega) ?_))
    rw [lb_extract, Int.toNat_natCast, List.take_length]
    refine Ev.bind (Unlong_ev _) ?_
    have hl : (s.drop (s.length - 8)).length = 8 := by rw [List.length_drop]; omega
    unfold ures
    rw [if_pos hl]
    generalize be 0 (s.drop (s.length - 8)) = n
    by_cases h1 : n < 1
    · rw [if_pos (Or.inl h1)]
      exact Ev.pos (by show (n : Int) < 1; omega) (Ev.val rfl)
    · refine Ev.neg (by show ¬ (n : Int) < 1; omega) ?_
      by_cases h2 : n > 32
      · rw [if_pos (Or.inr h2)]
        exact Ev.pos (by show (n : Int) > 32; omega) (Ev.val rfl)
      · rw [if_neg (show ¬ (n < 1 ∨ n > 32) by omega)]
        refine Ev.neg (by show ¬ (n : Int) > 32; omega) (Ev.val ?_)
        show some (wrap64 (n : Int)) = _
        rw [w64 _ (by omega) (by omega)]
def strt (n : Nat) : Nat := 8 * ((n + 3) / 4 + 1)
theorem en_eq (s : List UInt8) (n : Nat) (hn : n ≤ 1000) (hs : s.length ≤ 100000000) : block_Decode.en (lb s) (n : Int) = (s.length : Int) - (strt n : Int) := by
  unfold block_Decode.en strt
  rw [lb_size, w64 ((n : Int) + 4) (by omega) (by omega), w64 ((n : Int) + 4 - 1) (by omega) (by omega)]
  have e : ((n : Int) + 4 - 1).tdiv 4 = (((n + 3) / 4 : Nat) : Int) := by
    rw [show ((n : Int) + 4 - 1) = ((n + 3 : Nat) : Int) by omega]
    exact (Int.ofNat_tdiv (n + 3) 4).symm
  rw [e, w64 (((n + 3) / 4 : Nat) : Int) (by omega) (by omega), w64 ((((n + 3) / 4 : Nat) : Int) + 1) (by omega) (by omega), w64 (8 * ((((n + 3) / 4 : Nat) : Int) + 1)) (by omega) (by omega), w64 _ (by omega) (by omega)]
  omega
def decr (s : List UInt8) : List ES × Int :=
  if cntB s = 0 then ([], 2) else (if s.length < strt (cntB s) then ([], 2) else
    (if (dgo (cntB s) (s.take (s.length - strt (cntB s))) false [] []).1 = true then ([], 2) else
      (if rowB (dgo (cntB s) (s.take (s.length - strt (cntB s))) false [] []).2 = true ∧ encB (dgo (cntB s) (s.take (s.length - strt (cntB s))) false [] []).2 = s then ((dgo (cntB s) (s.take (s.length - strt (cntB s))) false [] []).2, 0) else ([], 2))))
theorem Decode_ev (s : List UInt8) (hs : s.length ≤ 10000000) : Ev (fun k => block_Decode.f k (lb s)) (decr s) := by
  unfold block_Decode.f decr
  have hc := cntB_le s
  refine Ev.bind (Count_ev s (by omega)) ?_
  generalize cntB s = n at hc
  by_cases h0 : n = 0
  · rw [if_pos h0]
    exact Ev.pos (by omega) (Ev.val rfl)
  rw [if_neg h0]
  refine Ev.neg (by omega) ?_
  rw [en_eq s n (by omega) (by omega)]
  by_cases h1 : s.length < strt n
  · rw [if_pos h1]
    exact Ev.pos (by omega) (Ev.val rfl)
  rw [if_neg h1]
  refine Ev.neg (by omega) (Ev.pos (by rw [lb_size]; omega) (Ev.pos (by omega) ?_))
  have e : ((s.length : Int) - (strt n : Int)).toNat = s.length - strt n := by omega
  rw [e, lb_extract, List.drop_zero, Int.toNat_natCast]
  have hd := dgo_ev n (s.take (s.length - strt n)) false [] [] (by rw [List.length_take]; simp; omega)
  refine Ev.bind hd ?_
  have hl := dgo_len n (s.take (s.length - strt n)) false [] []
  generalize dgo n (s.take (s.length - strt n)) false [] [] = r at hl ⊢
  obtain ⟨b, l⟩ := r
  simp only at hl ⊢
  unfold block_Decode.fin
  cases b
  · refine Ev.neg (by simp) ?_
    rw [if_neg (show ¬ (false = true) by simp)]
    refine Ev.bind (Encode_ev l (by simp at hl; omega)) ?_
    unfold encr
    by_cases h2 : rowB l = true
    · rw [if_pos h2]
      refine Ev.pos rfl ?_
      by_cases h3 : encB l = s
      · rw [if_pos (show rowB l = true ∧ encB l = s from ⟨h2, h3⟩)]
        exact Ev.pos (by rw [lb_toList, lb_toList]; exact h3) (Ev.val rfl)
      · rw [if_neg (show ¬ (rowB l = true ∧ encB l = s) from fun h => h3 h.2)]
        exact Ev.neg (by rw [lb_toList, lb_toList]; exact h3) (Ev.val rfl)
    · rw [if_neg h2, if_neg (show ¬ (rowB l = true ∧ encB l = s) from fun h => h2 h.1)]
      exact Ev.neg (by simp) (Ev.val rfl)
  · rw [if_pos rfl]
    exact Ev.pos rfl (Ev.val rfl)
end Go.Proofs.Ytcogolbgfkikfaa.BlkS
set_option linter.unusedVariables false
set_option linter.unusedSimpArgs false
namespace Go.Proofs.Ytcogolbgfkikfaa.BlkS
open Go.RowKit Go.Proofs.Ytcogolbgfkikfaa.P Go.Proofs.Ytcogolbgfkikfaa.Th Go.Proofs.Ytcogolbgfkikfaa.NumS Go.Proofs.YtcogolbgfkikfaaW.PrintWords Go.Proofs.YtcogolbgfkikfaaW.PrintLast Go.Proofs.YtcogolbgfkikfaaW.PrintMore

theorem nx_ent (n : Nat) (p : List UInt8) (x : ES) (rest : List UInt8) (h : okE x = true) (hn : n ≤ (bl x.f0).length) (hp : n ≤ p.length) (hk : p.take n = (bl x.f0).take n) : nx (entB n x ++ rest) false p = (x, rest, false, bl x.f0) := by
  have h1 := okE_iff h
  have hu := okE_u h
  have ek : p.take n ++ (bl x.f0).drop n = bl x.f0 := by rw [hk, List.take_append_drop]
  have ebit : ∀ r : List UInt8, ((if x.f2 = true then (1 : UInt8) else 0) :: r) = short (if x.f2 = true then 1 else 0) ++ r := by
    intro r
    rw [short_lt _ (by split <;> omega)]
    split <;> rfl
  unfold nx entB
  simp only [List.append_assoc, List.cons_append]
  rw [nu_short (by omega)]
  simp only
  rw [if_neg (by omega), nu_short (by omega)]
  simp only
  have e1 := te_app ((bl x.f0).drop n) (sh x.f1 ++ ((if x.f2 = true then (1 : UInt8) else 0) :: (short (bl x.f3).length ++ (bl x.f3 ++ rest))))
  rw [List.length_drop] at e1
  rw [e1]
  simp only
  rw [show sh x.f1 = short x.f1.toNat from rfl, nu_short (by have := hu.1; have := hu.2; omega)]
  simp only
  rw [ebit, nu_short (by split <;> omega)]
  simp only
  rw [nu_short (by omega)]
  simp only
  rw [te_app, ek]
  have e2 : ((x.f1.toNat : Nat) : Int) = x.f1 := by have := hu.1; omega
  rw [e2]
  simp only [lb_bl]
  cases x with
  | mk f0 f1 f2 f3 => cases f2 <;> simp
theorem sh_ok (i : Nat) (p : List UInt8) (x : ES) : shB i p x ≤ p.length ∧ p.take (shB i p x) = (bl x.f0).take (shB i p x) := by
  unfold shB
  split
  · simp
  · exact ⟨(comm_le _ _).1, comm_take _ _⟩
theorem dgo_body : ∀ (l : List ES) (i : Nat) (p : List UInt8) (acc : List ES), (∀ x ∈ l, okE x = true) → dgo l.length (bodyB i p l) false p acc = (false, acc ++ l) := by
  intro l
  induction l with
  | nil => intro i p acc _; simp [dgo]
  | cons x l ih =>
    intro i p acc h
    have h1 := nx_ent (shB i p x) p x (bodyB (i + 1) (bl x.f0) l) (h x (by simp)) (shB_le i p x) (sh_ok i p x).1 (sh_ok i p x).2
    simp only [List.length_cons, dgo, bodyB]
    rw [h1]
    simp only
    rw [ih (i + 1) (bl x.f0) (acc ++ [x]) (fun y hy => h y (by simp [hy]))]
    simp
theorem starts_cnt : ∀ (l : List ES) (i j : Nat) (p : List UInt8), (startsB i j p l).length + (i + 3) / 4 = (i + l.length + 3) / 4 := by
  intro l
  induction l with
  | nil => intro i j p; simp [startsB]
  | cons x l ih =>
    intro i j p
    have := ih (i + 1) (j + (entB (shB i p x) x).length) (bl x.f0)
    simp only [startsB, List.length_append, List.length_cons]
    split
    · simp only [List.length_singleton]; omega
    · simp only [List.length_nil]; omega
theorem encB_eq (l : List ES) : (encB l).length = (bodyB 0 [] l).length + strt l.length := by
  have := starts_cnt l 0 0 []
  unfold encB strt
  rw [List.length_append, List.length_append, longs_len, long_len]
  omega
theorem cnt_enc {l : List ES} (h : 1 ≤ l.length ∧ l.length ≤ 32) : cntB (encB l) = l.length := by
  have e : (encB l).drop ((encB l).length - 8) = long l.length := by
    have : (encB l).length - 8 = (bodyB 0 [] l ++ (startsB 0 0 [] l).flatMap long).length := by unfold encB; simp only [List.length_append, long_len]; omega
    rw [this]; unfold encB; exact List.drop_left
  unfold cntB
  rw [e, be_long _ (by omega)]
  have := encB_eq l
  unfold strt at this
  rw [if_neg (by omega), if_neg (by omega)]
theorem decr_enc {l : List ES} (h : rowB l = true) : decr (encB l) = (l, 0) := by
  have h1 := rowB_len h
  have e := encB_eq l
  have et : (encB l).take ((encB l).length - strt l.length) = bodyB 0 [] l := by
    rw [show (encB l).length - strt l.length = (bodyB 0 [] l).length by omega]
    unfold encB; rw [List.append_assoc]; exact List.take_left
  have hd := dgo_body l 0 [] [] (rowB_all h)
  unfold decr
  rw [cnt_enc h1, et, hd]
  simp only [List.nil_append]
  rw [if_neg (by omega), if_neg (by omega), if_neg (by simp), if_pos ⟨h, trivial⟩]
/-- Bytes that are decoded are a row's. -/
theorem decr_ok {s : List UInt8} {l : List ES} {e : Int} (h : decr s = (l, e)) : (e = 0 ∧ rowB l = true ∧ encB l = s) ∨ (e = 2 ∧ l = []) := by
  unfold decr at h
  split at h
  · right; simp at h; exact ⟨h.2.symm, h.1⟩
  · split at h
    · right; simp at h; exact ⟨h.2.symm, h.1⟩
    · split at h
      · right; simp at h; exact ⟨h.2.symm, h.1⟩
      · split at h
        · rename_i hh
          left; simp at h; exact ⟨h.2.symm, by rw [← h.1]; exact hh.1, by rw [← h.1]; exact hh.2⟩
        · right; simp at h; exact ⟨h.2.symm, h.1⟩
end Go.Proofs.Ytcogolbgfkikfaa.BlkS
set_option linter.unusedVariables false
set_option linter.unusedSimpArgs false
namespace Go.Proofs.Ytcogolbgfkikfaa.BlkS
open Go.RowKit Go.Proofs.Ytcogolbgfkikfaa.P Go.Proofs.Ytcogolbgfkikfaa.Th Go.Proofs.Ytcogolbgfkikfaa.NumS Go.Proofs.YtcogolbgfkikfaaW.PrintWords Go.Proofs.YtcogolbgfkikfaaW.PrintLast Go.Proofs.YtcogolbgfkikfaaW.PrintMore

/-- The key that stands last in a list, or the one ahead of it. -/
def lastK : List UInt8 → List ES → List UInt8
  | p, [] => p
  | _, x :: l => lastK (bl x.f0) l
theorem body_app : ∀ (a b : List ES) (i : Nat) (p : List UInt8), bodyB i p (a ++ b) = bodyB i p a ++ bodyB (i + a.length) (lastK p a) b := by
  intro a
  induction a with
  | nil => intro b i p; simp [bodyB, lastK]
  | cons x a ih =>
    intro b i p
    simp only [List.cons_append, bodyB, lastK, List.length_cons]
    rw [ih b (i + 1) (bl x.f0), List.append_assoc, show i + 1 + a.length = i + (a.length + 1) by omega]
theorem starts_app : ∀ (a b : List ES) (i j : Nat) (p : List UInt8), startsB i j p (a ++ b) = startsB i j p a ++ startsB (i + a.length) (j + (bodyB i p a).length) (lastK p a) b := by
  intro a
  induction a with
  | nil => intro b i j p; simp [startsB, bodyB, lastK]
  | cons x a ih =>
    intro b i j p
    simp only [List.cons_append, startsB, bodyB, lastK, List.length_cons, List.length_append]
    rw [ih b (i + 1) _ (bl x.f0), List.append_assoc, show i + 1 + a.length = i + (a.length + 1) by omega, Nat.add_assoc]
/-- At a whole key what stood ahead doesn't matter. -/
theorem body_whole (l : List ES) (i : Nat) (p q : List UInt8) (h : i % 4 = 0) : bodyB i p l = bodyB i q l := by
  cases l with
  | nil => rfl
  | cons x l => simp only [bodyB, shB, if_pos h]
theorem starts_get (l : List ES) (j : Nat) (h : 4 * j < l.length) : (startsB 0 0 [] l)[j]? = some (bodyB 0 [] (l.take (4 * j))).length := by
  have e := starts_app (l.take (4 * j)) (l.drop (4 * j)) 0 0 []
  rw [List.take_append_drop] at e
  have hl : (l.take (4 * j)).length = 4 * j := by rw [List.length_take]; omega
  have hc := starts_cnt (l.take (4 * j)) 0 0 []
  rw [hl] at e hc
  rw [e, List.getElem?_append_right (by omega)]
  have : l.drop (4 * j) = l[4 * j] :: l.drop (4 * j + 1) := List.drop_eq_getElem_cons h
  rw [this]
  have hz : j - (startsB 0 0 [] (l.take (4 * j))).length = 0 := by omega
  rw [hz]
  simp [startsB]
theorem flat_get (r : List UInt8) : ∀ (st : List Nat) (j a : Nat), st[j]? = some a → ((st.flatMap long ++ r).take (8 * (j + 1))).drop (8 * j) = long a := by
  intro st
  induction st with
  | nil => intro j a h; simp at h
  | cons b st ih =>
    intro j a h
    cases j with
    | zero =>
      simp at h
      subst h
      simp only [List.flatMap_cons, List.append_assoc]
      rw [List.take_append_of_le_length (by rw [long_len]; omega), List.take_of_length_le (by rw [long_len]; omega)]
      rfl
    | succ j =>
      have h' : st[j]? = some a := by simpa using h
      have e := ih j a h'
      simp only [List.flatMap_cons, List.append_assoc]
      rw [List.take_append, List.drop_append, long_len]
      rw [List.take_of_length_le (show (long b).length ≤ 8 * (j + 1 + 1) by rw [long_len]; omega), List.drop_eq_nil_of_le (show (long b).length ≤ 8 * (j + 1) by rw [long_len]; omega), long_len]
      rw [show 8 * (j + 1 + 1) - 8 = 8 * (j + 1) by omega, show 8 * (j + 1) - 8 = 8 * j by omega, List.nil_append]
      exact e
theorem at_ev {l : List ES} (hr : rowB l = true) (j : Nat) (h : 4 * j < l.length) : Ev (fun k => block_Seek.at_ k (lb (encB l)) (l.length : Int) (j : Int)) (lb (bodyB (4 * j) [] (l.drop (4 * j)))) := by
  have h1 := rowB_len hr
  have hle := encB_len hr
  have e := encB_eq l
  have hs : strt l.length = 8 * ((l.length + 3) / 4 + 1) := rfl
  have hen : block_Decode.en (lb (encB l)) (l.length : Int) = ((bodyB 0 [] l).length : Int) := by rw [en_eq _ _ (by omega) (by omega)]; omega
  unfold block_Seek.at_
  rw [hen, lb_size, w64 (8 * (j : Int)) (by omega) (by omega), w64 ((j : Int) + 1) (by omega) (by omega), w64 (8 * ((j : Int) + 1)) (by omega) (by omega), w64 (((bodyB 0 [] l).length : Int) + 8 * (j : Int)) (by omega) (by omega), w64 (((bodyB 0 [] l).length : Int) + 8 * ((j : Int) + 1)) (by omega) (by omega)]
  refine Ev.pos (by omega) (Ev.pos (by omega) (Ev.pos (by omega) ?_))
  have ea : (((bodyB 0 [] l).length : Int) + 8 * (j : Int)).toNat = (bodyB 0 [] l).length + 8 * j := by omega
  have eb : (((bodyB 0 [] l).length : Int) + 8 * ((j : Int) + 1)).toNat = (bodyB 0 [] l).length + 8 * (j + 1) := by omega
  rw [ea, eb, lb_extract]
  have eg := flat_get (long l.length) _ j _ (starts_get l j h)
  have el : ((encB l).take ((bodyB 0 [] l).length + 8 * (j + 1))).drop ((bodyB 0 [] l).length + 8 * j) = long (bodyB 0 [] (l.take (4 * j))).length := by
    unfold encB
    rw [List.append_assoc, List.take_length_add_append, List.drop_length_add_append]
    exact eg
  rw [el]
  have hb := body_len (l.take (4 * j)) 0 [] (fun x hx => rowB_all hr x (List.mem_of_mem_take hx))
  have hl : (l.take (4 * j)).length = 4 * j := by rw [List.length_take]; omega
  have esp : bodyB 0 [] l = bodyB 0 [] (l.take (4 * j)) ++ bodyB (4 * j) [] (l.drop (4 * j)) := by
    have := body_app (l.take (4 * j)) (l.drop (4 * j)) 0 []
    rw [List.take_append_drop, hl, Nat.zero_add, body_whole _ (4 * j) _ [] (by omega)] at this
    exact this
  refine Ev.bind (Unlong_ev _) ?_
  unfold ures
  rw [if_pos (long_len _), be_long _ (by omega)]
  have hle2 : (bodyB 0 [] (l.take (4 * j))).length ≤ (bodyB 0 [] l).length := by rw [esp, List.length_append]; omega
  refine Ev.pos (show (0 : Int) ≤ ((bodyB 0 [] (l.take (4 * j))).length : Int) by omega) (Ev.pos (show ((bodyB 0 [] (l.take (4 * j))).length : Int) ≤ ((bodyB 0 [] l).length : Int) by omega) (Ev.pos (by omega) (Ev.val ?_)))
  simp only [Int.toNat_natCast]
  rw [lb_extract]
  congr 2
  unfold encB
  rw [List.append_assoc, List.take_left, esp, List.drop_left]
end Go.Proofs.Ytcogolbgfkikfaa.BlkS
set_option linter.unusedVariables false
set_option linter.unusedSimpArgs false
namespace Go.Proofs.Ytcogolbgfkikfaa.BlkS
open Go.RowKit Go.Proofs.Ytcogolbgfkikfaa.P Go.Proofs.Ytcogolbgfkikfaa.Th Go.Proofs.Ytcogolbgfkikfaa.NumS Go.Proofs.YtcogolbgfkikfaaW.PrintWords Go.Proofs.YtcogolbgfkikfaaW.PrintLast Go.Proofs.YtcogolbgfkikfaaW.PrintMore

def ahB (x : ES) (key : List UInt8) (seq : Int) : Bool := Op.bytesLess (bl x.f0) key || (decide (bl x.f0 = key) && decide (x.f1 > seq))
theorem ahead_f (x : ES) (key : List UInt8) (seq : Int) : block_ahead.f x.f0 x.f1 x.f2 x.f3 (lb key) seq = some (ahB x key seq) := by
  unfold block_ahead.f ahB
  rw [toL_bl, lb_toList]
  by_cases h : Op.bytesLess (bl x.f0) key = true
  · rw [if_pos h, h]; rfl
  · rw [if_neg h]
    have h' : Op.bytesLess (bl x.f0) key = false := by simpa using h
    rw [h']
    by_cases h2 : bl x.f0 = key
    · rw [if_pos h2, decide_eq_true h2]; simp
    · rw [if_neg h2, decide_eq_false h2]; simp
theorem pred_ev {l : List ES} (hr : rowB l = true) (key : List UInt8) (seq : Int) (j : Nat) (h : 4 * j < l.length) : Ev (fun k => block_Seek.pred k (lb (encB l)) (lb key) seq (l.length : Int) (j : Int)) (!(ahB l[4 * j] key seq)) := by
  have hx := rowB_all hr l[4 * j] (List.getElem_mem h)
  have hb := body_len (l.drop (4 * j)) (4 * j) [] (fun x hx => rowB_all hr x (List.mem_of_mem_drop hx))
  have h1 := rowB_len hr
  rw [List.length_drop] at hb
  unfold block_Seek.pred
  refine Ev.bind (at_ev hr j h) ?_
  refine Ev.bind (next_ev _ false [] (by simp; omega)) ?_
  have en := nx_ent 0 [] l[4 * j] (bodyB (4 * j + 1) (bl l[4 * j].f0) (l.drop (4 * j + 1))) hx (by omega) (by simp) (by simp)
  have eb : bodyB (4 * j) [] (l.drop (4 * j)) = entB 0 l[4 * j] ++ bodyB (4 * j + 1) (bl l[4 * j].f0) (l.drop (4 * j + 1)) := by
    rw [List.drop_eq_getElem_cons h]
    simp only [bodyB, shB]
    rw [if_pos (by omega)]
  rw [eb, en]
  simp only
  rw [ahead_f]
  exact Ev.val rfl
theorem search_ev {l : List ES} (hr : rowB l = true) (key : List UInt8) (seq : Int) : ∀ (q i j : Nat), i ≤ j → j - i < q → (∀ c, c < j → 4 * c < l.length) →
    ∃ r, i ≤ r ∧ r ≤ j ∧ Ev (fun k => block_Seek.search k (lb (encB l)) (lb key) seq (l.length : Int) q i j) r ∧ (r = i ∨ ∃ h : 4 * (r - 1) < l.length, ahB l[4 * (r - 1)] key seq = true) := by
  intro q
  induction q with
  | zero => intro i j _ h _; omega
  | succ q ih =>
    intro i j hij hq hc
    simp only [block_Seek.search]
    by_cases h : i < j
    · have hm := hc ((i + j) / 2) (by omega)
      have hp := pred_ev hr key seq ((i + j) / 2) hm
      cases ha : ahB l[4 * ((i + j) / 2)] key seq
      · rw [ha] at hp
        obtain ⟨r, h1, h2, h3, h4⟩ := ih i ((i + j) / 2) (by omega) (by omega) (fun c hcc => hc c (by omega))
        exact ⟨r, h1, by omega, Ev.pos h (Ev.bind hp (Ev.pos rfl h3)), h4⟩
      · rw [ha] at hp
        obtain ⟨r, h1, h2, h3, h4⟩ := ih ((i + j) / 2 + 1) j (by omega) (by omega) hc
        refine ⟨r, by omega, h2, Ev.pos h (Ev.bind hp (Ev.neg (by simp) h3)), ?_⟩
        right
        rcases h4 with h4 | h4
        · subst h4
          exact ⟨by simpa using hm, by simpa using ha⟩
        · exact h4
    · exact ⟨i, Nat.le_refl _, hij, Ev.neg h (Ev.val rfl), Or.inl rfl⟩
theorem sgo_ev (key : List UInt8) (seq : Int) : ∀ (rest : List ES) (i : Nat) (p : List UInt8), (∀ x ∈ rest, okE x = true) → rest.length ≤ 32 → p.length ≤ 1000 →
    Ev (fun k => block_Seek.go k (lb key) seq rest.length (lb (bodyB i p rest)) false (lb p)) (rest.find? (fun x => !(ahB x key seq))) := by
  intro rest
  induction rest with
  | nil => intro i p _ _ _; exact Ev.val rfl
  | cons x rest ih =>
    intro i p h hl hp
    have hb := body_len (x :: rest) i p h
    have hx := okE_iff (h x (by simp))
    simp only [List.length_cons] at hb hl
    have en := nx_ent (shB i p x) p x (bodyB (i + 1) (bl x.f0) rest) (h x (by simp)) (shB_le i p x) (sh_ok i p x).1 (sh_ok i p x).2
    simp only [List.length_cons, block_Seek.go]
    refine Ev.bind (next_ev _ false p (by omega)) ?_
    simp only [bodyB]
    rw [en]
    simp only
    rw [ahead_f]
    refine Ev.just rfl ?_
    rw [List.find?_cons]
    cases ha : ahB x key seq
    · exact Ev.neg (by simp) (Ev.val rfl)
    · exact Ev.pos rfl (ih (i + 1) (bl x.f0) (fun y hy => h y (by simp [hy])) (by omega) (by omega))
theorem Seek_ev {l : List ES} (hr : rowB l = true) (key : List UInt8) (seq : Int) : ∃ c, 4 * c ≤ l.length ∧ (c = 0 ∨ ∃ h : 4 * c < l.length, ahB l[4 * c] key seq = true) ∧
    Ev (fun k => block_Seek.f k (lb (encB l)) (lb key) seq) (block_Seek.ans ((l.drop (4 * c)).find? (fun x => !(ahB x key seq)))) := by
  have h1 := rowB_len hr
  have hle := encB_len hr
  obtain ⟨r, hr1, hr2, hs, hp⟩ := search_ev hr key seq 1000 0 ((l.length + 3) / 4) (by omega) (by omega) (fun c hc => by omega)
  refine ⟨r - 1, by omega, ?_, ?_⟩
  · rcases hp with hp | hp
    · left; omega
    · right; exact hp
  unfold block_Seek.f
  refine Ev.bind (Ev.eq (Decode_ev (encB l) (by omega)) (decr_enc hr)) (Ev.pos rfl ?_)
  have hc := Count_ev (encB l) (by omega)
  rw [cnt_enc h1] at hc
  refine Ev.bind hc (Ev.pos (by omega) ?_)
  rw [Int.toNat_natCast]
  refine Ev.bind hs (Ev.pos (by omega) ?_)
  refine Ev.bind (at_ev hr (r - 1) (by omega)) ?_
  have hg := sgo_ev key seq (l.drop (4 * (r - 1))) (4 * (r - 1)) [] (fun x hx => rowB_all hr x (List.mem_of_mem_drop hx)) (by rw [List.length_drop]; omega) (by simp)
  rw [List.length_drop, show l.length - 4 * (r - 1) = l.length - (r - 1) * 4 by omega] at hg
  exact Ev.bind hg (Ev.val rfl)
theorem Seek_bad {s key : List UInt8} {seq : Int} (hs : s.length ≤ 10000000) (h : ∀ l, decr s ≠ (l, 0)) : Ev (fun k => block_Seek.f k (lb s) (lb key) seq) (⟨#[]⟩, 0, false, ⟨#[]⟩, false, 2) := by
  unfold block_Seek.f
  refine Ev.bind (Decode_ev s hs) ?_
  rcases e : decr s with ⟨l, c⟩
  rcases decr_ok e with h2 | h2
  · rw [h2.1] at e; exact absurd e (h l)
  · rw [h2.1]
    exact Ev.neg (by simp) (Ev.val rfl)
end Go.Proofs.Ytcogolbgfkikfaa.BlkS
set_option linter.unusedVariables false
set_option linter.unusedSimpArgs false
namespace Go.Proofs.Ytcogolbgfkikfaa.BlkS
open Go.RowKit Go.Proofs.Ytcogolbgfkikfaa.P Go.Proofs.Ytcogolbgfkikfaa.Th Go.Proofs.Ytcogolbgfkikfaa.NumS Go.Proofs.YtcogolbgfkikfaaW.PrintWords Go.Proofs.YtcogolbgfkikfaaW.PrintLast Go.Proofs.YtcogolbgfkikfaaW.PrintMore

/-! ### the same -/
def smE (x y : ES) : Bool := !(!(x.f0.toList == y.f0.toList) || (!(x.f1 == y.f1) || (!(x.f2 == y.f2) || !(x.f3.toList == y.f3.toList))))
theorem smE_iff (x y : ES) : smE x y = true ↔ x = y := by
  unfold smE
  rw [toL_bl, toL_bl, toL_bl, toL_bl]
  constructor
  · intro h
    simp at h
    obtain ⟨h1, h2, h3, h4⟩ := h
    have e1 : x.f0 = y.f0 := by rw [← lb_bl x.f0, ← lb_bl y.f0, h1]
    have e2 : x.f3 = y.f3 := by rw [← lb_bl x.f3, ← lb_bl y.f3, h4]
    cases x; cases y; simp_all
  · intro h; subst h; simp
def sms : List ES → List ES → Bool
  | [], [] => true
  | x :: a, y :: b => smE x y && sms a b
  | _, _ => false
theorem sms_iff : ∀ (a b : List ES), sms a b = true ↔ a = b := by
  intro a
  induction a with
  | nil => intro b; cases b <;> simp [sms]
  | cons x a ih =>
    intro b
    cases b with
    | nil => simp [sms]
    | cons y b => rw [sms, Bool.and_eq_true, smE_iff, ih]; simp
theorem Same_l0 (a b : List ES) (ha : a.length ≤ 1000000) (hab : a.length = b.length) : ∀ (n i : Nat), i + n = a.length → Ev (fun k => screeref07_Same.l0 k a b (i : Int)) (sms (a.drop i) (b.drop i)) := by
  intro n
  induction n with
  | zero =>
    intro i hi
    refine Ev.step (fun k => by rw [screeref07_Same.l0]) ?_
    refine Ev.neg (by omega) (Ev.val ?_)
    rw [List.drop_eq_nil_of_le (by omega), List.drop_eq_nil_of_le (by omega)]; rfl
  | succ n ih =>
    intro i hi
    have h1 : i < a.length := by omega
    have h2 : i < b.length := by omega
    refine Ev.step (fun k => by rw [screeref07_Same.l0]) ?_
    refine Ev.pos (by omega) (Ev.pos (by omega) (Ev.pos (by omega) ?_))
    rw [rdE h1, rdE h2, List.drop_eq_getElem_cons h1, List.drop_eq_getElem_cons h2, sms]
    by_cases h : smE a[i] b[i] = true
    · rw [h, Bool.true_and]
      refine Ev.neg (by unfold smE at h; rw [Bool.not_eq_true'] at h; rw [h]; simp) ?_
      rw [w64 _ (by omega) (by omega)]
      exact ih (i + 1) (by omega)
    · have h' : smE a[i] b[i] = false := by simpa using h
      rw [h', Bool.false_and]
      exact Ev.pos (by unfold smE at h'; rw [Bool.not_eq_false'] at h'; exact h') (Ev.val rfl)
theorem Same_ev (a b : List ES) (ha : a.length ≤ 1000000) : Ev (fun k => screeref07_Same.f k a b) (sms a b) := by
  unfold screeref07_Same.f
  by_cases h : a.length = b.length
  · refine Ev.pos (by omega) ?_
    exact Same_l0 a b ha h a.length 0 (by omega)
  · refine Ev.neg (by omega) (Ev.val ?_)
    congr 1; symm
    rw [Bool.eq_false_iff]
    intro e
    rw [sms_iff] at e
    exact h (by rw [e])
theorem Same_self (a : List ES) (ha : a.length ≤ 1000000) : Ev (fun k => screeref07_Same.f k a a) true := Ev.eq (Same_ev a a ha) ((sms_iff a a).2 rfl)

def xa : ES := ⟨⟨#[97, 98]⟩, 3, false, ⟨#[120]⟩⟩
def xb : ES := ⟨⟨#[97, 98, 99]⟩, 2, true, ⟨#[]⟩⟩
theorem row_ab : rowB [xa, xb] = true := by decide
theorem enc_ab : encB [xa, xb] = [0, 2, 97, 98, 3, 0, 1, 120, 2, 1, 99, 2, 1, 0, 0, 0, 0, 0, 0, 0, 0, 0, 0, 0, 0, 0, 0, 0, 0, 2] := by
  simp [encB, bodyB, startsB, entB, shB, comm, xa, xb, bl, sh, short_lt, long, longk]
theorem decr_more (s : List UInt8) : (s ++ [63]).length ≥ 8 → cntB (s ++ [63]) = 0 ∨ cntB (s ++ [63]) ≤ 32 := fun _ => Or.inr (cntB_le _)
theorem seek_a : Ev (fun k => block_Seek.f k (lb (encB [xa, xb])) (lb [97, 98]) 2) (xb.f0, xb.f1, xb.f2, xb.f3, true, 0) := by
  obtain ⟨c, h1, h2, h3⟩ := Seek_ev row_ab [97, 98] 2
  have hc : c = 0 := by simp at h1; omega
  subst hc
  exact Ev.eq h3 (by decide)
theorem seek_b : Ev (fun k => block_Seek.f k (lb (encB [xa, xb])) (lb [98]) 2) (⟨#[]⟩, 0, false, ⟨#[]⟩, false, 0) := by
  obtain ⟨c, h1, h2, h3⟩ := Seek_ev row_ab [98] 2
  have hc : c = 0 := by simp at h1; omega
  subst hc
  exact Ev.eq h3 (by decide)
theorem dec_q : decr ([0, 2, 97, 98, 3, 0, 1, 120, 2, 1, 99, 2, 1, 0, 0, 0, 0, 0, 0, 0, 0, 0, 0, 0, 0, 0, 0, 0, 0, 2, 63]) = ([], 2) := by
  have : cntB ([0, 2, 97, 98, 3, 0, 1, 120, 2, 1, 99, 2, 1, 0, 0, 0, 0, 0, 0, 0, 0, 0, 0, 0, 0, 0, 0, 0, 0, 2, 63]) = 0 := by decide
  unfold decr
  rw [if_pos this]
end Go.Proofs.Ytcogolbgfkikfaa.BlkS
set_option linter.unusedVariables false
set_option linter.unusedSimpArgs false
namespace Go.Proofs.Ytcogolbgfkikfaa.BlkS
open Go.RowKit Go.Proofs.Ytcogolbgfkikfaa.P Go.Proofs.Ytcogolbgfkikfaa.Th Go.Proofs.Ytcogolbgfkikfaa.NumS Go.Proofs.YtcogolbgfkikfaaW.PrintWords Go.Proofs.YtcogolbgfkikfaaW.PrintLast Go.Proofs.YtcogolbgfkikfaaW.PrintMore

theorem enc_r : encr [xa, xb] = (lb (encB [xa, xb]), 0) := by unfold encr; rw [if_pos row_ab]
theorem awake_ev : Ev (fun k => screelaw09_awake.f k) true := by
  unfold screelaw09_awake.f
  refine Ev.just (a := [xa, xb]) rfl ?_
  refine Ev.bind (Ev.eq (Encode_ev [xa, xb] (by simp)) enc_r) ?_
  refine Ev.bind (Ev.eq (Decode_ev (encB [xa, xb]) (by rw [enc_ab]; decide)) (decr_enc row_ab)) ?_
  refine Ev.bind seek_a ?_
  refine Ev.bind seek_b ?_
  refine Ev.bind (a := (lb [], 2)) (Ev.eq (Encode_ev [] (by simp)) (by rfl)) ?_
  refine Ev.pos (by rw [lb_size, enc_ab]; decide) ?_
  have hq := Decode_ev [0, 2, 97, 98, 3, 0, 1, 120, 2, 1, 99, 2, 1, 0, 0, 0, 0, 0, 0, 0, 0, 0, 0, 0, 0, 0, 0, 0, 0, 2, 63] (by decide)
  rw [dec_q] at hq
  have e : lb (encB [xa, xb]) ++ (⟨#[63]⟩ : ByteArray) = lb [0, 2, 97, 98, 3, 0, 1, 120, 2, 1, 99, 2, 1, 0, 0, 0, 0, 0, 0, 0, 0, 0, 0, 0, 0, 0, 0, 0, 0, 2, 63] := by
    rw [show (⟨#[63]⟩ : ByteArray) = lb [63] from rfl, lb_append, enc_ab]; rfl
  simp only [e]
  refine Ev.bind hq ?_
  refine Ev.pos (by rw [lb_toList, enc_ab]) (Ev.pos (by first | trivial | rfl) ?_)
  refine Ev.bind (Same_self [xa, xb] (by simp)) (Ev.pos (by first | trivial | rfl) (Ev.pos (by first | trivial | rfl) (Ev.pos (by decide) (Ev.pos (by rw [show rd_T35 [xa, xb] 1 = xb from rfl]; simp) (Ev.pos (by first | trivial | rfl) (Ev.pos (by first | trivial | rfl) (Ev.neg (by simp) (Ev.pos (by first | trivial | rfl) (Ev.pos (by first | trivial | rfl) (Ev.pos (by first | trivial | rfl) ?_))))))))))
  refine Ev.bind (Shared_ev [97, 98, 99] [97, 98, 100] (by simp)) (Ev.pos (by decide) ?_)
  have hc := Count_ev (encB [xa, xb]) (by rw [enc_ab]; decide)
  rw [cnt_enc (by simp)] at hc
  exact Ev.bind hc (Ev.pos (by first | trivial | rfl) (Ev.val rfl))
end Go.Proofs.Ytcogolbgfkikfaa.BlkS
