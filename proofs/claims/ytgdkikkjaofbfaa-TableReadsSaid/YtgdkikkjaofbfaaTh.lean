/- Bytes as lists, numbers as bytes: plain laws, with no program in sight. -/
import Derived.Test.YtgdkikkjaofbfaaWWords
import Derived.Test.YtgdkikkjaofbfaaOm
import Derived.Laws.BitsLemmas
set_option linter.unusedVariables false
set_option linter.unusedSimpArgs false
namespace Go.Proofs.Ytgdkikkjaofbfaa.Th
open Go.RowKit Go.Proofs.YtgdkikkjaofbfaaW.PrintWords Go.Proofs.YtgdkikkjaofbfaaW.PrintLast Go.Proofs.YtgdkikkjaofbfaaW.PrintMore

/-! ### rounds -/
theorem Ev.pos {α : Type} {c : Prop} [Decidable c] {A B : Nat → Option α} {r : α} (h : c) (e : Ev A r) : Ev (fun k => if c then A k else B k) r :=
  Ev.congr (fun _ => if_pos h) e
theorem Ev.neg {α : Type} {c : Prop} [Decidable c] {A B : Nat → Option α} {r : α} (h : ¬ c) (e : Ev B r) : Ev (fun k => if c then A k else B k) r :=
  Ev.congr (fun _ => if_neg h) e
theorem Ev.just {α β : Type} {g : Option α} {f : Nat → α → Option β} {a : α} {r : β} (h : g = some a) (k : Ev (fun n => f n a) r) : Ev (fun n => g.bind (f n)) r :=
  Ev.congr (fun _ => by rw [h]; rfl) k
theorem Ev.val {α : Type} {g : Option α} {r : α} (h : g = some r) : Ev (fun _ => g) r := ⟨0, fun _ _ => h⟩
theorem Ev.eq {α : Type} {g : Nat → Option α} {r r' : α} (h : Ev g r) (e : r = r') : Ev g r' := e ▸ h

/-! ### bytes as lists -/
def lb (l : List UInt8) : ByteArray := ⟨l.toArray⟩
def bl (s : ByteArray) : List UInt8 := s.data.toList
theorem lb_bl (s : ByteArray) : lb (bl s) = s := by cases s; simp [lb, bl]
theorem bl_lb (l : List UInt8) : bl (lb l) = l := by simp [lb, bl]
theorem ex_lb (s : ByteArray) : ∃ l, s = lb l := ⟨bl s, (lb_bl s).symm⟩
theorem lb_size (l : List UInt8) : (lb l).size = l.length := by simp [lb, ByteArray.size]
theorem lb_toList (l : List UInt8) : (lb l).toList = l := ByteArray.toList_mk l
theorem lb_append (a b : List UInt8) : lb a ++ lb b = lb (a ++ b) := by
  have : (lb a ++ lb b).data = (lb (a ++ b)).data := by simp [lb]
  cases h : lb a ++ lb b; cases h2 : lb (a ++ b); simp_all
theorem lb_extract (l : List UInt8) (i j : Nat) : (lb l).extract i j = lb ((l.take j).drop i) := by
  have : ((lb l).extract i j).data = (lb ((l.take j).drop i)).data := by
    simp [lb, ByteArray.data_extract, List.drop_take]
  cases h : (lb l).extract i j; cases h2 : lb ((l.take j).drop i); simp_all
theorem lb_nil : (⟨#[]⟩ : ByteArray) = lb [] := rfl
theorem bt_lb (l : List UInt8) (i : Int) (h : i.toNat < l.length) : bt (lb l) i = ((l[i.toNat]).toNat : Int) := by
  unfold bt; rw [dif_pos (by rw [lb_size]; exact h)]; rfl
theorem bt_nat (l : List UInt8) (i : Nat) (h : i < l.length) : bt (lb l) (i : Int) = ((l[i]).toNat : Int) := bt_lb l i h
theorem bt_app (a : List UInt8) (c : UInt8) (b : List UInt8) : bt (lb (a ++ c :: b)) (a.length : Int) = (c.toNat : Int) := by
  rw [bt_nat _ _ (by simp)]; simp
def ofI (xs : List Int) : List UInt8 := xs.map fun n => UInt8.ofNat n.toNat
theorem son (xs : List Int) : strOfNums xs = lb (ofI xs) := rfl
theorem ofI_app (a b : List Int) : ofI (a ++ b) = ofI a ++ ofI b := by simp [ofI]
def toI (l : List UInt8) : List Int := l.map fun c => (c.toNat : Int)
theorem ofI_toI (l : List UInt8) : ofI (toI l) = l := by
  simp [ofI, toI, Function.comp_def]
theorem u8_ofNat_toNat (n : Nat) (h : n < 256) : (UInt8.ofNat n).toNat = n := by simp [UInt8.toNat_ofNat']; omega
theorem u8_lt (c : UInt8) : c.toNat < 256 := c.toNat_lt
theorem u8_ext {a b : UInt8} (h : a.toNat = b.toNat) : a = b := UInt8.toNat_inj.1 h

/-! ### wraps and bits -/
theorem w64 (n : Int) (h0 : -9223372036854775808 ≤ n) (h1 : n < 9223372036854775808) : wrap64 n = n := by unfold wrap64; omega
theorem wu (n : Int) : IntKind.u64.wrap n = n % 18446744073709551616 := by simp [IntKind.wrap, IntKind.bits, IntKind.signed]
theorem wu_in (n : Int) (h0 : 0 ≤ n) (h1 : n < 18446744073709551616) : IntKind.u64.wrap n = n := by rw [wu]; omega
theorem wu_nat (n : Nat) (h1 : n < 18446744073709551616) : IntKind.u64.wrap (n : Int) = n := wu_in _ (by omega) (by omega)
theorem wraps_u64 (n : Int) (h₀ : 0 ≤ n) (h₁ : n < 2 ^ 64) : IntKind.u64.wrap n = n := wu_in n h₀ (by simpa using h₁)
theorem b8_or128 (x : Nat) (h : x < 256) : Go.bits .or .u8 (x : Int) 128 = ((x % 128 + 128 : Nat) : Int) := by
  have : ∀ y : Fin 256, Go.bits .or .u8 (y.val : Int) 128 = ((y.val % 128 + 128 : Nat) : Int) := by decide +kernel
  exact this ⟨x, h⟩
theorem b64_andNot128 (x : Nat) (h : x < 256) : Go.bits .andNot .u64 (x : Int) 128 = ((x % 128 : Nat) : Int) := by
  have : ∀ y : Fin 256, Go.bits .andNot .u64 (y.val : Int) 128 = ((y.val % 128 : Nat) : Int) := by decide +kernel
  exact this ⟨x, h⟩
theorem b64_or (a b i : Nat) (ha : a < 2 ^ i) (hb : b * 2 ^ i < 18446744073709551616) (ha2 : a < 18446744073709551616) : Go.bits .or .u64 (a : Int) ((b * 2 ^ i : Nat) : Int) = ((a + b * 2 ^ i : Nat) : Int) := by
  rw [(bits_nat .u64 64 (by decide) wraps_u64 a (b * 2 ^ i) (by simpa using ha2) (by simpa using hb)).2]
  rw [Nat.mul_comm b, Nat.or_comm, ← Nat.two_pow_add_eq_or_of_lt ha b, Nat.add_comm]
/-! ### a number's short bytes -/
def short (n : Nat) : List UInt8 := if n < 128 then [UInt8.ofNat n] else UInt8.ofNat (n % 128 + 128) :: short (n / 128)
termination_by n
decreasing_by omega
theorem short_lt (n : Nat) (h : n < 128) : short n = [UInt8.ofNat n] := by rw [short, if_pos h]
theorem short_ge (n : Nat) (h : 128 ≤ n) : short n = UInt8.ofNat (n % 128 + 128) :: short (n / 128) := by rw [short, if_neg (by omega)]
theorem short_ne (n : Nat) : short n ≠ [] := by rw [short]; split <;> simp
theorem short_pos (n : Nat) : 0 < (short n).length := by have := short_ne n; exact List.length_pos_iff.2 this
theorem short_len (m : Nat) : ∀ n, n < 128 ^ (m + 1) → (short n).length ≤ m + 1 := by
  induction m with
  | zero => intro n h; rw [short_lt n (by simpa using h)]; simp
  | succ m ih =>
    intro n h
    rcases Nat.lt_or_ge n 128 with h1 | h1
    · rw [short_lt n h1]; simp
    · rw [short_ge n h1]
      have : n / 128 < 128 ^ (m + 1) := by rw [Nat.div_lt_iff_lt_mul (by decide)]; rw [Nat.pow_succ] at h; exact h
      have := ih _ this
      simp; omega
theorem short_len10 (n : Nat) (h : n < 18446744073709551616) : (short n).length ≤ 10 := short_len 9 n (Nat.lt_of_lt_of_le h (by decide))
/-- The number that bytes begin with, however large: no more bytes than needed. -/
def tka : List UInt8 → Option (Nat × List UInt8)
  | [] => none
  | c :: l => if c.toNat < 128 then some (c.toNat, l) else match tka l with
    | some (m, r) => if m = 0 then none else some (c.toNat % 128 + 128 * m, r)
    | none => none
/-- As a number of 64 bits. -/
def tk (l : List UInt8) : Option (Nat × List UInt8) := match tka l with
  | some (n, r) => if n < 18446744073709551616 then some (n, r) else none
  | none => none
theorem tka_cons_lt (c : UInt8) (l : List UInt8) (h : c.toNat < 128) : tka (c :: l) = some (c.toNat, l) := by rw [tka, if_pos h]
theorem tka_some {c : UInt8} {l r : List UInt8} {m : Nat} (h : ¬ c.toNat < 128) (e : tka l = some (m, r)) : tka (c :: l) = if m = 0 then none else some (c.toNat % 128 + 128 * m, r) := by
  rw [tka, if_neg h, e]
theorem tka_none {c : UInt8} {l : List UInt8} (h : ¬ c.toNat < 128) (e : tka l = none) : tka (c :: l) = none := by
  rw [tka, if_neg h, e]
theorem tka_short (n : Nat) (r : List UInt8) : tka (short n ++ r) = some (n, r) := by
  induction n using Nat.strongRecOn with
  | _ n ih =>
    rcases Nat.lt_or_ge n 128 with h | h
    · rw [short_lt n h]
      have e : (UInt8.ofNat n).toNat = n := u8_ofNat_toNat n (by omega)
      show tka (UInt8.ofNat n :: r) = _
      rw [tka_cons_lt _ _ (by omega), e]
    · rw [short_ge n h]
      have e : (UInt8.ofNat (n % 128 + 128)).toNat = n % 128 + 128 := u8_ofNat_toNat _ (by omega)
      show tka (UInt8.ofNat (n % 128 + 128) :: (short (n / 128) ++ r)) = _
      rw [tka_some (by omega) (ih (n / 128) (by omega)), if_neg (by omega), e]
      simp; omega
theorem tka_sound : ∀ (l : List UInt8) (n : Nat) (r : List UInt8), tka l = some (n, r) → l = short n ++ r := by
  intro l
  induction l with
  | nil => intro n r h; cases h
  | cons c l ih =>
    intro n r h
    rcases Nat.lt_or_ge c.toNat 128 with hc | hc
    · rw [tka_cons_lt _ _ hc] at h
      obtain ⟨rfl, rfl⟩ : c.toNat = n ∧ l = r := by simpa using h
      rw [short_lt _ hc]; simp
    · cases e : tka l with
      | none => rw [tka_none (by omega) e] at h; cases h
      | some p =>
        obtain ⟨m, r'⟩ := p
        rw [tka_some (by omega) e] at h
        split at h
        · cases h
        · obtain ⟨rfl, rfl⟩ : c.toNat % 128 + 128 * m = n ∧ r' = r := by simpa using h
          have := ih _ _ e
          have hc2 := u8_lt c
          rw [short_ge _ (by omega)]
          have h1 : (c.toNat % 128 + 128 * m) % 128 + 128 = c.toNat := by omega
          have h2 : (c.toNat % 128 + 128 * m) / 128 = m := by omega
          rw [h1, h2, this]
          simp
theorem tka_iff (l r : List UInt8) (n : Nat) : tka l = some (n, r) ↔ l = short n ++ r := ⟨tka_sound l n r, fun h => by rw [h, tka_short]⟩
theorem tk_iff (l r : List UInt8) (n : Nat) : tk l = some (n, r) ↔ n < 18446744073709551616 ∧ l = short n ++ r := by
  unfold tk
  cases e : tka l with
  | none =>
    simp only [reduceCtorEq, false_iff, not_and]
    intro _ h
    rw [h, tka_short] at e; cases e
  | some p =>
    obtain ⟨m, r'⟩ := p
    rw [tka_iff] at e
    simp only
    constructor
    · intro h
      split at h
      · rename_i hm
        obtain ⟨rfl, rfl⟩ : m = n ∧ r' = r := by simpa using h
        exact ⟨hm, e⟩
      · cases h
    · rintro ⟨h1, h2⟩
      have h3 := tka_short n r
      rw [← h2, e, tka_short] at h3
      obtain ⟨rfl, rfl⟩ : m = n ∧ r' = r := by simpa using h3
      rw [if_pos h1]
theorem tk_short (n : Nat) (r : List UInt8) (h : n < 18446744073709551616) : tk (short n ++ r) = some (n, r) := (tk_iff _ _ _).2 ⟨h, rfl⟩
/-- No short bytes are a beginning of other ones. -/
theorem short_free {n m : Nat} {r s : List UInt8} (h : short n ++ r = short m ++ s) : n = m ∧ r = s := by
  have := tka_short n r
  rw [h, tka_short] at this
  simp at this
  exact ⟨this.1.symm, this.2.symm⟩
/-! ### a number's long bytes -/
def longk : Nat → Nat → List UInt8
  | 0, _ => []
  | k + 1, n => longk k (n / 256) ++ [UInt8.ofNat (n % 256)]
def be (acc : Nat) (l : List UInt8) : Nat := l.foldl (fun a c => a * 256 + c.toNat) acc
theorem be_nil (acc : Nat) : be acc [] = acc := rfl
theorem be_cons (acc : Nat) (c : UInt8) (l : List UInt8) : be acc (c :: l) = be (acc * 256 + c.toNat) l := rfl
theorem be_app (acc : Nat) (l m : List UInt8) : be acc (l ++ m) = be (be acc l) m := by simp [be, List.foldl_append]
theorem longk_len (k : Nat) : ∀ n, (longk k n).length = k := by
  induction k with
  | zero => intro n; rfl
  | succ k ih => intro n; simp [longk, ih]
theorem be_longk (k : Nat) : ∀ n acc, be acc (longk k n) = acc * 256 ^ k + n % 256 ^ k := by
  induction k with
  | zero => intro n acc; simp [longk, be_nil, Nat.mod_one]
  | succ k ih =>
    intro n acc
    rw [longk, be_app, ih, be_cons, be_nil, u8_ofNat_toNat _ (by omega)]
    have h1 : n % 256 ^ (k + 1) = 256 * (n / 256 % 256 ^ k) + n % 256 := by
      rw [Nat.pow_succ, Nat.mul_comm (256 ^ k) 256, Nat.mod_mul]
      omega
    rw [h1, Nat.pow_succ]
    have h2 : acc * (256 ^ k * 256) = acc * 256 ^ k * 256 := by rw [Nat.mul_assoc]
    rw [h2]
    omega
theorem be_lt : ∀ (l : List UInt8) (acc : Nat), be acc l < (acc + 1) * 256 ^ l.length := by
  intro l
  induction l with
  | nil => intro acc; simp [be_nil]
  | cons c l ih =>
    intro acc
    have := ih (acc * 256 + c.toNat)
    have hc := u8_lt c
    rw [be_cons, List.length_cons, Nat.pow_succ]
    refine Nat.lt_of_lt_of_le this ?_
    have h2 : acc * 256 + c.toNat + 1 ≤ (acc + 1) * 256 := by omega
    calc (acc * 256 + c.toNat + 1) * 256 ^ l.length ≤ (acc + 1) * 256 * 256 ^ l.length := Nat.mul_le_mul_right _ h2
      _ = (acc + 1) * (256 ^ l.length * 256) := by rw [Nat.mul_assoc, Nat.mul_comm 256]
def long (n : Nat) : List UInt8 := longk 8 n
theorem long_len (n : Nat) : (long n).length = 8 := longk_len 8 n
theorem be_long (n : Nat) (h : n < 18446744073709551616) : be 0 (long n) = n := by
  rw [long, be_longk]; simp; omega
theorem be_lt8 (l : List UInt8) (h : l.length = 8) : be 0 l < 18446744073709551616 := by
  have := be_lt l 0; rw [h] at this; simpa using this
/-! ### the order of bytes -/
theorem bl_self : ∀ (a : List UInt8), Op.bytesLess a a = false := by
  intro a
  induction a with
  | nil => rfl
  | cons c a ih => simp [Op.bytesLess, ih]
end Go.Proofs.Ytgdkikkjaofbfaa.Th
