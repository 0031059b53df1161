/- Escaped keys: plain laws, with no program in sight. -/
import Derived.Test.YtgdkikkjaofbfaaTh
set_option linter.unusedVariables false
set_option linter.unusedSimpArgs false
namespace Go.Proofs.Ytgdkikkjaofbfaa.KeyT
open Go.RowKit Go.Proofs.Ytgdkikkjaofbfaa.Th

def esc : List UInt8 → List UInt8
  | [] => []
  | c :: l => if c = 0 then 0 :: 255 :: esc l else c :: esc l
theorem esc_zero (l : List UInt8) : esc (0 :: l) = 0 :: 255 :: esc l := rfl
theorem esc_cons {c : UInt8} (h : c ≠ 0) (l : List UInt8) : esc (c :: l) = c :: esc l := by rw [esc, if_neg h]
theorem esc_app : ∀ (a b : List UInt8), esc (a ++ b) = esc a ++ esc b := by
  intro a
  induction a with
  | nil => intro b; rfl
  | cons c a ih =>
    intro b
    by_cases h : c = 0
    · subst h; rw [List.cons_append, esc_zero, esc_zero, ih]; rfl
    · rw [List.cons_append, esc_cons h, esc_cons h, ih]; rfl
theorem esc_len : ∀ (a : List UInt8), (esc a).length ≤ 2 * a.length := by
  intro a
  induction a with
  | nil => simp [esc]
  | cons c a ih =>
    by_cases h : c = 0
    · subst h; rw [esc_zero]; simp; omega
    · rw [esc_cons h]; simp; omega
theorem esc_len_ge : ∀ (a : List UInt8), a.length ≤ (esc a).length := by
  intro a
  induction a with
  | nil => simp [esc]
  | cons c a ih =>
    by_cases h : c = 0
    · subst h; rw [esc_zero]; simp; omega
    · rw [esc_cons h]; simp; omega
/-- an escaped key -/
def E (u : List UInt8) : List UInt8 := esc u ++ [0, 1]
def mayK (u : List UInt8) : Bool := decide (1 ≤ u.length ∧ u.length ≤ 24)
/-- an escaped key, read: what has been read so far goes ahead -/
def une : List UInt8 → List UInt8 → Option (List UInt8 × List UInt8)
  | _, [] => none
  | acc, [c] => none
  | acc, c :: d :: l => if c = 0 then (if d = 255 then une (acc ++ [0]) l else if d = 1 ∧ mayK acc = true then some (acc, l) else none) else une (acc ++ [c]) (d :: l)
theorem une_zero (acc l : List UInt8) : une acc (0 :: 255 :: l) = une (acc ++ [0]) l := by rw [une]; simp
theorem une_end (acc l : List UInt8) (h : mayK acc = true) : une acc (0 :: 1 :: l) = some (acc, l) := by rw [une]; simp [h]
theorem une_bad (acc l : List UInt8) {d : UInt8} (h : d ≠ 255) (h2 : ¬ (d = 1 ∧ mayK acc = true)) : une acc (0 :: d :: l) = none := by rw [une, if_pos rfl, if_neg h, if_neg h2]
theorem une_cons (acc : List UInt8) {c : UInt8} (l : List UInt8) (h : c ≠ 0) : une acc (c :: l) = une (acc ++ [c]) l := by
  cases l with
  | nil => simp [une]
  | cons d l => rw [une, if_neg h]
theorem une_esc : ∀ (u acc r : List UInt8), mayK (acc ++ u) = true → une acc (E u ++ r) = some (acc ++ u, r) := by
  intro u
  induction u with
  | nil => intro acc r h; rw [List.append_nil] at h ⊢; exact une_end acc r h
  | cons c u ih =>
    intro acc r h
    have h2 : mayK ((acc ++ [c]) ++ u) = true := by simpa using h
    by_cases hc : c = 0
    · subst hc
      have : E (0 :: u) ++ r = 0 :: 255 :: (E u ++ r) := by simp [E, esc_zero]
      rw [this, une_zero, ih _ _ h2]; simp
    · have : E (c :: u) ++ r = c :: (E u ++ r) := by simp [E, esc_cons hc]
      rw [this, une_cons _ _ hc, ih _ _ h2]; simp
theorem une_sound : ∀ (n : Nat) (l acc u r : List UInt8), l.length ≤ n → une acc l = some (u, r) → ∃ v, u = acc ++ v ∧ mayK u = true ∧ l = E v ++ r := by
  intro n
  induction n with
  | zero =>
    intro l acc u r hn h
    have : l = [] := List.length_eq_zero_iff.1 (by omega)
    subst this
    cases h
  | succ n ih =>
    intro l acc u r hn h
    cases l with
    | nil => cases h
    | cons c l =>
      by_cases hc : c = 0
      · subst hc
        cases l with
        | nil => cases h
        | cons d l =>
          rw [une, if_pos rfl] at h
          simp only [List.length_cons] at hn
          by_cases hd : d = 255
          · rw [if_pos hd] at h
            obtain ⟨v, h1, h2, h3⟩ := ih l _ u r (by omega) h
            exact ⟨0 :: v, by simp [h1], h2, by subst hd; simp [E, esc_zero, h3]⟩
          · rw [if_neg hd] at h
            by_cases he : d = 1 ∧ mayK acc = true
            · rw [if_pos he] at h
              simp only [Option.some.injEq, Prod.mk.injEq] at h
              obtain ⟨rfl, rfl⟩ := h
              exact ⟨[], by simp, he.2, by rw [he.1]; rfl⟩
            · rw [if_neg he] at h; cases h
      · rw [une_cons _ _ hc] at h
        simp only [List.length_cons] at hn
        obtain ⟨v, h1, h2, h3⟩ := ih l _ u r (by omega) h
        exact ⟨c :: v, by simp [h1], h2, by rw [h3]; simp [E, esc_cons hc]⟩
theorem une_iff (l u r : List UInt8) : une [] l = some (u, r) ↔ mayK u = true ∧ l = E u ++ r := by
  constructor
  · intro h
    obtain ⟨v, h1, h2, h3⟩ := une_sound l.length l [] u r (Nat.le_refl _) h
    rw [List.nil_append] at h1
    subst h1
    exact ⟨h2, h3⟩
  · rintro ⟨h, rfl⟩
    exact une_esc u [] r h
/-- Nothing else begins so: of two escaped keys with what is behind. -/
theorem E_free : ∀ (u v r s : List UInt8), E u ++ r = E v ++ s → u = v ∧ r = s := by
  intro u
  induction u with
  | nil =>
    intro v r s h
    cases v with
    | nil => exact ⟨rfl, by simpa [E, esc] using h⟩
    | cons d v =>
      by_cases hd : d = 0
      · subst hd; simp [E, esc] at h
      · simp [E, esc, hd] at h; exact absurd h.1.symm hd
  | cons c u ih =>
    intro v r s h
    cases v with
    | nil =>
      by_cases hc : c = 0
      · subst hc; simp [E, esc] at h
      · simp [E, esc, hc] at h
    | cons d v =>
      by_cases hc : c = 0
      · subst hc
        by_cases hd : d = 0
        · subst hd
          have h2 : E u ++ r = E v ++ s := by simpa [E, esc] using h
          obtain ⟨rfl, rfl⟩ := ih v r s h2
          exact ⟨rfl, rfl⟩
        · simp [E, esc, hd] at h; exact absurd h.1.symm hd
      · by_cases hd : d = 0
        · subst hd; simp [E, esc, hc] at h
        · have h2 : c = d ∧ E u ++ r = E v ++ s := by simpa [E, esc, hc, hd] using h
          obtain ⟨rfl, h3⟩ := h2
          obtain ⟨rfl, rfl⟩ := ih v r s h3
          exact ⟨rfl, rfl⟩
theorem E_inj {u v : List UInt8} (h : E u = E v) : u = v := (E_free u v [] [] (by simpa using h)).1
/-! ### order -/
theorem bl_cons (c : UInt8) (a b : List UInt8) : Op.bytesLess (c :: a) (c :: b) = Op.bytesLess a b := by
  simp [Op.bytesLess]
theorem bl_app (x a b : List UInt8) : Op.bytesLess (x ++ a) (x ++ b) = Op.bytesLess a b := by
  induction x with
  | nil => rfl
  | cons c x ih => rw [List.cons_append, List.cons_append, bl_cons, ih]
theorem bl_lt {c d : UInt8} (h : c.toNat < d.toNat) (a b : List UInt8) : Op.bytesLess (c :: a) (d :: b) = true := by
  have : c < d := by rw [UInt8.lt_iff_toNat_lt]; exact h
  simp [Op.bytesLess, this]
theorem bl_gt {c d : UInt8} (h : d.toNat < c.toNat) (a b : List UInt8) : Op.bytesLess (c :: a) (d :: b) = false := by
  have h1 : ¬ c < d := by rw [UInt8.lt_iff_toNat_lt]; omega
  have h2 : c ≠ d := by intro e; rw [e] at h; omega
  simp [Op.bytesLess, h1, h2]
theorem u8_ne {c d : UInt8} (h : c ≠ d) : c.toNat < d.toNat ∨ d.toNat < c.toNat := by
  have : c.toNat ≠ d.toNat := fun e => h (UInt8.toNat_inj.1 e)
  omega
theorem u8_pos {c : UInt8} (h : c ≠ 0) : 0 < c.toNat := by
  have : c.toNat ≠ 0 := fun e => h (UInt8.toNat_inj.1 (by simpa using e))
  omega
theorem esc_less (x y : UInt8) (hx : x.toNat < 255) (hy : y.toNat < 255) (r s : List UInt8) : ∀ (u v : List UInt8), u ≠ v →
    Op.bytesLess (esc u ++ 0 :: x :: r) (esc v ++ 0 :: y :: s) = Op.bytesLess u v := by
  intro u
  induction u with
  | nil =>
    intro v h
    cases v with
    | nil => exact absurd rfl h
    | cons d v =>
      by_cases hd : d = 0
      · subst hd
        rw [esc_zero]
        show Op.bytesLess (0 :: x :: r) (0 :: 255 :: _) = _
        rw [bl_cons, bl_lt (show x.toNat < (255 : UInt8).toNat from hx)]
        rfl
      · rw [esc_cons hd]
        show Op.bytesLess (0 :: x :: r) (d :: _) = _
        rw [bl_lt (show (0 : UInt8).toNat < d.toNat from u8_pos hd)]
        rfl
  | cons c u ih =>
    intro v h
    cases v with
    | nil =>
      have hr : Op.bytesLess (c :: u) [] = false := rfl
      rw [hr]
      by_cases hc : c = 0
      · subst hc
        rw [esc_zero]
        show Op.bytesLess (0 :: 255 :: _) (0 :: y :: s) = _
        rw [bl_cons, bl_gt (show y.toNat < (255 : UInt8).toNat from hy)]
      · rw [esc_cons hc]
        show Op.bytesLess (c :: _) (0 :: y :: s) = _
        rw [bl_gt (show (0 : UInt8).toNat < c.toNat from u8_pos hc)]
    | cons d v =>
      by_cases hcd : c = d
      · subst hcd
        have huv : u ≠ v := fun e => h (by rw [e])
        rw [bl_cons]
        by_cases hc : c = 0
        · subst hc
          rw [esc_zero, esc_zero]
          show Op.bytesLess (0 :: 255 :: _) (0 :: 255 :: _) = _
          rw [bl_cons, bl_cons]
          exact ih v huv
        · rw [esc_cons hc, esc_cons hc]
          show Op.bytesLess (c :: _) (c :: _) = _
          rw [bl_cons]
          exact ih v huv
      · have hlt : ∀ (a b : List UInt8), Op.bytesLess (c :: a) (d :: b) = decide (c.toNat < d.toNat) := by
          intro a b
          rcases u8_ne hcd with h1 | h1
          · rw [bl_lt h1, decide_eq_true h1]
          · rw [bl_gt h1, decide_eq_false (by omega)]
        have e1 : ∃ a, esc (c :: u) ++ 0 :: x :: r = c :: a := by
          by_cases hc : c = 0
          · subst hc; exact ⟨_, rfl⟩
          · rw [esc_cons hc]; exact ⟨_, rfl⟩
        have e2 : ∃ a, esc (d :: v) ++ 0 :: y :: s = d :: a := by
          by_cases hc : d = 0
          · subst hc; exact ⟨_, rfl⟩
          · rw [esc_cons hc]; exact ⟨_, rfl⟩
        obtain ⟨a, e1⟩ := e1
        obtain ⟨b, e2⟩ := e2
        rw [e1, e2, hlt, hlt]
theorem E_less (u v r s : List UInt8) (h : u ≠ v) : Op.bytesLess (E u ++ r) (E v ++ s) = Op.bytesLess u v := by
  have := esc_less 1 1 (by decide) (by decide) r s u v h
  simpa [E] using this
theorem E_same (u r s : List UInt8) : Op.bytesLess (E u ++ r) (E u ++ s) = Op.bytesLess r s := bl_app _ _ _
theorem bl_asymm : ∀ (a b : List UInt8), Op.bytesLess a b = true → Op.bytesLess b a = false := by
  intro a
  induction a with
  | nil => intro b h; cases b <;> simp [Op.bytesLess] at h ⊢
  | cons c a ih =>
    intro b h
    cases b with
    | nil => simp [Op.bytesLess] at h
    | cons d b =>
      by_cases e : c = d
      · subst e; rw [bl_cons] at h ⊢; exact ih b h
      · rcases u8_ne e with h1 | h1
        · exact bl_gt h1 _ _
        · rw [bl_gt h1] at h; cases h
theorem bl_total : ∀ (a b : List UInt8), a ≠ b → Op.bytesLess a b = false → Op.bytesLess b a = true := by
  intro a
  induction a with
  | nil => intro b h h2; cases b with
    | nil => exact absurd rfl h
    | cons d b => simp [Op.bytesLess] at h2
  | cons c a ih =>
    intro b h h2
    cases b with
    | nil => rfl
    | cons d b =>
      by_cases e : c = d
      · subst e; rw [bl_cons] at h2 ⊢; exact ih b (fun e => h (by rw [e])) h2
      · rcases u8_ne e with h1 | h1
        · rw [bl_lt h1] at h2; cases h2
        · exact bl_lt h1 _ _
theorem bl_trans : ∀ (a b c : List UInt8), Op.bytesLess a b = true → Op.bytesLess b c = true → Op.bytesLess a c = true := by
  intro a
  induction a with
  | nil => intro b c h h2; cases c with
    | nil => cases b <;> simp [Op.bytesLess] at h2
    | cons _ _ => rfl
  | cons x a ih =>
    intro b c h h2
    cases b with
    | nil => simp [Op.bytesLess] at h
    | cons y b =>
      cases c with
      | nil => simp [Op.bytesLess] at h2
      | cons z c =>
        by_cases e1 : x = y
        · subst e1
          rw [bl_cons] at h
          by_cases e2 : x = z
          · subst e2; rw [bl_cons] at h2 ⊢; exact ih b c h h2
          · rcases u8_ne e2 with h3 | h3
            · exact bl_lt h3 _ _
            · rw [bl_gt h3] at h2; cases h2
        · rcases u8_ne e1 with h1 | h1
          · by_cases e2 : y = z
            · subst e2; exact bl_lt h1 _ _
            · rcases u8_ne e2 with h3 | h3
              · exact bl_lt (by omega) _ _
              · rw [bl_gt h3] at h2; cases h2
          · rw [bl_gt h1] at h; cases h
/-! ### as the reference reads -/
def naive : List UInt8 → List UInt8
  | [] => []
  | [c] => [c]
  | c :: d :: l => if c = 0 then 0 :: naive l else c :: naive (d :: l)
theorem naive_esc : ∀ (u : List UInt8), naive (esc u) = u := by
  intro u
  induction u with
  | nil => rfl
  | cons c u ih =>
    by_cases hc : c = 0
    · subst hc; rw [esc_zero, naive, if_pos rfl, ih]
    · rw [esc_cons hc]
      cases he : esc u with
      | nil =>
        have : u = [] := List.length_eq_zero_iff.1 (by have := esc_len_ge u; rw [he] at this; simpa using this)
        subst this; rfl
      | cons d l => rw [naive, if_neg hc, ← he, ih]
end Go.Proofs.Ytgdkikkjaofbfaa.KeyT
