/- Escaped keys: plain laws, with no program in sight. -/
import Derived.Test.YtgdkikkjaofbfaaTh
set_option linter.unusedVariables false
set_option linter.unusedSimpArgs false
namespace Go.Proofs.Ytgdkikkjaofbfaa.KeyT
open Go.RowKit Go.Proofs.Ytgdkikkjaofbfaa.Th

def esc : List UInt8 → List UInt8
  | [] => []
  | c :: l => if c = 0 then 0 :: 255 :: esc l else c :: esc l
/-- an escaped key -/
def E (u : List UInt8) : List UInt8 := esc u ++ [0, 1]
/-! ### order -/
theorem bl_cons (c : UInt8) (a b : List UInt8) : Op.bytesLess (c :: a) (c :: b) = Op.bytesLess a b := by
  simp [Op.bytesLess]
theorem bl_lt {c d : UInt8} (h : c.toNat < d.toNat) (a b : List UInt8) : Op.bytesLess (c :: a) (d :: b) = true := by
  have : c < d := by rw [UInt8.lt_iff_toNat_lt]; exact h
  simp [Op.bytesLess, this]
theorem bl_gt {c d : UInt8} (h : d.toNat < c.toNat) (a b : List UInt8) : Op.bytesLess (c :: a) (d :: b) = false := by
  have h1 : ¬ c < d := by rw [UInt8.lt_iff_toNat_lt]; omega
  have h2 : c ≠ d := by intro e; rw [e] at h; omega
  simp [Op.bytesLess, h1, h2]
theorem u8_ne {c d : UInt8} (h : c ≠ d) : c.toNat < d.toNat ∨ d.toNat < c.toNat := by
  have : c.toNat ≠ d.toNat := fun e => h (UInt8.toNat_inj.1 e)
  omega
theorem bl_trans : ∀ (a b c : List UInt8), Op.bytesLess a b = true → Op.bytesLess b c = true → Op.bytesLess a c = true := by
  intro a
  induction a with
  | nil => intro b c h h2; cases c with
    | nil => cases b <;> simp [Op.bytesLess] at h2
    | cons _ _ => rfl
  | cons x a ih =>
    intro b c h h2
    cases b with
    | nil => simp [Op.bytesLess] at h
    | cons y b =>
      cases c with
      | nil => simp [Op.bytesLess] at h2
      | cons z c =>
        by_cases e1 : x = y
        · subst e1
          rw [bl_cons] at h
          by_cases e2 : x = z
          · subst e2; rw [bl_cons] at h2 ⊢; exact ih b c h h2
          · rcases u8_ne e2 with h3 | h3
            · exact bl_lt h3 _ _
            · rw [bl_gt h3] at h2; cases h2
        · rcases u8_ne e1 with h1 | h1
          · by_cases e2 : y = z
            · subst e2; exact bl_lt h1 _ _
            · rcases u8_ne e2 with h3 | h3
              · exact bl_lt (by omega) _ _
              · rw [bl_gt h3] at h2; cases h2
          · rw [bl_gt h1] at h; cases h
/-! ### as the reference reads -/
end Go.Proofs.Ytgdkikkjaofbfaa.KeyT
