/- block: the order of entries; what is sought is the first that is not ahead. -/
import Derived.Test.YtcogolbgfkikfaaPx0
import Derived.Test.YtcogolbgfkikfaaPx7
import Derived.Test.YtcogolbgfkikfaaBlkB
set_option linter.unusedVariables false
set_option linter.unusedSimpArgs false
namespace Go.Proofs.Ytcogolbgfkikfaa.BlkS
open Go.RowKit Go.Proofs.Ytcogolbgfkikfaa.P Go.Proofs.Ytcogolbgfkikfaa.Th Go.Proofs.Ytcogolbgfkikfaa.NumS Go.Proofs.YtcogolbgfkikfaaW.PrintWords Go.Proofs.YtcogolbgfkikfaaW.PrintLast Go.Proofs.YtcogolbgfkikfaaW.PrintMore

theorem bl_cons (c : UInt8) (a b : List UInt8) : Op.bytesLess (c :: a) (c :: b) = Op.bytesLess a b := by
  simp [Op.bytesLess]
theorem bl_lt {c d : UInt8} (h : c.toNat < d.toNat) (a b : List UInt8) : Op.bytesLess (c :: a) (d :: b) = true := by
  have : c < d := by rw [UInt8.lt_iff_toNat_lt]; exact h
  simp [Op.bytesLess, this]
theorem bl_gt {c d : UInt8} (h : d.toNat < c.toNat) (a b : List UInt8) : Op.bytesLess (c :: a) (d :: b) = false := by
  have h1 : ¬ c < d := by rw [UInt8.lt_iff_toNat_lt]; omega
  have h2 : c ≠ d := by intro e; rw [e] at h; omega
  simp [Op.bytesLess, h1, h2]
theorem u8_ne {c d : UInt8} (h : c ≠ d) : c.toNat < d.toNat ∨ d.toNat < c.toNat := by
  have : c.toNat ≠ d.toNat := fun e => h (UInt8.toNat_inj.1 e)
  omega
theorem bl_trans : ∀ (a b c : List UInt8), Op.bytesLess a b = true → Op.bytesLess b c = true → Op.bytesLess a c = true := by
  intro a
  induction a with
  | nil => intro b c h h2; cases c with
    | nil => cases b <;> simp [Op.bytesLess] at h2
    | cons _ _ => rfl
  | cons x a ih =>
    intro b c h h2
    cases b with
    | nil => simp [Op.bytesLess] at h
    | cons y b =>
      cases c with
      | nil => simp [Op.bytesLess] at h2
      | cons z c =>
        by_cases e1 : x = y
        · subst e1
          rw [bl_cons] at h
          by_cases e2 : x = z
          · subst e2; rw [bl_cons] at h2 ⊢; exact ih b c h h2
          · rcases u8_ne e2 with h3 | h3
            · exact bl_lt h3 _ _
            · rw [bl_gt h3] at h2; cases h2
        · rcases u8_ne e1 with h1 | h1
          · by_cases e2 : y = z
            · subst e2; exact bl_lt h1 _ _
            · rcases u8_ne e2 with h3 | h3
              · exact bl_lt (by omega) _ _
              · rw [bl_gt h3] at h2; cases h2
          · rw [bl_gt h1] at h; cases h
theorem ltE_iff {x y : ES} : ltE x y = true ↔ Op.bytesLess (bl x.f0) (bl y.f0) = true ∨ (bl x.f0 = bl y.f0 ∧ x.f1 > y.f1) := by
  unfold ltE; simp
theorem ltE_trans {x y z : ES} (h1 : ltE x y = true) (h2 : ltE y z = true) : ltE x z = true := by
  rw [ltE_iff] at h1 h2 ⊢
  rcases h1 with h1 | ⟨h1, h3⟩
  · rcases h2 with h2 | ⟨h2, h4⟩
    · exact Or.inl (bl_trans _ _ _ h1 h2)
    · rw [h2] at h1; exact Or.inl h1
  · rcases h2 with h2 | ⟨h2, h4⟩
    · rw [← h1] at h2; exact Or.inl h2
    · exact Or.inr ⟨h1.trans h2, by omega⟩
theorem sorted_all : ∀ (l : List ES) (x : ES), sorted (x :: l) = true → ∀ y ∈ l, ltE x y = true := by
  intro l
  induction l with
  | nil => intro x _ y hy; simp at hy
  | cons z l ih =>
    intro x h y hy
    have h' : (ltE x z && sorted (z :: l)) = true := h
    rw [Bool.and_eq_true] at h'
    rcases List.mem_cons.1 hy with rfl | hy
    · exact h'.1
    · exact ltE_trans h'.1 (ih z h'.2 y hy)
theorem sorted_tail {x : ES} {l : List ES} (h : sorted (x :: l) = true) : sorted l = true := by
  cases l with
  | nil => rfl
  | cons z l =>
    have h' : (ltE x z && sorted (z :: l)) = true := h
    rw [Bool.and_eq_true] at h'
    exact h'.2
theorem sorted_lt : ∀ (l : List ES), sorted l = true → ∀ (i j : Nat) (hi : i < l.length) (hj : j < l.length), i < j → ltE l[i] l[j] = true := by
  intro l
  induction l with
  | nil => intro _ i j hi; simp at hi
  | cons x l ih =>
    intro h i j hi hj hij
    obtain ⟨j, rfl⟩ : ∃ m, j = m + 1 := ⟨j - 1, by omega⟩
    cases i with
    | zero => exact sorted_all l x h _ (List.getElem_mem (by simpa using hj))
    | succ i => exact ih (sorted_tail h) i j (by simpa using hi) (by simpa using hj) (by omega)
theorem ah_lt (x : ES) (key : List UInt8) (seq : Int) : ahB x key seq = ltE x ⟨lb key, seq, false, lb []⟩ := by
  unfold ahB ltE
  rw [bl_lb]
theorem find_drop {l : List ES} (hs : sorted l = true) (key : List UInt8) (seq : Int) (c : Nat) (h : c < l.length) (ha : ahB l[c] key seq = true) :
    l.find? (fun x => !(ahB x key seq)) = (l.drop c).find? (fun x => !(ahB x key seq)) := by
  have e : l = l.take c ++ l.drop c := (List.take_append_drop c l).symm
  have hn : (l.take c).find? (fun x => !(ahB x key seq)) = none := by
    rw [List.find?_eq_none]
    intro x hx
    obtain ⟨i, hi, rfl⟩ := List.getElem_of_mem hx
    rw [List.length_take] at hi
    have h1 : i < l.length := by omega
    rw [List.getElem_take, ah_lt]
    rw [ah_lt] at ha
    rw [ltE_trans (sorted_lt l hs i c h1 h (by omega)) ha]
    simp
  conv => lhs; rw [e, List.find?_append, hn]
  rfl
theorem Seek_first {l : List ES} (hr : rowB l = true) (key : List UInt8) (seq : Int) : Ev (fun k => block_Seek.f k (lb (encB l)) (lb key) seq) (block_Seek.ans (l.find? (fun x => !(ahB x key seq)))) := by
  obtain ⟨c, h1, h2, h3⟩ := Seek_ev hr key seq
  rcases h2 with rfl | ⟨h, ha⟩
  · simpa using h3
  · rw [find_drop (rowB_sorted hr) key seq (4 * c) h ha]; exact h3
end Go.Proofs.Ytcogolbgfkikfaa.BlkS
