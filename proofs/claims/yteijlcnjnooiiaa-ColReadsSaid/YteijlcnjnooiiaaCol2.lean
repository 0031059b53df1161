/- col: writes that are read, the reference's reading of locks and writes; leases. -/
import Derived.Test.YteijlcnjnooiiaaPx0
import Derived.Test.YteijlcnjnooiiaaPx10
import Derived.Test.YteijlcnjnooiiaaCol
set_option linter.unusedVariables false
set_option linter.unusedSimpArgs false
namespace Go.Proofs.Yteijlcnjnooiiaa.ColS
open Go.RowKit Go.Proofs.Yteijlcnjnooiiaa.P Go.Proofs.Yteijlcnjnooiiaa.Th Go.Proofs.Yteijlcnjnooiiaa.NumS Go.Proofs.Yteijlcnjnooiiaa.KeyT Go.Proofs.YteijlcnjnooiiaaW.PrintWords Go.Proofs.YteijlcnjnooiiaaW.PrintLast Go.Proofs.YteijlcnjnooiiaaW.PrintMore

def no2 : Int × Int × Int := (0, 0, 2)
def uwr : List UInt8 → Int × Int × Int
  | [] => no2
  | c :: t => match nums 1 t with
    | some ([a], r) => if okW a c.toNat ∧ wrB a c.toNat = c :: t then ((a : Int), (c.toNat : Int), 0) else no2
    | _ => no2
theorem api_Write_ev (s : List UInt8) (st kd : Int) :
    Ev (fun k => api_Write.f k st kd (lb s)) (if okW st kd ∧ wrB st kd = s then (st, kd, 0) else no2) := by
  unfold api_Write.f
  refine Ev.bind (Write_ev st kd) ?_
  by_cases h1 : okW st kd
  · rw [wrr_yes h1]
    by_cases h2 : wrB st kd = s
    · refine Ev.eq ?_ (if_pos ⟨h1, h2⟩).symm
      exact Ev.neg (by simp [lb_toList, h2]) (Ev.val rfl)
    · refine Ev.eq ?_ (if_neg (fun e => h2 e.2)).symm
      exact Ev.pos (by simp [lb_toList, h2]) (Ev.val rfl)
  · rw [wrr_no h1]
    refine Ev.eq ?_ (if_neg (fun e => h1 e.1)).symm
    exact Ev.pos (by simp) (Ev.val rfl)
theorem nums1 {t r : List UInt8} {l : List Nat} (h : nums 1 t = some (l, r)) : ∃ a, l = [a] ∧ a < 18446744073709551616 ∧ t = short a ++ r := by
  obtain ⟨h1, h2, h3⟩ := (nums_iff _ _ _ _).1 h
  match l, h1 with
  | [a], _ => exact ⟨a, rfl, h2 a (by simp), by rw [h3]; simp⟩
theorem Unwrite_ev (s : List UInt8) (hs : s.length ≤ 140737488351232) : Ev (fun k => col_Unwrite.f k (lb s)) (uwr s) := by
  unfold col_Unwrite.f
  cases s with
  | nil => exact Ev.pos (lb_toList []) (Ev.val rfl)
  | cons c t =>
    have ht : t.length + 1 ≤ 140737488351232 := by simpa using hs
    refine Ev.neg (by rw [lb_toList]; simp) (Ev.pos (by rw [lb_size]; simp; omega) ?_)
    rw [ex_tail, bt_head]
    have hc := u8_lt c
    rw [w64 _ (by omega) (by omega)]
    refine Ev.bind (numbers_ev 1 t (by omega) (by omega)) ?_
    rw [uwr]
    cases e : nums 1 t with
    | none => exact Ev.neg (by simp [nres]) (Ev.val rfl)
    | some q =>
      obtain ⟨l, r⟩ := q
      obtain ⟨a, rfl, ha, hr⟩ := nums1 e
      refine Ev.pos (by simp [nres]) (Ev.pos (by simp [nres]) (Ev.pos (by rw [lb_size]; simp) ?_))
      refine Ev.bind (api_Write_ev (c :: t) a c.toNat) ?_
      exact Ev.val rfl
theorem uwr_cases (s : List UInt8) : uwr s = no2 ∨ ∃ (st kd : Int), okW st kd ∧ s = wrB st kd ∧ uwr s = (st, kd, 0) := by
  cases s with
  | nil => exact Or.inl rfl
  | cons c t =>
    rw [uwr]
    cases e : nums 1 t with
    | none => exact Or.inl rfl
    | some q =>
      obtain ⟨l, r⟩ := q
      obtain ⟨a, rfl, ha, hr⟩ := nums1 e
      simp only
      by_cases h : okW a c.toNat ∧ wrB a c.toNat = c :: t
      · rw [if_pos h]
        exact Or.inr ⟨a, c.toNat, h.1, h.2.symm, rfl⟩
      · rw [if_neg h]; exact Or.inl rfl
theorem uwr_good {st kd : Int} (h : okW st kd) : uwr (wrB st kd) = (st, kd, 0) := by
  obtain ⟨a, rfl⟩ := Int.eq_ofNat_of_zero_le (tm_u h.1).1
  have h2 := tm_u h.1
  have e0 : ∃ c : UInt8, ofI [kd % 256] = [c] ∧ (c.toNat : Int) = kd := by
    have := h.2.1
    have := h.2.2
    rcases (by omega : kd = 1 ∨ kd = 2 ∨ kd = 3) with e | e | e <;> subst e <;> exact ⟨_, rfl, rfl⟩
  obtain ⟨c, e1, e2⟩ := e0
  have e3 : wrB a kd = c :: short a := by
    unfold wrB sh; rw [e1]; simp
  have e4 : nums 1 (short a) = some ([a], []) := by
    refine (nums_iff _ _ _ _).2 ⟨rfl, ?_, by simp⟩
    intro x hx
    have h5 := h2.2
    simp only [List.mem_cons, List.not_mem_nil, or_false] at hx
    subst hx; omega
  rw [e3, uwr, e4]
  simp only
  rw [e2, if_pos ⟨h, e3⟩]
end Go.Proofs.Yteijlcnjnooiiaa.ColS
