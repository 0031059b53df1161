/- col: the reference's reading of locks and writes. -/
import Derived.Test.YteijlcnjnooiiaaPx0
import Derived.Test.YteijlcnjnooiiaaPx13
import Derived.Test.YteijlcnjnooiiaaPx14
import Derived.Test.YteijlcnjnooiiaaColQ
import Derived.Test.YteijlcnjnooiiaaNumB
set_option linter.unusedVariables false
set_option linter.unusedSimpArgs false
namespace Go.Proofs.Yteijlcnjnooiiaa.ColS
open Go.RowKit Go.Proofs.Yteijlcnjnooiiaa.P Go.Proofs.Yteijlcnjnooiiaa.Th Go.Proofs.Yteijlcnjnooiiaa.NumS Go.Proofs.Yteijlcnjnooiiaa.KeyT Go.Proofs.YteijlcnjnooiiaaW.PrintWords Go.Proofs.YteijlcnjnooiiaaW.PrintLast Go.Proofs.YteijlcnjnooiiaaW.PrintMore

/-! ### the reference's reading -/
def rn (s : List UInt8) (b : Bool) : Nat × List UInt8 × Bool := match tk s with
  | none => (0, s, true)
  | some (n, r) => if b = true then (0, s, true) else (n, r, false)
theorem RNum_ev (s : List UInt8) (b : Bool) (hs : s.length ≤ 140737488351232) : Ev (fun k => screeref12_In_Num.f k (lb s) b) (((rn s b).1 : Int), lb (rn s b).2.1, (rn s b).2.2) := by
  unfold screeref12_In_Num.f rn
  refine Ev.bind (RTake_ev s hs) ?_
  cases e : tk s with
  | none => exact Ev.neg (by simp [tres]) (Ev.val rfl)
  | some q =>
    obtain ⟨n, r⟩ := q
    refine Ev.pos (by simp [tres]) ?_
    cases b with
    | true => exact Ev.pos rfl (Ev.val rfl)
    | false => exact Ev.neg (by simp) (Ev.val rfl)
theorem rn_true (s : List UInt8) : rn s true = (0, s, true) := by
  unfold rn
  cases e : tk s with
  | none => rfl
  | some q => rfl
theorem rn_none {s : List UInt8} (h : tk s = none) (b : Bool) : rn s b = (0, s, true) := by unfold rn; rw [h]
theorem rn_some {s r : List UInt8} {n : Nat} (h : tk s = some (n, r)) : rn s false = (n, r, false) := by unfold rn; rw [h]; rfl
theorem nums2_eq (t : List UInt8) : nums 2 t = match tk t with
    | none => none
    | some (a, r) => match tk r with
      | none => none
      | some (b, r2) => some ([a, b], r2) := by
  rw [nums]
  cases e : tk t with
  | none => rfl
  | some q =>
    obtain ⟨a, r⟩ := q
    simp only
    rw [nums]
    cases e2 : tk r with
    | none => rfl
    | some q2 => rfl
theorem tk_len {s r : List UInt8} {n : Nat} (h : tk s = some (n, r)) : r.length ≤ s.length ∧ n < 18446744073709551616 := by
  have := (tk_iff _ _ _).1 h
  exact ⟨by rw [this.2]; simp, this.1⟩
theorem RUnlock_ev (s : List UInt8) (hs : s.length ≤ 140737488351232) : Ev (fun k => screeref15_Unlock.f k (lb s)) (ulk s) := by
  unfold screeref15_Unlock.f
  cases s with
  | nil => exact Ev.pos rfl (Ev.val rfl)
  | cons c t =>
    have ht : t.length + 1 ≤ 140737488351232 := by simpa using hs
    have hc := u8_lt c
    refine Ev.neg (by rw [lb_size]; simp) ?_
    rw [ex_tail, bt_head]
    refine Ev.bind (RNum_ev t false (by omega)) ?_
    rw [ulk, nums2_eq]
    cases e : tk t with
    | none =>
      rw [rn_none e]
      refine Ev.bind (RNum_ev t true (by omega)) ?_
      rw [rn_true]
      refine Ev.bind (RLock_ev t 0 c.toNat 0 (by omega) ⟨by omega, by omega⟩ ⟨by omega, by omega⟩) ?_
      exact Ev.pos (Or.inl rfl) (Ev.val rfl)
    | some q =>
      obtain ⟨a, r⟩ := q
      have h1 := tk_len e
      rw [rn_some e]
      refine Ev.bind (RNum_ev r false (by omega)) ?_
      cases e2 : tk r with
      | none =>
        rw [rn_none e2]
        refine Ev.bind (RLock_ev r a c.toNat 0 (by omega) ⟨by omega, by omega⟩ ⟨by omega, by omega⟩) ?_
        simp only [e2]
        exact Ev.pos (by simp) (Ev.val rfl)
      | some q2 =>
        obtain ⟨b, r2⟩ := q2
        have h2 := tk_len e2
        rw [rn_some e2]
        simp only [e2]
        refine Ev.bind (RLock_ev r2 a c.toNat b (by omega) ⟨by omega, by omega⟩ ⟨by omega, by omega⟩) ?_
        by_cases h3 : okL r2 a c.toNat b
        · rw [lkr_yes h3]
          by_cases h4 : lkB r2 a c.toNat b = c :: t
          · refine Ev.eq ?_ (if_pos ⟨h3, h4⟩).symm
            exact Ev.neg (by simp [lb_toList, h4]) (Ev.val rfl)
          · refine Ev.eq ?_ (if_neg (fun e => h4 e.2)).symm
            exact Ev.pos (by simp [lb_toList, h4]) (Ev.val rfl)
        · rw [lkr_no h3]
          refine Ev.eq ?_ (if_neg (fun e => h3 e.1)).symm
          exact Ev.pos (by simp) (Ev.val rfl)
theorem nums1_eq (t : List UInt8) : nums 1 t = match tk t with
    | none => none
    | some (a, r) => some ([a], r) := by
  rw [nums]
  cases e : tk t with
  | none => rfl
  | some q => rfl
theorem RUnwrite_ev (s : List UInt8) (hs : s.length ≤ 140737488351232) : Ev (fun k => screeref15_Unwrite.f k (lb s)) (uwr s) := by
  unfold screeref15_Unwrite.f
  cases s with
  | nil => exact Ev.pos rfl (Ev.val rfl)
  | cons c t =>
    have ht : t.length + 1 ≤ 140737488351232 := by simpa using hs
    have hc := u8_lt c
    refine Ev.neg (by rw [lb_size]; simp) ?_
    rw [ex_tail, bt_head]
    refine Ev.bind (RNum_ev t false (by omega)) ?_
    rw [uwr, nums1_eq]
    cases e : tk t with
    | none =>
      rw [rn_none e]
      refine Ev.bind (RWrite_ev 0 c.toNat) ?_
      exact Ev.pos (Or.inl rfl) (Ev.val rfl)
    | some q =>
      obtain ⟨a, r⟩ := q
      rw [rn_some e]
      simp only [e]
      refine Ev.bind (RWrite_ev a c.toNat) ?_
      by_cases h3 : okW a c.toNat
      · rw [wrr_yes h3]
        by_cases h4 : wrB a c.toNat = c :: t
        · refine Ev.eq ?_ (if_pos ⟨h3, h4⟩).symm
          exact Ev.neg (by simp [lb_toList, h4]) (Ev.val rfl)
        · refine Ev.eq ?_ (if_neg (fun e => h4 e.2)).symm
          exact Ev.pos (by simp [lb_toList, h4]) (Ev.val rfl)
      · rw [wrr_no h3]
        refine Ev.eq ?_ (if_neg (fun e => h3 e.1)).symm
        exact Ev.pos (by simp) (Ev.val rfl)
end Go.Proofs.Yteijlcnjnooiiaa.ColS
