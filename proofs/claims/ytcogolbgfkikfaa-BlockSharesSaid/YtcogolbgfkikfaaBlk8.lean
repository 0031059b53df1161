/- block: awake. -/
import Derived.Test.YtcogolbgfkikfaaPx0
import Derived.Test.YtcogolbgfkikfaaPx4
import Derived.Test.YtcogolbgfkikfaaPx7
import Derived.Test.YtcogolbgfkikfaaBlk7
set_option linter.unusedVariables false
set_option linter.unusedSimpArgs false
namespace Go.Proofs.Ytcogolbgfkikfaa.BlkS
open Go.RowKit Go.Proofs.Ytcogolbgfkikfaa.P Go.Proofs.Ytcogolbgfkikfaa.Th Go.Proofs.Ytcogolbgfkikfaa.NumS Go.Proofs.YtcogolbgfkikfaaW.PrintWords Go.Proofs.YtcogolbgfkikfaaW.PrintLast Go.Proofs.YtcogolbgfkikfaaW.PrintMore

/-! ### the same -/
def smE (x y : ES) : Bool := !(!(x.f0.toList == y.f0.toList) || (!(x.f1 == y.f1) || (!(x.f2 == y.f2) || !(x.f3.toList == y.f3.toList))))
theorem smE_iff (x y : ES) : smE x y = true ↔ x = y := by
  unfold smE
  rw [toL_bl, toL_bl, toL_bl, toL_bl]
  constructor
  · intro h
    simp at h
    obtain ⟨h1, h2, h3, h4⟩ := h
    have e1 : x.f0 = y.f0 := by rw [← lb_bl x.f0, ← lb_bl y.f0, h1]
    have e2 : x.f3 = y.f3 := by rw [← lb_bl x.f3, ← lb_bl y.f3, h4]
    cases x; cases y; simp_all
  · intro h; subst h; simp
def sms : List ES → List ES → Bool
  | [], [] => true
  | x :: a, y :: b => smE x y && sms a b
  | _, _ => false
theorem sms_iff : ∀ (a b : List ES), sms a b = true ↔ a = b := by
  intro a
  induction a with
  | nil => intro b; cases b <;> simp [sms]
  | cons x a ih =>
    intro b
    cases b with
    | nil => simp [sms]
    | cons y b => rw [sms, Bool.and_eq_true, smE_iff, ih]; simp
theorem Same_l0 (a b : List ES) (ha : a.length ≤ 1000000) (hab : a.length = b.length) : ∀ (n i : Nat), i + n = a.length → Ev (fun k => screeref07_Same.l0 k a b (i : Int)) (sms (a.drop i) (b.drop i)) := by
  intro n
  induction n with
  | zero =>
    intro i hi
    refine Ev.step (fun k => by rw [screeref07_Same.l0]) ?_
    refine Ev.neg (by omega) (Ev.val ?_)
    rw [List.drop_eq_nil_of_le (by omega), List.drop_eq_nil_of_le (by omega)]; rfl
  | succ n ih =>
    intro i hi
    have h1 : i < a.length := by omega
    have h2 : i < b.length := by omega
    refine Ev.step (fun k => by rw [screeref07_Same.l0]) ?_
    refine Ev.pos (by omega) (Ev.pos (by omega) (Ev.pos (by omega) ?_))
    rw [rdE h1, rdE h2, List.drop_eq_getElem_cons h1, List.drop_eq_getElem_cons h2, sms]
    by_cases h : smE a[i] b[i] = true
    · rw [h, Bool.true_and]
      refine Ev.neg (by unfold smE at h; rw [Bool.not_eq_true'] at h; rw [h]; simp) ?_
      rw [w64 _ (by omega) (by omega)]
      exact ih (i + 1) (by omega)
    · have h' : smE a[i] b[i] = false := by simpa using h
      rw [h', Bool.false_and]
      exact Ev.pos (by unfold smE at h'; rw [Bool.not_eq_false'] at h'; exact h') (Ev.val rfl)
theorem Same_ev (a b : List ES) (ha : a.length ≤ 1000000) : Ev (fun k => screeref07_Same.f k a b) (sms a b) := by
  unfold screeref07_Same.f
  by_cases h : a.length = b.length
  · refine Ev.pos (by omega) ?_
    exact Same_l0 a b ha h a.length 0 (by omega)
  · refine Ev.neg (by omega) (Ev.val ?_)
    congr 1; symm
    rw [Bool.eq_false_iff]
    intro e
    rw [sms_iff] at e
    exact h (by rw [e])
theorem Same_self (a : List ES) (ha : a.length ≤ 1000000) : Ev (fun k => screeref07_Same.f k a a) true := Ev.eq (Same_ev a a ha) ((sms_iff a a).2 rfl)

def xa : ES := ⟨⟨#[97, 98]⟩, 3, false, ⟨#[120]⟩⟩
def xb : ES := ⟨⟨#[97, 98, 99]⟩, 2, true, ⟨#[]⟩⟩
theorem row_ab : rowB [xa, xb] = true := by decide
theorem enc_ab : encB [xa, xb] = [0, 2, 97, 98, 3, 0, 1, 120, 2, 1, 99, 2, 1, 0, 0, 0, 0, 0, 0, 0, 0, 0, 0, 0, 0, 0, 0, 0, 0, 2] := by
  simp [encB, bodyB, startsB, entB, shB, comm, xa, xb, bl, sh, short_lt, long, longk]
theorem decr_more (s : List UInt8) : (s ++ [63]).length ≥ 8 → cntB (s ++ [63]) = 0 ∨ cntB (s ++ [63]) ≤ 32 := fun _ => Or.inr (cntB_le _)
theorem seek_a : Ev (fun k => block_Seek.f k (lb (encB [xa, xb])) (lb [97, 98]) 2) (xb.f0, xb.f1, xb.f2, xb.f3, true, 0) := by
  obtain ⟨c, h1, h2, h3⟩ := Seek_ev row_ab [97, 98] 2
  have hc : c = 0 := by simp at h1; omega
  subst hc
  exact Ev.eq h3 (by decide)
theorem seek_b : Ev (fun k => block_Seek.f k (lb (encB [xa, xb])) (lb [98]) 2) (⟨#[]⟩, 0, false, ⟨#[]⟩, false, 0) := by
  obtain ⟨c, h1, h2, h3⟩ := Seek_ev row_ab [98] 2
  have hc : c = 0 := by simp at h1; omega
  subst hc
  exact Ev.eq h3 (by decide)
theorem dec_q : decr ([0, 2, 97, 98, 3, 0, 1, 120, 2, 1, 99, 2, 1, 0, 0, 0, 0, 0, 0, 0, 0, 0, 0, 0, 0, 0, 0, 0, 0, 2, 63]) = ([], 2) := by
  have : cntB ([0, 2, 97, 98, 3, 0, 1, 120, 2, 1, 99, 2, 1, 0, 0, 0, 0, 0, 0, 0, 0, 0, 0, 0, 0, 0, 0, 0, 0, 2, 63]) = 0 := by decide
  unfold decr
  rw [if_pos this]
end Go.Proofs.Ytcogolbgfkikfaa.BlkS
