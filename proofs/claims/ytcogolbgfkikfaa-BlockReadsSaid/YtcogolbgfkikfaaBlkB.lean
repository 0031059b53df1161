/- block: entries too many, or too large; the law of turning back. -/
import Derived.Test.YtcogolbgfkikfaaPx0
import Derived.Test.YtcogolbgfkikfaaPx9
import Derived.Test.YtcogolbgfkikfaaBlkM
set_option linter.unusedVariables false
set_option linter.unusedSimpArgs false
namespace Go.Proofs.Ytcogolbgfkikfaa.BlkS
open Go.RowKit Go.Proofs.Ytcogolbgfkikfaa.P Go.Proofs.Ytcogolbgfkikfaa.Th Go.Proofs.Ytcogolbgfkikfaa.NumS Go.Proofs.YtcogolbgfkikfaaW.PrintWords Go.Proofs.YtcogolbgfkikfaaW.PrintLast Go.Proofs.YtcogolbgfkikfaaW.PrintMore

def bigE (x : ES) : Bool := decide (300 < (bl x.f0).length) || decide (300 < (bl x.f3).length)
def lrg (l : List ES) : Bool := decide (60 < l.length) || l.any bigE
theorem large_l0 (l : List ES) (hl : l.length ≤ 60) : ∀ (n i : Nat), i + n = l.length → Ev (fun k => screelaw09_large.l0 k l (l.length : Int) (i : Int)) ((l.drop i).any bigE) := by
  intro n
  induction n with
  | zero =>
    intro i hi
    refine Ev.step (fun k => by rw [screelaw09_large.l0]) ?_
    refine Ev.neg (by omega) (Ev.val ?_)
    rw [List.drop_eq_nil_of_le (by omega)]; rfl
  | succ n ih =>
    intro i hi
    have h1 : i < l.length := by omega
    refine Ev.step (fun k => by rw [screelaw09_large.l0]) ?_
    refine Ev.pos (by omega) (Ev.pos (by omega) (Ev.pos (by omega) ?_))
    rw [rdE h1, List.drop_eq_getElem_cons h1, List.any_cons, size_bl, size_bl]
    unfold bigE
    by_cases h2 : 300 < (bl l[i].f0).length
    · rw [decide_eq_true h2]
      exact Ev.pos (by omega) (Ev.val (by simp))
    · rw [decide_eq_false h2]
      refine Ev.neg (by omega) ?_
      by_cases h3 : 300 < (bl l[i].f3).length
      · rw [decide_eq_true h3]
        exact Ev.pos (by omega) (Ev.val (by simp))
      · rw [decide_eq_false h3]
        refine Ev.neg (by omega) ?_
        rw [w64 _ (by omega) (by omega)]
        have := ih (i + 1) (by omega)
        unfold bigE at this
        simpa using this
theorem large_ev (l : List ES) : Ev (fun k => screelaw09_large.f k l) (lrg l) := by
  unfold screelaw09_large.f lrg
  by_cases h : 60 < l.length
  · rw [decide_eq_true h]
    exact Ev.pos (by omega) (Ev.val rfl)
  · rw [decide_eq_false h]
    refine Ev.neg (by omega) ?_
    have := large_l0 l (by omega) l.length 0 (by omega)
    simpa using this
theorem lrg_no {l : List ES} (h : lrg l = false) : l.length ≤ 60 ∧ ∀ x ∈ l, (bl x.f0).length ≤ 300 ∧ (bl x.f3).length ≤ 300 := by
  unfold lrg at h
  rw [Bool.or_eq_false_iff] at h
  obtain ⟨h1, h2⟩ := h
  refine ⟨by have := of_decide_eq_false h1; omega, fun x hx => ?_⟩
  have h3 := List.any_eq_false.1 h2 x hx
  unfold bigE at h3
  simp at h3
  exact h3
theorem encr_cases (l : List ES) : (rowB l = true ∧ encr l = (lb (encB l), 0)) ∨ (rowB l = false ∧ encr l = (lb [], 2)) := by
  unfold encr
  by_cases h : rowB l = true
  · exact Or.inl ⟨h, by rw [if_pos h]⟩
  · exact Or.inr ⟨by simpa using h, by rw [if_neg h]⟩
end Go.Proofs.Ytcogolbgfkikfaa.BlkS
