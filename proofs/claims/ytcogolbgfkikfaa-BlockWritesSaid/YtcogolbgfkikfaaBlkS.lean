/- block: the law of a row's bytes. -/
import Derived.Test.YtcogolbgfkikfaaPx0
import Derived.Test.YtcogolbgfkikfaaPx11
import Derived.Test.YtcogolbgfkikfaaBlkR
set_option linter.unusedVariables false
set_option linter.unusedSimpArgs false
namespace Go.Proofs.Ytcogolbgfkikfaa.BlkS
open Go.RowKit Go.Proofs.Ytcogolbgfkikfaa.P Go.Proofs.Ytcogolbgfkikfaa.Th Go.Proofs.Ytcogolbgfkikfaa.NumS Go.Proofs.YtcogolbgfkikfaaW.PrintWords Go.Proofs.YtcogolbgfkikfaaW.PrintLast Go.Proofs.YtcogolbgfkikfaaW.PrintMore

theorem BlockWrites : ∀ (l0 : List ES) (a1 : ByteArray) (a2 : ByteArray), (((∀ x ∈ l0, (x.f0.size ≤ 140737488351232 ∧ (Lit.int .u64 x.f1).wf = true ∧ True ∧ x.f3.size ≤ 140737488351232)) ∧ l0.length * 48 ≤ 140737488351232)) → (a1.size ≤ 140737488351232) → (a2.size ≤ 140737488351232) → ∃ k, screelaw09_BlockWrites.f k l0 a1 a2 = some true := by
  intro l a b _ _ _
  obtain ⟨a, rfl⟩ := ex_lb a
  obtain ⟨b, rfl⟩ := ex_lb b
  refine Ev.rounds ?_
  unfold screelaw09_BlockWrites.f
  simp only [lb_size]
  refine Ev.bind awake_ev (Ev.pos rfl (Ev.bind (large_ev l) ?_))
  have big : Ev (fun k => screelaw09_BlockWrites.j0 k l (lb a) (lb b) true) true := by
    refine Ev.step (fun k => by rw [screelaw09_BlockWrites.j0]) ?_
    exact Ev.pos rfl (Ev.val rfl)
  cases hg : lrg l with
  | true => exact Ev.pos rfl big
  | false =>
    refine Ev.neg (by simp) ?_
    by_cases h1 : (a.length : Int) > 300
    · exact Ev.pos h1 big
    refine Ev.neg h1 ?_
    by_cases h2 : (b.length : Int) > 300
    · rw [decide_eq_true h2]; exact big
    rw [decide_eq_false h2]
    have hl := (lrg_no hg).1
    refine Ev.step (fun k => by rw [screelaw09_BlockWrites.j0]) ?_
    refine Ev.neg (by simp) (Ev.just (a := []) rfl (Ev.pos (by simp; omega) (Ev.just (a := l) rfl ?_)))
    refine Ev.bind (Encode_ev l (by omega)) (Ev.bind (REncode_ev l (by omega)) (Ev.pos rfl (Ev.pos rfl ?_)))
    exact Ev.bind (Shared_ev a b (by omega)) (Ev.bind (RShared_ev a b (by omega)) (Ev.pos rfl (Ev.bind (Same_self l (by omega)) (Ev.val rfl))))
end Go.Proofs.Ytcogolbgfkikfaa.BlkS
