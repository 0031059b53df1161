/- block: the law of turning back. -/
import Derived.Test.YtcogolbgfkikfaaPx0
import Derived.Test.YtcogolbgfkikfaaPx13
import Derived.Test.YtcogolbgfkikfaaBlkB
set_option linter.unusedVariables false
set_option linter.unusedSimpArgs false
namespace Go.Proofs.Ytcogolbgfkikfaa.BlkS
open Go.RowKit Go.Proofs.Ytcogolbgfkikfaa.P Go.Proofs.Ytcogolbgfkikfaa.Th Go.Proofs.Ytcogolbgfkikfaa.NumS Go.Proofs.YtcogolbgfkikfaaW.PrintWords Go.Proofs.YtcogolbgfkikfaaW.PrintLast Go.Proofs.YtcogolbgfkikfaaW.PrintMore

theorem BlockBack : ∀ (l0 : List ES) (a1 : ByteArray), (((∀ x ∈ l0, (x.f0.size ≤ 140737488351232 ∧ (Lit.int .u64 x.f1).wf = true ∧ True ∧ x.f3.size ≤ 140737488351232)) ∧ l0.length * 48 ≤ 140737488351232)) → (a1.size ≤ 140737488351232) → ∃ k, screelaw09_BlockBack.f k l0 a1 = some true := by
  intro l s _ _
  obtain ⟨t, rfl⟩ := ex_lb s
  refine Ev.rounds ?_
  unfold screelaw09_BlockBack.f
  simp only [lb_size]
  refine Ev.bind awake_ev (Ev.pos rfl (Ev.bind (large_ev l) ?_))
  have big : Ev (fun k => screelaw09_BlockBack.j0 k l (lb t) true) true := by
    refine Ev.step (fun k => by rw [screelaw09_BlockBack.j0]) ?_
    exact Ev.pos rfl (Ev.val rfl)
  cases hg : lrg l with
  | true => exact Ev.pos rfl big
  | false =>
    refine Ev.neg (by simp) ?_
    by_cases h1 : (t.length : Int) > 8192
    · rw [decide_eq_true h1]; exact big
    rw [decide_eq_false h1]
    have e1 : Ev (fun k => screelaw09_BlockBack.j1 k (lb t)) true := by
      refine Ev.step (fun k => by rw [screelaw09_BlockBack.j1]) ?_
      obtain ⟨m, e⟩ : ∃ m, decr t = m := ⟨_, rfl⟩
      obtain ⟨m, c⟩ := m
      have hd := Decode_ev t (by omega)
      rw [e] at hd
      refine Ev.bind hd ?_
      rcases decr_ok e with ⟨rfl, hr, he⟩ | ⟨rfl, rfl⟩
      · have hm := rowB_len hr
        have e2 := Encode_ev m (by omega)
        rcases encr_cases m with ⟨_, e3⟩ | ⟨h3, _⟩
        · rw [e3] at e2
          exact Ev.pos rfl (Ev.bind e2 (Ev.pos rfl (Ev.val (by simp only; rw [he]; simp))))
        · rw [hr] at h3; simp at h3
      · exact Ev.neg (by simp) (Ev.val (by simp))
    refine Ev.step (fun k => by rw [screelaw09_BlockBack.j0]) ?_
    have hl := (lrg_no hg).1
    have e2 := Encode_ev l (by omega)
    rcases encr_cases l with ⟨hr, e3⟩ | ⟨h3, e3⟩
    · rw [e3] at e2
      have hlen := encB_len hr
      have e4 := Decode_ev (encB l) (by omega)
      rw [decr_enc hr] at e4
      have e5 := Count_ev (encB l) (by omega)
      rw [cnt_enc (rowB_len hr)] at e5
      exact Ev.neg (by simp) (Ev.bind e2 (Ev.pos rfl (Ev.bind e4 (Ev.pos rfl (Ev.bind (Same_self l (by omega)) (Ev.pos rfl (Ev.bind e5 (Ev.pos rfl e1))))))))
    · rw [e3] at e2
      exact Ev.neg (by simp) (Ev.bind e2 (Ev.neg (by simp) (Ev.pos (lb_toList []) e1)))
end Go.Proofs.Ytcogolbgfkikfaa.BlkS
