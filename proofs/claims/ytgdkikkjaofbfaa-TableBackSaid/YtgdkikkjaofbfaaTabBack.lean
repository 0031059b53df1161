/- table: the law that what is built is opened, and what is opened is built of its row. -/
import Derived.Test.YtgdkikkjaofbfaaTabM
import Derived.Test.YtgdkikkjaofbfaaPx
set_option linter.unusedVariables false
set_option linter.unusedSimpArgs false
namespace Go.Proofs.Ytgdkikkjaofbfaa.TabS
open Go.RowKit Go.Proofs.Ytgdkikkjaofbfaa.P Go.Proofs.Ytgdkikkjaofbfaa.Th Go.Proofs.Ytgdkikkjaofbfaa.NumS Go.Proofs.Ytgdkikkjaofbfaa.BlkS Go.Proofs.Ytgdkikkjaofbfaa.BloomS Go.Proofs.YtgdkikkjaofbfaaW.PrintWords Go.Proofs.YtgdkikkjaofbfaaW.PrintLast Go.Proofs.YtgdkikkjaofbfaaW.PrintMore

theorem back_tl (s : List UInt8) (hs : s.length ≤ 10000000) : Ev (fun k => screelaw11_TableBack.tl k (lb s)) true := by
  unfold screelaw11_TableBack.tl
  rcases Open_any s hs with h | ⟨l, ht, rfl, h⟩
  · refine Ev.bind h ?_
    simp only
    exact Ev.pos trivial (Ev.val rfl)
  · have hB := Build_ev l
    unfold bldr at hB
    rw [if_pos ht] at hB
    refine Ev.bind h ?_
    simp only
    exact Ev.pos trivial (Ev.bind (All_ev (tab_of ht) (fltr l) (l.length : Int)) (Ev.bind hB (Ev.pos ⟨rfl, rfl⟩ (Ev.val rfl))))
theorem TableBack : ∀ (l0 : List ES) (a1 : ByteArray), (((∀ x ∈ l0, (x.f0.size ≤ 140737488351232 ∧ (Lit.int .u64 x.f1).wf = true ∧ True ∧ x.f3.size ≤ 140737488351232)) ∧ l0.length * 48 ≤ 140737488351232)) → (a1.size ≤ 140737488351232) → ∃ k, screelaw11_TableBack.f k l0 a1 = some true := by
  intro l a1 hl ha
  have hl2 : l.length ≤ 3000000000000 := by have := hl.2; omega
  obtain ⟨s, rfl⟩ := ex_lb a1
  refine Ev.rounds ?_
  unfold screelaw11_TableBack.f
  refine Ev.bind awake_ev (Ev.pos rfl (Ev.bind (large_ev l hl2) ?_))
  by_cases hx : lrg l = true ∨ decide (16384 < ((lb s).size : Int)) = true
  · exact Ev.pos hx (Ev.val rfl)
  refine Ev.neg hx ?_
  have hs : s.length ≤ 10000000 := by
    rcases Nat.lt_or_ge 16384 s.length with h | h
    · exact absurd (Or.inr (decide_eq_true (by rw [lb_size]; omega))) hx
    · omega
  have hT := back_tl s hs
  have hB := Build_ev l
  unfold bldr at hB
  by_cases ht : tabR l = true
  · have T := tab_of ht
    rw [if_pos ht] at hB
    refine Ev.bind hB (Ev.pos rfl ?_)
    unfold screelaw11_TableBack.hd
    refine Ev.bind (Open_build ht) ?_
    simp only
    refine Ev.pos trivial (Ev.bind (All_ev T (fltr l) (l.length : Int)) (Ev.bind (Same_big l hl2) (Ev.pos rfl ?_)))
    exact Ev.just (a := ((l.length : Int), lb (bldB l), fltr l, (l.length : Int))) rfl (Ev.pos rfl hT)
  · rw [if_neg ht] at hB
    exact Ev.bind hB (Ev.neg (by decide) (Ev.pos (lb_toList []) hT))
end Go.Proofs.Ytgdkikkjaofbfaa.TabS
