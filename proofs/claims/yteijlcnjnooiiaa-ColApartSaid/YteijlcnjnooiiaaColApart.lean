/- col: the laws ColApart. -/
import Derived.Test.YteijlcnjnooiiaaPx0
import Derived.Test.YteijlcnjnooiiaaPx18
import Derived.Test.YteijlcnjnooiiaaCol5
set_option linter.unusedVariables false
set_option linter.unusedSimpArgs false
namespace Go.Proofs.Yteijlcnjnooiiaa.ColS
open Go.RowKit Go.Proofs.Yteijlcnjnooiiaa.P Go.Proofs.Yteijlcnjnooiiaa.Th Go.Proofs.Yteijlcnjnooiiaa.NumS Go.Proofs.Yteijlcnjnooiiaa.KeyT Go.Proofs.YteijlcnjnooiiaaW.PrintWords Go.Proofs.YteijlcnjnooiiaaW.PrintLast Go.Proofs.YteijlcnjnooiiaaW.PrintMore

theorem ColApart : ∀ (a0_0 : ByteArray) (a0_1 : Int) (a0_2 : Int) (a0_3 : Int) (a1_0 : ByteArray) (a1_1 : Int) (a1_2 : Int) (a1_3 : Int) (a2_0 : Int) (a2_1 : Int) (a3_0 : Int) (a3_1 : Int), (a0_0.size ≤ 140737488351232 ∧ (Lit.int .u64 a0_1).wf = true ∧ (Lit.int .i64 a0_2).wf = true ∧ (Lit.int .u64 a0_3).wf = true) → (a1_0.size ≤ 140737488351232 ∧ (Lit.int .u64 a1_1).wf = true ∧ (Lit.int .i64 a1_2).wf = true ∧ (Lit.int .u64 a1_3).wf = true) → ((Lit.int .u64 a2_0).wf = true ∧ (Lit.int .i64 a2_1).wf = true) → ((Lit.int .u64 a3_0).wf = true ∧ (Lit.int .i64 a3_1).wf = true) → ∃ k, screelaw15_ColApart.f k a0_0 a0_1 a0_2 a0_3 a1_0 a1_1 a1_2 a1_3 a2_0 a2_1 a3_0 a3_1 = some true := by
  intro p a b c p2 a2 b2 c2 ws wk ws2 wk2 ⟨hp, ha, _, hc⟩ ⟨hp2, ha2, _, hc2⟩ ⟨hws, _⟩ ⟨hws2, _⟩
  obtain ⟨u, rfl⟩ := ex_lb p
  obtain ⟨v, rfl⟩ := ex_lb p2
  rw [lb_size] at hp hp2
  refine Ev.rounds ?_
  unfold screelaw15_ColApart.f
  refine Ev.bind awake_ev (Ev.pos rfl ?_)
  have big : Ev (fun k => screelaw15_ColApart.j0 k true (lb u) a b c (lb v) a2 b2 c2 ws wk ws2 wk2) true := by
    refine Ev.step (fun k => by rw [screelaw15_ColApart.j0]) ?_
    exact Ev.pos rfl (Ev.val rfl)
  have last_ : Ev (fun k => screelaw15_ColApart.j1 k false ws wk ws2 wk2) true := by
    refine Ev.step (fun k => by rw [screelaw15_ColApart.j1]) ?_
    refine Ev.neg (by simp) (Ev.bind (Write_ev ws wk) (Ev.bind (Write_ev ws2 wk2) ?_))
    by_cases g1 : okW ws wk
    · rw [wrr_yes g1]
      refine Ev.pos rfl ?_
      by_cases g2 : okW ws2 wk2
      · rw [wrr_yes g2]
        refine Ev.pos rfl (Ev.val ?_)
        congr 1
        rw [beq_iff_eq, Bool.eq_iff_iff]
        simp only [lb_toList, beq_iff_eq, Bool.and_eq_true]
        constructor
        · intro e; exact wrB_inj g1 g2 e
        · rintro ⟨rfl, rfl⟩; rfl
      · rw [wrr_no g2]
        exact Ev.neg (by simp) (Ev.val rfl)
    · rw [wrr_no g1]
      exact Ev.neg (by simp) (Ev.val rfl)
  by_cases h1 : (((lb u).size : Nat) : Int) > 1024
  · exact Ev.pos h1 big
  refine Ev.neg h1 ?_
  by_cases h2 : (((lb v).size : Nat) : Int) > 1024
  · rw [decide_eq_true h2]; exact big
  rw [decide_eq_false h2]
  refine Ev.step (fun k => by rw [screelaw15_ColApart.j0]) ?_
  refine Ev.neg (by simp) (Ev.bind (Lock_ev u a b c hp (wf_u64 ha) (wf_u64 hc)) (Ev.bind (Lock_ev v a2 b2 c2 hp2 (wf_u64 ha2) (wf_u64 hc2)) ?_))
  by_cases g1 : okL u a b c
  · rw [lkr_yes g1]
    refine Ev.pos rfl ?_
    by_cases g2 : okL v a2 b2 c2
    · rw [lkr_yes g2]
      refine Ev.pos rfl ?_
      have e : (((lb (lkB u a b c), (0 : Int)).1.toList == (lb (lkB v a2 b2 c2), (0 : Int)).1.toList) != ((lb u).toList == (lb v).toList && (a == a2 && (b == b2 && (c == c2))))) = false := by
        rw [bne_eq_false_iff_eq, Bool.eq_iff_iff]
        simp only [lb_toList, beq_iff_eq, Bool.and_eq_true]
        constructor
        · intro e; exact lkB_inj g1 g2 (wf_u64 hc).1 (wf_u64 hc2).1 e
        · rintro ⟨rfl, rfl, rfl, rfl⟩; rfl
      rw [e]
      exact last_
    · rw [lkr_no g2]
      exact Ev.neg (by simp) last_
  · rw [lkr_no g1]
    exact Ev.neg (by simp) last_
end Go.Proofs.Yteijlcnjnooiiaa.ColS
