/- col: the laws ColWrites. -/
import Derived.Test.YteijlcnjnooiiaaPx0
import Derived.Test.YteijlcnjnooiiaaPx13
import Derived.Test.YteijlcnjnooiiaaColQ
set_option linter.unusedVariables false
set_option linter.unusedSimpArgs false
namespace Go.Proofs.Yteijlcnjnooiiaa.ColS
open Go.RowKit Go.Proofs.Yteijlcnjnooiiaa.P Go.Proofs.Yteijlcnjnooiiaa.Th Go.Proofs.Yteijlcnjnooiiaa.NumS Go.Proofs.Yteijlcnjnooiiaa.KeyT Go.Proofs.YteijlcnjnooiiaaW.PrintWords Go.Proofs.YteijlcnjnooiiaaW.PrintLast Go.Proofs.YteijlcnjnooiiaaW.PrintMore

theorem ColWrites : ∀ (a0_0 : ByteArray) (a0_1 : Int) (a0_2 : Int) (a0_3 : Int) (a1_0 : Int) (a1_1 : Int) (l2 : List (S51)), (a0_0.size ≤ 140737488351232 ∧ (Lit.int .u64 a0_1).wf = true ∧ (Lit.int .i64 a0_2).wf = true ∧ (Lit.int .u64 a0_3).wf = true) → ((Lit.int .u64 a1_0).wf = true ∧ (Lit.int .i64 a1_1).wf = true) → (((∀ x ∈ l2, ((Lit.int .u64 x.f0).wf = true ∧ (Lit.int .u64 x.f1).wf = true ∧ (Lit.int .u64 x.f2).wf = true)) ∧ l2.length * 24 ≤ 140737488351232)) → ∃ k, screelaw15_ColWrites.f k a0_0 a0_1 a0_2 a0_3 a1_0 a1_1 l2 = some true := by
  intro p st kd at_ wst wkd L ⟨hp, hst, _, hat⟩ ⟨hwst, _⟩ ⟨hw, _⟩
  obtain ⟨u, rfl⟩ := ex_lb p
  rw [lb_size] at hp
  refine Ev.rounds ?_
  unfold screelaw15_ColWrites.f
  refine Ev.bind awake_ev (Ev.pos rfl ?_)
  have big : Ev (fun k => screelaw15_ColWrites.j0 k L true (lb u) st kd at_ wst wkd) true := by
    refine Ev.step (fun k => by rw [screelaw15_ColWrites.j0]) ?_
    exact Ev.pos rfl (Ev.val rfl)
  by_cases h1 : (((lb u).size : Nat) : Int) > 1024
  · exact Ev.pos h1 big
  refine Ev.neg h1 ?_
  by_cases h2 : (L.length : Int) > 40
  · rw [decide_eq_true h2]; exact big
  rw [decide_eq_false h2]
  have hl : L.length ≤ 40 := by omega
  refine Ev.step (fun k => by rw [screelaw15_ColWrites.j0]) ?_
  refine Ev.neg (by simp) (Ev.bind (Lock_ev u st kd at_ hp (wf_u64 hst) (wf_u64 hat)) (Ev.bind (RLock_ev u st kd at_ hp (wf_u64 hst) (wf_u64 hat)) (Ev.pos rfl ?_)))
  rw [bne_self_eq_false]
  refine Ev.step (fun k => by rw [screelaw15_ColWrites.j1]) ?_
  refine Ev.neg (by simp) (Ev.bind (Write_ev wst wkd) (Ev.bind (RWrite_ev wst wkd) (Ev.pos rfl ?_)))
  rw [bne_self_eq_false]
  refine Ev.step (fun k => by rw [screelaw15_ColWrites.j2]) ?_
  refine Ev.neg (by simp) (Ev.bind (Leases_ev L (wfs hw) hl) (Ev.bind (own_ev L hl) (Ev.bind (RLeases_ev L (wfs hw) hl) (Ev.pos rfl (Ev.val ?_)))))
  simp
end Go.Proofs.Yteijlcnjnooiiaa.ColS
