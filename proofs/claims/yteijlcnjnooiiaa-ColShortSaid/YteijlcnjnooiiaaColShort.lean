/- col: the laws ColShort. -/
import Derived.Test.YteijlcnjnooiiaaPx0
import Derived.Test.YteijlcnjnooiiaaPx20
import Derived.Test.YteijlcnjnooiiaaCol5
set_option linter.unusedVariables false
set_option linter.unusedSimpArgs false
namespace Go.Proofs.Yteijlcnjnooiiaa.ColS
open Go.RowKit Go.Proofs.Yteijlcnjnooiiaa.P Go.Proofs.Yteijlcnjnooiiaa.Th Go.Proofs.Yteijlcnjnooiiaa.NumS Go.Proofs.Yteijlcnjnooiiaa.KeyT Go.Proofs.YteijlcnjnooiiaaW.PrintWords Go.Proofs.YteijlcnjnooiiaaW.PrintLast Go.Proofs.YteijlcnjnooiiaaW.PrintMore

theorem ColShort : ∀ (a0_0 : ByteArray) (a0_1 : Int) (a0_2 : Int) (a0_3 : Int) (a1_0 : Int) (a1_1 : Int) (l2 : List (S51)), (a0_0.size ≤ 140737488351232 ∧ (Lit.int .u64 a0_1).wf = true ∧ (Lit.int .i64 a0_2).wf = true ∧ (Lit.int .u64 a0_3).wf = true) → ((Lit.int .u64 a1_0).wf = true ∧ (Lit.int .i64 a1_1).wf = true) → (((∀ x ∈ l2, ((Lit.int .u64 x.f0).wf = true ∧ (Lit.int .u64 x.f1).wf = true ∧ (Lit.int .u64 x.f2).wf = true)) ∧ l2.length * 24 ≤ 140737488351232)) → ∃ k, screelaw15_ColShort.f k a0_0 a0_1 a0_2 a0_3 a1_0 a1_1 l2 = some true := by
  intro p st kd at_ wst wkd L ⟨hp, hst, _, hat⟩ ⟨hwst, _⟩ ⟨hw, _⟩
  obtain ⟨u, rfl⟩ := ex_lb p
  rw [lb_size] at hp
  refine Ev.rounds ?_
  unfold screelaw15_ColShort.f
  refine Ev.bind awake_ev (Ev.pos rfl ?_)
  have big : Ev (fun k => screelaw15_ColShort.j0 k L true (lb u) st kd at_ wst wkd) true := by
    refine Ev.step (fun k => by rw [screelaw15_ColShort.j0]) ?_
    exact Ev.pos rfl (Ev.val rfl)
  by_cases h1 : (((lb u).size : Nat) : Int) > 1024
  · exact Ev.pos h1 big
  refine Ev.neg h1 ?_
  by_cases h2 : (L.length : Int) > 40
  · rw [decide_eq_true h2]; exact big
  rw [decide_eq_false h2]
  have hl : L.length ≤ 40 := by omega
  refine Ev.step (fun k => by rw [screelaw15_ColShort.j0]) ?_
  refine Ev.neg (by simp) (Ev.bind (Lock_ev u st kd at_ hp (wf_u64 hst) (wf_u64 hat)) (Ev.bind (Write_ev wst wkd) (Ev.bind (Leases_ev L (wfs hw) hl) ?_)))
  have k1 : okL u st kd at_ → u.length + 3 ≤ (lkB u st kd at_).length ∧ (lkB u st kd at_).length ≤ u.length + 13 ∧ u.length ≤ 24 := fun g => ⟨(lkB_len g (wf_u64 hat).1).1, (lkB_len g (wf_u64 hat).1).2, (of_decide_eq_true g.1).2⟩
  have k2 : okW wst wkd → 2 ≤ (wrB wst wkd).length ∧ (wrB wst wkd).length ≤ 7 := wrB_len
  have k3 : okLs L → 3 * L.length ≤ (lsB L).length ∧ (lsB L).length ≤ 18 * L.length ∧ L.length ≤ 5 := fun g => ⟨(lsB_len g.2).1, (lsB_len g.2).2, g.1⟩
  have z0 : (lb ([] : List UInt8)).size = 0 := rfl
  have w1 : wrap64 (((lb u).size : Int) + 3) = (u.length : Int) + 3 := by rw [lb_size]; exact w64 _ (by omega) (by omega)
  have w2 : wrap64 (((lb u).size : Int) + 13) = (u.length : Int) + 13 := by rw [lb_size]; exact w64 _ (by omega) (by omega)
  have w3 : wrap64 (3 * (L.length : Int)) = 3 * (L.length : Int) := w64 _ (by omega) (by omega)
  have w4 : wrap64 (18 * (L.length : Int)) = 18 * (L.length : Int) := w64 _ (by omega) (by omega)
  rw [w1, w2, w3, w4]
  have tail : ∀ (a b c : ByteArray), a.size ≤ 100 → b.size ≤ 100 → c.size ≤ 100 → Ev (fun k => if (a.size : Int) ≤ 100 then (if (b.size : Int) ≤ 100 then (some (decide ((c.size : Int) ≤ 100))) else (none)) else (none)) true := by
    intro a b c ha hb hc
    exact Ev.pos (by omega) (Ev.pos (by omega) (Ev.val (by rw [decide_eq_true (by omega)])))
  have sL : (lkr u st kd at_).1.size ≤ 100 := by
    by_cases g : okL u st kd at_
    · rw [lkr_yes g]; have := k1 g; show (lb _).size ≤ _; rw [lb_size]; omega
    · rw [lkr_no g]; show (lb _).size ≤ _; rw [z0]; omega
  have sW : (wrr wst wkd).1.size ≤ 100 := by
    by_cases g : okW wst wkd
    · rw [wrr_yes g]; have := k2 g; show (lb _).size ≤ _; rw [lb_size]; omega
    · rw [wrr_no g]; show (lb _).size ≤ _; rw [z0]; omega
  have sS : (lsr L).1.size ≤ 100 := by
    by_cases g : okLs L
    · rw [lsr_yes g]; have := k3 g; show (lb _).size ≤ _; rw [lb_size]; omega
    · rw [lsr_no g]; show (lb _).size ≤ _; rw [z0]; omega
  have T := tail _ _ _ sL sW sS
  have C3 : Ev (fun k => if (lsr L).2 = 0 then (if ((lsr L).1.size : Int) < 3 * (L.length : Int) then (none) else (if ((lsr L).1.size : Int) > 18 * (L.length : Int) then (none) else (if ((lkr u st kd at_).1.size : Int) ≤ 100 then (if ((wrr wst wkd).1.size : Int) ≤ 100 then (some (decide (((lsr L).1.size : Int) ≤ 100))) else (none)) else (none)))) else (if ((lkr u st kd at_).1.size : Int) ≤ 100 then (if ((wrr wst wkd).1.size : Int) ≤ 100 then (some (decide (((lsr L).1.size : Int) ≤ 100))) else (none)) else (none))) true := by
    by_cases g : okLs L
    · have := k3 g
      rw [lsr_yes g] at T ⊢
      refine Ev.pos rfl (Ev.neg ?_ (Ev.neg ?_ T)) <;> (show ¬ _; simp only [lb_size]; omega)
    · rw [lsr_no g] at T ⊢
      exact Ev.neg (by simp) T
  have C2 : Ev (fun k => if (wrr wst wkd).2 = 0 then (if ((wrr wst wkd).1.size : Int) < 2 then (none) else (if ((wrr wst wkd).1.size : Int) > 7 then (none) else (if (lsr L).2 = 0 then (if ((lsr L).1.size : Int) < 3 * (L.length : Int) then (none) else (if ((lsr L).1.size : Int) > 18 * (L.length : Int) then (none) else (if ((lkr u st kd at_).1.size : Int) ≤ 100 then (if ((wrr wst wkd).1.size : Int) ≤ 100 then (some (decide (((lsr L).1.size : Int) ≤ 100))) else (none)) else (none)))) else (if ((lkr u st kd at_).1.size : Int) ≤ 100 then (if ((wrr wst wkd).1.size : Int) ≤ 100 then (some (decide (((lsr L).1.size : Int) ≤ 100))) else (none)) else (none))))) else (if (lsr L).2 = 0 then (if ((lsr L).1.size : Int) < 3 * (L.length : Int) then (none) else (if ((lsr L).1.size : Int) > 18 * (L.length : Int) then (none) else (if ((lkr u st kd at_).1.size : Int) ≤ 100 then (if ((wrr wst wkd).1.size : Int) ≤ 100 then (some (decide (((lsr L).1.size : Int) ≤ 100))) else (none)) else (none)))) else (if ((lkr u st kd at_).1.size : Int) ≤ 100 then (if ((wrr wst wkd).1.size : Int) ≤ 100 then (some (decide (((lsr L).1.size : Int) ≤ 100))) else (none)) else (none)))) true := by
    by_cases g : okW wst wkd
    · have := k2 g
      rw [wrr_yes g] at C3 ⊢
      refine Ev.pos rfl (Ev.neg ?_ (Ev.neg ?_ C3)) <;> (show ¬ _; simp only [lb_size]; omega)
    · rw [wrr_no g] at C3 ⊢
      exact Ev.neg (by simp) C3
  by_cases g : okL u st kd at_
  · have := k1 g
    rw [lkr_yes g] at C2 ⊢
    refine Ev.pos rfl (Ev.neg ?_ (Ev.neg ?_ C2)) <;> (show ¬ _; simp only [lb_size]; omega)
  · rw [lkr_no g] at C2 ⊢
    exact Ev.neg (by simp) C2
end Go.Proofs.Yteijlcnjnooiiaa.ColS
