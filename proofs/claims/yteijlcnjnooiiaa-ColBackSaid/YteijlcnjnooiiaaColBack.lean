/- col: the laws ColBack. -/
import Derived.Test.YteijlcnjnooiiaaPx0
import Derived.Test.YteijlcnjnooiiaaPx11
import Derived.Test.YteijlcnjnooiiaaPx12
import Derived.Test.YteijlcnjnooiiaaColN
set_option linter.unusedVariables false
set_option linter.unusedSimpArgs false
namespace Go.Proofs.Yteijlcnjnooiiaa.ColS
open Go.RowKit Go.Proofs.Yteijlcnjnooiiaa.P Go.Proofs.Yteijlcnjnooiiaa.Th Go.Proofs.Yteijlcnjnooiiaa.NumS Go.Proofs.Yteijlcnjnooiiaa.KeyT Go.Proofs.YteijlcnjnooiiaaW.PrintWords Go.Proofs.YteijlcnjnooiiaaW.PrintLast Go.Proofs.YteijlcnjnooiiaaW.PrintMore

theorem Same_l0 (X : List RS) (hX : X.length ≤ 40) : ∀ (n i : Nat), i + n = X.length → Ev (fun k => screeref15_Same.l0 k X X (i : Int)) true := by
  intro n
  induction n with
  | zero =>
    intro i hi
    refine Ev.step (fun k => by rw [screeref15_Same.l0]) ?_
    exact Ev.neg (by omega) (Ev.val rfl)
  | succ n ih =>
    intro i hi
    refine Ev.step (fun k => by rw [screeref15_Same.l0]) ?_
    refine Ev.pos (by omega) (Ev.pos (by omega) (Ev.pos (by omega) (Ev.neg (by simp) ?_)))
    rw [w64 _ (by omega) (by omega)]
    exact ih (i + 1) (by omega)
theorem Same_ev (X : List RS) (hX : X.length ≤ 40) : Ev (fun k => screeref15_Same.f k X X) true := by
  unfold screeref15_Same.f
  exact Ev.pos rfl (Same_l0 X hX X.length 0 (by omega))
theorem ColBack : ∀ (a0_0 : ByteArray) (a0_1 : Int) (a0_2 : Int) (a0_3 : Int) (a1_0 : Int) (a1_1 : Int) (l2 : List (S51)) (a3 : ByteArray), (a0_0.size ≤ 140737488351232 ∧ (Lit.int .u64 a0_1).wf = true ∧ (Lit.int .i64 a0_2).wf = true ∧ (Lit.int .u64 a0_3).wf = true) → ((Lit.int .u64 a1_0).wf = true ∧ (Lit.int .i64 a1_1).wf = true) → (((∀ x ∈ l2, ((Lit.int .u64 x.f0).wf = true ∧ (Lit.int .u64 x.f1).wf = true ∧ (Lit.int .u64 x.f2).wf = true)) ∧ l2.length * 24 ≤ 140737488351232)) → (a3.size ≤ 140737488351232) → ∃ k, screelaw15_ColBack.f k a0_0 a0_1 a0_2 a0_3 a1_0 a1_1 l2 a3 = some true := by
  intro p st kd at_ wst wkd L s ⟨hp, hst, _, hat⟩ ⟨hwst, _⟩ ⟨hw, _⟩ hs
  obtain ⟨u, rfl⟩ := ex_lb p
  obtain ⟨t, rfl⟩ := ex_lb s
  rw [lb_size] at hp hs
  refine Ev.rounds ?_
  unfold screelaw15_ColBack.f
  refine Ev.bind awake_ev (Ev.pos rfl ?_)
  have big : Ev (fun k => screelaw15_ColBack.j0 k L (lb t) true (lb u) st kd at_ wst wkd) true := by
    refine Ev.step (fun k => by rw [screelaw15_ColBack.j0]) ?_
    exact Ev.pos rfl (Ev.val rfl)
  by_cases h1 : (((lb u).size : Nat) : Int) > 1024
  · exact Ev.pos h1 big
  refine Ev.neg h1 ?_
  by_cases h2 : (L.length : Int) > 40
  · exact Ev.pos h2 big
  refine Ev.neg h2 ?_
  by_cases h3 : (((lb t).size : Nat) : Int) > 1024
  · rw [decide_eq_true h3]; exact big
  rw [decide_eq_false h3]
  rw [lb_size] at h1 h3
  have hl : L.length ≤ 40 := by omega
  have e5 : Ev (fun k => screelaw15_ColBack.j5 k (lb t)) true := by
    refine Ev.step (fun k => by rw [screelaw15_ColBack.j5]) ?_
    refine Ev.bind (Unlease_ev t hs) ?_
    rcases uls_cases t with e | ⟨M, hM, rfl, e⟩
    · rw [e]
      exact Ev.neg (by simp) (Ev.val rfl)
    · rw [e]
      refine Ev.pos rfl (Ev.bind (Leases_ev M (okG_u hM.2) (by have := hM.1; omega)) ?_)
      rw [lsr_yes hM]
      exact Ev.pos rfl (Ev.val rfl)
  have e4 : Ev (fun k => screelaw15_ColBack.j4 k (lb t)) true := by
    refine Ev.step (fun k => by rw [screelaw15_ColBack.j4]) ?_
    refine Ev.bind (Unwrite_ev t hs) ?_
    rcases uwr_cases t with e | ⟨a, b, hM, rfl, e⟩
    · rw [e]
      exact Ev.neg (by simp [no2]) e5
    · rw [e]
      refine Ev.pos rfl (Ev.bind (Write_ev a b) ?_)
      rw [wrr_yes hM]
      exact Ev.pos rfl (Ev.pos rfl e5)
  have e3 : Ev (fun k => screelaw15_ColBack.j3 k (lb t)) true := by
    refine Ev.step (fun k => by rw [screelaw15_ColBack.j3]) ?_
    refine Ev.bind (Unlock_ev t hs) ?_
    rcases ulk_cases t with e | ⟨q, a, b, c, hM, hc, rfl, hq, e⟩
    · rw [e]
      exact Ev.neg (by simp [no4]) e4
    · rw [e]
      refine Ev.pos rfl (Ev.bind (Lock_ev q a b c (by omega) (tm_u hM.2.1) ⟨hc, by have := hM.2.2.2; omega⟩) ?_)
      rw [lkr_yes hM]
      exact Ev.pos rfl (Ev.pos rfl e4)
  have e2 : Ev (fun k => screelaw15_ColBack.j2 k L (lb t)) true := by
    refine Ev.step (fun k => by rw [screelaw15_ColBack.j2]) ?_
    refine Ev.bind (Leases_ev L (wfs hw) hl) ?_
    by_cases g : okLs L
    · rw [lsr_yes g]
      have l1 := lsB_len g.2
      have hU := Unlease_ev (lsB L) (by have := g.1; omega)
      rw [uls_good g] at hU
      refine Ev.pos rfl (Ev.bind hU (Ev.bind (own_ev L hl) (Ev.bind (own_ev L hl) (Ev.bind (Same_ev (List.map t56 L) (by rw [List.length_map]; exact hl)) ?_))))
      exact Ev.pos rfl (Ev.pos rfl e3)
    · rw [lsr_no g]
      exact Ev.neg (by simp) e3
  have e1 : Ev (fun k => screelaw15_ColBack.j1 k L (lb t) wst wkd) true := by
    refine Ev.step (fun k => by rw [screelaw15_ColBack.j1]) ?_
    refine Ev.bind (Write_ev wst wkd) ?_
    by_cases g : okW wst wkd
    · rw [wrr_yes g]
      have l1 := wrB_len g
      have hU := Unwrite_ev (wrB wst wkd) (by omega)
      rw [uwr_good g] at hU
      refine Ev.pos rfl (Ev.bind hU ?_)
      exact Ev.neg (by simp) (Ev.pos rfl e2)
    · rw [wrr_no g]
      exact Ev.neg (by simp) e2
  refine Ev.step (fun k => by rw [screelaw15_ColBack.j0]) ?_
  refine Ev.neg (by simp) (Ev.bind (Lock_ev u st kd at_ hp (wf_u64 hst) (wf_u64 hat)) ?_)
  by_cases g : okL u st kd at_
  · rw [lkr_yes g]
    have l1 := lkB_len g (wf_u64 hat).1
    have hU := Unlock_ev (lkB u st kd at_) (by omega)
    rw [ulk_good g (wf_u64 hat).1] at hU
    refine Ev.pos rfl (Ev.bind hU ?_)
    exact Ev.neg (by simp) (Ev.pos rfl e1)
  · rw [lkr_no g]
    exact Ev.neg (by simp) e1
end Go.Proofs.Yteijlcnjnooiiaa.ColS
