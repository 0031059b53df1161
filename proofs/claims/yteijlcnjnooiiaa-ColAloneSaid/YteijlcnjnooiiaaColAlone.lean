/- col: the laws ColAlone. -/
import Derived.Test.YteijlcnjnooiiaaPx0
import Derived.Test.YteijlcnjnooiiaaPx20
import Derived.Test.YteijlcnjnooiiaaCol5
set_option linter.unusedVariables false
set_option linter.unusedSimpArgs false
namespace Go.Proofs.Yteijlcnjnooiiaa.ColS
open Go.RowKit Go.Proofs.Yteijlcnjnooiiaa.P Go.Proofs.Yteijlcnjnooiiaa.Th Go.Proofs.Yteijlcnjnooiiaa.NumS Go.Proofs.Yteijlcnjnooiiaa.KeyT Go.Proofs.YteijlcnjnooiiaaW.PrintWords Go.Proofs.YteijlcnjnooiiaaW.PrintLast Go.Proofs.YteijlcnjnooiiaaW.PrintMore

theorem ColAlone : ∀ (l0 : List (S51)) (a1 : Int), (((∀ x ∈ l0, ((Lit.int .u64 x.f0).wf = true ∧ (Lit.int .u64 x.f1).wf = true ∧ (Lit.int .u64 x.f2).wf = true)) ∧ l0.length * 24 ≤ 140737488351232)) → ((Lit.int .u8 a1).wf = true) → ∃ k, screelaw15_ColAlone.f k l0 a1 = some true := by
  intro L a ⟨hw, _⟩ ha
  obtain ⟨ha0, ha1⟩ := wf_u8 ha
  obtain ⟨n, rfl⟩ := Int.eq_ofNat_of_zero_le ha0
  refine Ev.rounds ?_
  unfold screelaw15_ColAlone.f
  refine Ev.bind awake_ev (Ev.pos rfl ?_)
  by_cases h2 : (L.length : Int) > 40
  · exact Ev.pos h2 (Ev.val rfl)
  have hl : L.length ≤ 40 := by omega
  refine Ev.neg h2 (Ev.bind (Leases_ev L (wfs hw) hl) ?_)
  have e0 : wrap64 ((L.length : Int) + 1) = ((L.length + 1 : Nat) : Int) := by rw [w64 _ (by omega) (by omega)]; rfl
  rw [e0]
  refine Ev.neg (by omega) ?_
  have e : Int.tmod (wrap64 (n : Int)) ((L.length + 1 : Nat) : Int) = ((n % (L.length + 1) : Nat) : Int) := by rw [w64 _ (by omega) (by omega)]; rfl
  have hm : n % (L.length + 1) < L.length + 1 := Nat.mod_lt _ (by omega)
  rw [e]
  generalize n % (L.length + 1) = m at hm ⊢
  simp only [Int.toNat_natCast]
  have hwf := wfs hw
  refine Ev.pos (by omega) (Ev.pos (by omega) (Ev.bind (Leases_ev (L.take m) (fun x hx => hwf x (List.mem_of_mem_take hx)) (by simp; omega)) (Ev.bind (Leases_ev (L.drop m) (fun x hx => hwf x (List.mem_of_mem_drop hx)) (by simp; omega)) ?_)))
  by_cases g : okLs L
  · have g1 : okLs (L.take m) := ⟨by have := g.1; simp; omega, okG_take m g.2⟩
    have g2 : okLs (L.drop m) := ⟨by have := g.1; simp; omega, okG_drop m g.2⟩
    rw [lsr_yes g, lsr_yes g1, lsr_yes g2]
    have l1 := lsB_len g1.2
    have l2 := lsB_len g2.2
    have s1 := g1.1
    have s2 := g2.1
    have hU := Unlease_ev (lsB (L.take m)) (by omega)
    rw [uls_good g1] at hU
    refine Ev.pos rfl (Ev.bind hU (Ev.pos rfl (Ev.pos rfl (Ev.pos (by simp only [lb_size]; omega) (Ev.pos ?_ (Ev.pos rfl (Ev.val ?_)))))))
    · rw [lb_append, ← lsB_app, List.take_append_drop]
    · congr 1
      rw [beq_iff_eq]
      simp; omega
  · rw [lsr_no g]
    refine Ev.neg (by simp) (Ev.val ?_)
    simp [lb_toList]
end Go.Proofs.Yteijlcnjnooiiaa.ColS
