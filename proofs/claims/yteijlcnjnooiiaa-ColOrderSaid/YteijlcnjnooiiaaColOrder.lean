/- col: the laws ColOrder. -/
import Derived.Test.YteijlcnjnooiiaaPx0
import Derived.Test.YteijlcnjnooiiaaPx19
import Derived.Test.YteijlcnjnooiiaaCol5
set_option linter.unusedVariables false
set_option linter.unusedSimpArgs false
namespace Go.Proofs.Yteijlcnjnooiiaa.ColS
open Go.RowKit Go.Proofs.Yteijlcnjnooiiaa.P Go.Proofs.Yteijlcnjnooiiaa.Th Go.Proofs.Yteijlcnjnooiiaa.NumS Go.Proofs.Yteijlcnjnooiiaa.KeyT Go.Proofs.YteijlcnjnooiiaaW.PrintWords Go.Proofs.YteijlcnjnooiiaaW.PrintLast Go.Proofs.YteijlcnjnooiiaaW.PrintMore

theorem order_end (L : List LS) (h : okLs L) (n : Nat) (hn : n < 256) : Ev (fun k => screelaw15_ColOrder.l0 k L (n : Int) (L.length : Int) (L.length : Int)) true := by
  refine Ev.step (fun k => by rw [screelaw15_ColOrder.l0]) ?_
  have hl := h.1
  refine Ev.neg (by omega) (Ev.neg (by omega) ?_)
  by_cases h0 : (L.length : Int) = 0
  · exact Ev.pos h0 (Ev.val rfl)
  refine Ev.neg h0 (Ev.just rfl ?_)
  have e : Int.tmod (wrap64 (n : Int)) (L.length : Int) = ((n % L.length : Nat) : Int) := by rw [w64 _ (by omega) (by omega)]; rfl
  have hm : n % L.length < L.length := Nat.mod_lt _ (by omega)
  rw [e]
  generalize n % L.length = m at hm ⊢
  have e1 : wrap64 ((m : Int) + 1) = ((m + 1 : Nat) : Int) := by rw [w64 _ (by omega) (by omega)]; rfl
  rw [e1]
  simp only [Int.toNat_natCast]
  refine Ev.pos (by omega) (Ev.pos (by omega) (Ev.just rfl (Ev.pos (by simp; omega) (Ev.just rfl (Ev.pos (by omega) (Ev.pos (by omega) (Ev.just rfl (Ev.pos (by simp; omega) ?_))))))))
  rw [List.nil_append]
  have hg := okG_out (p := 0) m h.2
  have hlen : (L.take m ++ L.drop (m + 1)).length ≤ 5 := by simp; omega
  refine Ev.bind (Leases_ev _ (okG_u hg) (by omega)) ?_
  rw [lsr_yes ⟨hlen, hg⟩]
  exact Ev.val rfl
theorem order_l0 (n : Nat) (hn : n < 256) : ∀ (rest pre : List LS) (p : Int), okLs (pre ++ rest) → okG p rest = true → last p pre →
    Ev (fun k => screelaw15_ColOrder.l0 k (pre ++ rest) (n : Int) ((pre ++ rest).length : Int) (pre.length : Int)) true := by
  intro rest
  induction rest with
  | nil =>
    intro pre p h _ _
    rw [List.append_nil] at h ⊢
    exact order_end pre h n hn
  | cons x rest ih =>
    intro pre p h hg hp
    obtain ⟨h1, h2, h3, h4, h5⟩ := okG_cons.1 hg
    have hl := h.1
    have hlen : (pre ++ x :: rest).length = pre.length + 1 + rest.length := by simp; omega
    rw [hlen] at hl
    have t1 := tm_le h2
    have t2 := tm_le h3
    refine Ev.step (fun k => by rw [screelaw15_ColOrder.l0]) ?_
    rw [rd_app]
    refine Ev.pos (by omega) (Ev.pos (by omega) (Ev.pos (by omega) (Ev.neg (by omega) (Ev.neg (by omega) ?_))))
    have hgo : Ev (fun k => screelaw15_ColOrder.l0 k (pre ++ x :: rest) (n : Int) ((pre ++ x :: rest).length : Int) (wrap64 ((pre.length : Int) + 1))) true := by
      have hI := ih (pre ++ [x]) x.f0 (by rw [List.append_assoc, List.singleton_append]; exact h) h5 (last_snoc _ _)
      rw [List.append_assoc, List.singleton_append] at hI
      have e1 : wrap64 ((pre.length : Int) + 1) = (((pre ++ [x]).length : Nat) : Int) := by rw [w64 _ (by omega) (by omega)]; simp
      rw [e1]
      exact hI
    rcases hp with ⟨rfl, rfl⟩ | ⟨q, y, rfl, rfl⟩
    · exact Ev.neg (by simp) hgo
    · have hq : (q ++ [y]).length = q.length + 1 := by simp
      have e2 : wrap64 (((q ++ [y]).length : Int) - 1) = (q.length : Int) := by rw [hq] at hl ⊢; rw [w64 _ (by omega) (by omega)]; omega
      have e3 : rd_T51 (q ++ [y] ++ x :: rest) (q.length : Int) = y := by rw [List.append_assoc, List.singleton_append]; exact rd_app _ _ _
      rw [e2, e3]
      exact Ev.pos (by rw [hq]; omega) (Ev.pos (by omega) (Ev.pos (by simp; omega) (Ev.neg (by omega) hgo)))
theorem ColOrder : ∀ (l0 : List (S51)) (a1 : Int), (((∀ x ∈ l0, ((Lit.int .u64 x.f0).wf = true ∧ (Lit.int .u64 x.f1).wf = true ∧ (Lit.int .u64 x.f2).wf = true)) ∧ l0.length * 24 ≤ 140737488351232)) → ((Lit.int .u8 a1).wf = true) → ∃ k, screelaw15_ColOrder.f k l0 a1 = some true := by
  intro L a ⟨hw, _⟩ ha
  obtain ⟨ha0, ha1⟩ := wf_u8 ha
  obtain ⟨n, rfl⟩ := Int.eq_ofNat_of_zero_le ha0
  refine Ev.rounds ?_
  unfold screelaw15_ColOrder.f
  refine Ev.bind awake_ev (Ev.pos rfl ?_)
  by_cases h2 : (L.length : Int) > 40
  · exact Ev.pos h2 (Ev.val rfl)
  refine Ev.neg h2 (Ev.bind (Leases_ev L (wfs hw) (by omega)) ?_)
  by_cases g : okLs L
  · rw [lsr_yes g]
    exact Ev.pos rfl (order_l0 n (by omega) L [] 0 g g.2 (Or.inl ⟨rfl, rfl⟩))
  · rw [lsr_no g]
    exact Ev.neg (by simp) (Ev.val rfl)
end Go.Proofs.Yteijlcnjnooiiaa.ColS
