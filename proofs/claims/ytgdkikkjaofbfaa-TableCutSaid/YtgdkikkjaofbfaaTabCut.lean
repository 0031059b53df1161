/- table: the law that no table's bytes that are cut off, or have more ahead, are a table's. -/
import Derived.Test.YtgdkikkjaofbfaaTabM
import Derived.Test.YtgdkikkjaofbfaaPx
set_option linter.unusedVariables false
set_option linter.unusedSimpArgs false
namespace Go.Proofs.Ytgdkikkjaofbfaa.TabS
open Go.RowKit Go.Proofs.Ytgdkikkjaofbfaa.P Go.Proofs.Ytgdkikkjaofbfaa.Th Go.Proofs.Ytgdkikkjaofbfaa.NumS Go.Proofs.Ytgdkikkjaofbfaa.BlkS Go.Proofs.Ytgdkikkjaofbfaa.BloomS Go.Proofs.YtgdkikkjaofbfaaW.PrintWords Go.Proofs.YtgdkikkjaofbfaaW.PrintLast Go.Proofs.YtgdkikkjaofbfaaW.PrintMore

theorem cut_no (s : List UInt8) (hs : s.length ≤ 10000000) (h : ∀ l, tabR l = true → s ≠ bldB l) {T : Nat → Option Bool} (hT : Ev T true) : Ev (fun k => screelaw11_TableCut.no k (lb s) (T k)) true := by
  unfold screelaw11_TableCut.no
  refine Ev.bind (Open_none s hs h) ?_
  simp only
  exact Ev.pos trivial hT
theorem cut_zs (n : Int) : screelaw11_TableCut.zs n = lb (List.replicate n.toNat 0) := by
  unfold screelaw11_TableCut.zs
  rw [son]
  simp [ofI]
theorem cut_K {l : List ES} (ht : tabR l = true) (fr bk : Int) (hf : 0 ≤ fr ∧ fr < 256) (hb : 0 ≤ bk ∧ bk < 256) : Ev (fun k => screelaw11_TableCut.K k (lb (bldB l)) fr bk) true := by
  have T := tab_of ht
  have hle := bldB_le T
  have hz : ∀ {l'}, tabR l' = true → List.replicate (fr + 1).toNat (0 : UInt8) ++ bldB l ≠ bldB l' := fun {l'} h' => by
    rw [show (fr + 1).toNat = fr.toNat + 1 by omega]
    exact zs_no T (tab_of h') _
  have h2 : Ev (fun k => screelaw11_TableCut.no k (screelaw11_TableCut.zs (fr + 1) ++ lb (bldB l)) (some true)) true := by
    rw [cut_zs, lb_append]
    exact cut_no _ (by rw [List.length_append, List.length_replicate]; omega) (fun l' h' => hz h') (Ev.val rfl)
  unfold screelaw11_TableCut.K
  refine Ev.pos ⟨hf.1, hf.2, hb.1, hb.2, by rw [lb_size]; omega⟩ ?_
  rw [lb_size]
  by_cases hc : bk < ((bldB l).length : Int) ∧ 0 < bk
  · refine Ev.pos hc ?_
    rw [lb_extract, List.drop_zero]
    refine cut_no _ (by rw [List.length_take]; omega) (fun l' h' he => ?_) h2
    have e : bldB l' ++ (bldB l).drop (((bldB l).length : Int) - bk).toNat = bldB l := by rw [← he, List.take_append_drop]
    have := bld_free T (tab_of h') e
    subst this
    have hl := congrArg List.length he
    rw [List.length_take] at hl
    omega
  · exact Ev.neg hc h2
theorem TableCut : ∀ (l0 : List ES) (a1 : Int) (a2 : Int), (((∀ x ∈ l0, (x.f0.size ≤ 140737488351232 ∧ (Lit.int .u64 x.f1).wf = true ∧ True ∧ x.f3.size ≤ 140737488351232)) ∧ l0.length * 48 ≤ 140737488351232)) → ((Lit.int .u8 a1).wf = true) → ((Lit.int .u8 a2).wf = true) → ∃ k, screelaw11_TableCut.f k l0 a1 a2 = some true := by
  intro l a1 a2 hl h1 h2
  have hl2 : l.length ≤ 3000000000000 := by have := hl.2; omega
  refine Ev.rounds ?_
  unfold screelaw11_TableCut.f
  refine Ev.bind awake_ev (Ev.pos rfl (Ev.bind (large_ev l hl2) ?_))
  by_cases hx : lrg l = true ∨ decide (a1 = 0 ∧ a2 = 0) = true
  · exact Ev.pos hx (Ev.val rfl)
  refine Ev.neg hx ?_
  have hB := Build_ev l
  unfold bldr at hB
  by_cases ht : tabR l = true
  · rw [if_pos ht] at hB
    exact Ev.bind hB (Ev.pos rfl (cut_K ht a1 a2 (wf_u8 h1) (wf_u8 h2)))
  · rw [if_neg ht] at hB
    exact Ev.bind hB (Ev.neg (by decide) (Ev.val rfl))
end Go.Proofs.Ytgdkikkjaofbfaa.TabS
