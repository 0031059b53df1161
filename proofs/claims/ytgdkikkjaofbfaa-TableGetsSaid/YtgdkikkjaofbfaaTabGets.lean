/- table: the law that what is got is as in the row. -/
import Derived.Test.YtgdkikkjaofbfaaTabM
import Derived.Test.YtgdkikkjaofbfaaPx
set_option linter.unusedVariables false
set_option linter.unusedSimpArgs false
namespace Go.Proofs.Ytgdkikkjaofbfaa.TabS
open Go.RowKit Go.Proofs.Ytgdkikkjaofbfaa.P Go.Proofs.Ytgdkikkjaofbfaa.Th Go.Proofs.Ytgdkikkjaofbfaa.NumS Go.Proofs.Ytgdkikkjaofbfaa.BlkS Go.Proofs.Ytgdkikkjaofbfaa.BloomS Go.Proofs.YtgdkikkjaofbfaaW.PrintWords Go.Proofs.YtgdkikkjaofbfaaW.PrintLast Go.Proofs.YtgdkikkjaofbfaaW.PrintMore

theorem preGets {l : List ES} (hl2 : l.length ≤ 3000000000000) (x : Bool) (K : Nat → ByteArray × List HS × ByteArray × Int → Option Bool) (hK : Tab l → Ev (fun k => K k (lb (bldB l), hs l, fltr l, (l.length : Int))) true) :
    Ev (fun k => screelaw11_TableGets.pre k l x (K k)) true := by
  unfold screelaw11_TableGets.pre
  refine Ev.bind awake_ev (Ev.pos rfl (Ev.bind (large_ev l hl2) ?_))
  by_cases hx : lrg l = true ∨ x = true
  · exact Ev.pos hx (Ev.val rfl)
  · refine Ev.neg hx ?_
    have hB := Build_ev l
    unfold bldr at hB
    by_cases ht : tabR l = true
    · rw [if_pos ht] at hB
      refine Ev.bind hB (Ev.pos rfl ?_)
      refine Ev.bind (Open_build ht) ?_
      simp only
      exact Ev.pos trivial (hK (tab_of ht))
    · rw [if_neg ht] at hB
      exact Ev.bind hB (Ev.neg (by decide) (Ev.val rfl))
theorem smGets (x : ES) : screelaw11_TableGets.sm x.f0 x.f1 x.f2 x.f3 x := ⟨rfl, rfl, rfl, rfl⟩
theorem q_eq (key : ByteArray) (seq : Int) : screelaw11_TableGets.q key seq = qE (bl key) seq := by
  funext x
  unfold screelaw11_TableGets.q qE
  simp only [toL_bl]
theorem kGets {l : List ES} (T : Tab l) (key : List UInt8) (hk : key.length ≤ 140737488351232) (seq : Int) : Ev (fun k => screelaw11_TableGets.K k l (lb key) seq (lb (bldB l), hs l, fltr l, (l.length : Int))) true := by
  unfold screelaw11_TableGets.K
  rw [q_eq, bl_lb, ← find_q T]
  refine Ev.bind (Get_ev T key hk seq (l.length : Int)) ?_
  cases hg : getS l key seq with
  | some x =>
    have hC := Cost_ev T key hk seq (l.length : Int)
    rw [cost_some T hg] at hC
    refine Ev.bind hC ?_
    unfold screelaw11_TableGets.fin
    exact Ev.pos ⟨smGets x, rfl, rfl⟩ (Ev.val rfl)
  | none =>
    refine Ev.bind (Cost_ev T key hk seq (l.length : Int)) ?_
    unfold screelaw11_TableGets.fin
    exact Ev.pos ⟨rfl, (cost_le l key seq).1, (cost_le l key seq).2⟩ (Ev.val rfl)
theorem TableGets : ∀ (l0 : List ES) (a1 : ByteArray) (a2 : Int), (((∀ x ∈ l0, (x.f0.size ≤ 140737488351232 ∧ (Lit.int .u64 x.f1).wf = true ∧ True ∧ x.f3.size ≤ 140737488351232)) ∧ l0.length * 48 ≤ 140737488351232)) → (a1.size ≤ 140737488351232) → ((Lit.int .u64 a2).wf = true) → ∃ k, screelaw11_TableGets.f k l0 a1 a2 = some true := by
  intro l a1 a2 hl ha _
  have hl2 : l.length ≤ 3000000000000 := by have := hl.2; omega
  refine Ev.rounds ?_
  unfold screelaw11_TableGets.f
  refine preGets hl2 _ _ (fun T => ?_)
  have := T.len
  refine Ev.pos (by omega) ?_
  have h := kGets T (bl a1) (by rw [← lb_size, lb_bl]; exact ha) a2
  rwa [lb_bl] at h
end Go.Proofs.Ytgdkikkjaofbfaa.TabS
