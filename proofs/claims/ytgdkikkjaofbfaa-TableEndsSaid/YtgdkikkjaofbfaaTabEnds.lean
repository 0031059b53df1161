/- table: the law of the first and the last entry, and of each one sought by its own number. -/
import Derived.Test.YtgdkikkjaofbfaaTabM
import Derived.Test.YtgdkikkjaofbfaaPx
set_option linter.unusedVariables false
set_option linter.unusedSimpArgs false
namespace Go.Proofs.Ytgdkikkjaofbfaa.TabS
open Go.RowKit Go.Proofs.Ytgdkikkjaofbfaa.P Go.Proofs.Ytgdkikkjaofbfaa.Th Go.Proofs.Ytgdkikkjaofbfaa.NumS Go.Proofs.Ytgdkikkjaofbfaa.BlkS Go.Proofs.Ytgdkikkjaofbfaa.BloomS Go.Proofs.YtgdkikkjaofbfaaW.PrintWords Go.Proofs.YtgdkikkjaofbfaaW.PrintLast Go.Proofs.YtgdkikkjaofbfaaW.PrintMore

theorem preEnds {l : List ES} (hl2 : l.length ≤ 3000000000000) (x : Bool) (K : Nat → ByteArray × List HS × ByteArray × Int → Option Bool) (hK : Tab l → Ev (fun k => K k (lb (bldB l), hs l, fltr l, (l.length : Int))) true) :
    Ev (fun k => screelaw11_TableEnds.pre k l x (K k)) true := by
  unfold screelaw11_TableEnds.pre
  refine Ev.bind awake_ev (Ev.pos rfl (Ev.bind (large_ev l hl2) ?_))
  by_cases hx : lrg l = true ∨ x = true
  · exact Ev.pos hx (Ev.val rfl)
  · refine Ev.neg hx ?_
    have hB := Build_ev l
    unfold bldr at hB
    by_cases ht : tabR l = true
    · rw [if_pos ht] at hB
      refine Ev.bind hB (Ev.pos rfl ?_)
      refine Ev.bind (Open_build ht) ?_
      simp only
      exact Ev.pos trivial (hK (tab_of ht))
    · rw [if_neg ht] at hB
      exact Ev.bind hB (Ev.neg (by decide) (Ev.val rfl))
theorem smEnds (x : ES) : screelaw11_TableEnds.sm x.f0 x.f1 x.f2 x.f3 x := ⟨rfl, rfl, rfl, rfl⟩
theorem kEnds {l : List ES} (T : Tab l) (j : Nat) (hj : j < l.length) : Ev (fun k => screelaw11_TableEnds.K k l j (lb (bldB l), hs l, fltr l, (l.length : Int))) true := by
  have hl := T.len
  have hc := T.cnt
  have hn := hs_len l
  have a0 : screelaw11_TableEnds.at l 0 = l[0] := rdE (by omega)
  have an : screelaw11_TableEnds.at l (l.length - 1) = l[l.length - 1] := rdE (by omega)
  have aj : screelaw11_TableEnds.at l j = l[j] := rdE hj
  unfold screelaw11_TableEnds.K
  rw [a0, an, aj]
  refine Ev.bind (Ends_ev T (fltr l) (l.length : Int) l[0] l[l.length - 1] (List.getElem?_eq_getElem _) (List.getElem?_eq_getElem _)) (Ev.pos ⟨smEnds _, smEnds _⟩ ?_)
  have hm : l[j] ∈ l := List.getElem_mem hj
  have hg := get_self T hj
  have hcs := cost_some T hg
  generalize l[j] = z at hm hg hcs
  have hk : (bl z.f0).length ≤ 140737488351232 := by have := T.key z hm; omega
  have hz : z.f0 = lb (bl z.f0) := (lb_bl _).symm
  have hG := Get_ev T (bl z.f0) hk z.f1 (l.length : Int)
  have hC := Cost_ev T (bl z.f0) hk z.f1 (l.length : Int)
  rw [hg] at hG
  rw [hcs] at hC
  rw [lb_bl] at hG hC
  refine Ev.bind hG (Ev.pos ⟨smEnds _, rfl⟩ ?_)
  refine Ev.bind hC (Ev.pos rfl ?_)
  refine Ev.just (a := (((hs l).length : Int), lb (bldB l), fltr l, (l.length : Int))) rfl (Ev.pos ?_ (Ev.val rfl))
  rw [Int.tdiv_eq_ediv_of_nonneg (by omega)]
  simp only
  omega
theorem TableEnds : ∀ (l0 : List ES) (a1 : Int), (((∀ x ∈ l0, (x.f0.size ≤ 140737488351232 ∧ (Lit.int .u64 x.f1).wf = true ∧ True ∧ x.f3.size ≤ 140737488351232)) ∧ l0.length * 48 ≤ 140737488351232)) → ((Lit.int .u16 a1).wf = true) → ∃ k, screelaw11_TableEnds.f k l0 a1 = some true := by
  intro l a1 hl ha
  have hl2 : l.length ≤ 3000000000000 := by have := hl.2; omega
  have ha2 := wf_u16 ha
  refine Ev.rounds ?_
  unfold screelaw11_TableEnds.f
  refine preEnds hl2 false _ (fun T => ?_)
  have := T.len
  exact Ev.pos ⟨ha2.1, ha2.2, by omega, by omega⟩ (kEnds T _ (Nat.mod_lt _ (by omega)))
end Go.Proofs.Ytgdkikkjaofbfaa.TabS
