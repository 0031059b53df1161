/- gc: what may go and what stays are all records, each once, in order. -/
import Derived.Test.YtcdadhgcjkgnoaaPx0
import Derived.Test.YtcdadhgcjkgnoaaPx12
import Derived.Test.YtcdadhgcjkgnoaaGc3
set_option linter.unusedVariables false
set_option linter.unusedSimpArgs false
namespace Go.Proofs.Ytcdadhgcjkgnoaa.GcS
open Go.RowKit Go.Proofs.Ytcdadhgcjkgnoaa.P Go.Proofs.Ytcdadhgcjkgnoaa.Th Go.Proofs.YtcdadhgcjkgnoaaW.PrintWords Go.Proofs.YtcdadhgcjkgnoaaW.PrintLast Go.Proofs.YtcdadhgcjkgnoaaW.PrintMore

theorem filter_both (p : ES → Bool) (l : List ES) : (l.filter p).length + (l.filter (fun x => !p x)).length = l.length := by
  induction l with
  | nil => rfl
  | cons x l ih =>
    rw [List.filter_cons, List.filter_cons]
    cases p x <;> simp <;> omega
theorem rdl0 {x : ES} {l : List ES} : rd_T47 (x :: l) 0 = x := rdE (l := x :: l) (i := 0) (by simp)
theorem parts_l0 (l : List ES) (p : ES → Bool) (hl : l.length ≤ 1000) : ∀ (n i : Nat), i + n = l.length → risesB (l.drop i) = true →
    Ev (fun k => screelaw17_GcParts.l0 k l (((l.drop i).filter p).map (·.f0)) ((l.drop i).filter (fun x => !p x)) (l.length : Int) (i : Int)) true := by
  intro n
  induction n with
  | zero =>
    intro i hi hr
    refine Ev.step (fun k => by rw [screelaw17_GcParts.l0]) ?_
    exact Ev.neg (by omega) (Ev.val rfl)
  | succ n ih =>
    intro i hi hr
    have h1 : i < l.length := by omega
    have e1 : wrap64 ((i : Int) + 1) = ((i + 1 : Nat) : Int) := by rw [w64 _ (by omega) (by omega)]; omega
    have hd := List.drop_eq_getElem_cons h1
    rw [hd] at hr
    have ih := ih (i + 1) (by omega) (rises_tail hr)
    have hall := rises_all (l.drop (i + 1)) l[i] hr
    rw [hd, List.filter_cons, List.filter_cons]
    refine Ev.step (fun k => by rw [screelaw17_GcParts.l0]) ?_
    refine Ev.pos (by clear e1; omega) ?_
    cases hp : p l[i] with
    | true =>
      simp only [if_true, Bool.not_true, if_false, List.map_cons]
      refine Ev.pos (by simp) (Ev.pos (by simp) (Ev.pos (by clear e1; omega) (Ev.pos (by clear e1; omega) ?_)))
      rw [rdE h1]
      have e2 : ((rdOf ByteArray.empty (l[i].f0 :: ((l.drop (i + 1)).filter p).map (·.f0)) 0).toList == l[i].f0.toList) = true := by simp [rdOf]
      rw [e2]
      refine Ev.step (fun k => by rw [screelaw17_GcParts.j1]) ?_
      refine Ev.pos rfl (Ev.pos (by simp; omega) ?_)
      rw [e1]
      exact ih
    | false =>
      simp only [Bool.not_false, if_true, if_false, Bool.false_eq_true]
      have j1 : Ev (fun k => screelaw17_GcParts.j1 k l (((l.drop (i + 1)).filter p).map (·.f0)) (l[i] :: (l.drop (i + 1)).filter (fun x => !p x)) (i : Int) (l.length : Int) (i : Int) false) true := by
        refine Ev.step (fun k => by rw [screelaw17_GcParts.j1]) ?_
        refine Ev.neg (by simp) (Ev.neg (by simp; omega) (Ev.pos (by simp) (Ev.pos (by clear e1; omega) (Ev.pos (by clear e1; omega) ?_))))
        rw [rdE h1, rdl0, e1]
        exact Ev.neg (by simp) (Ev.pos (by simp; omega) ih)
      by_cases hg : (l.drop (i + 1)).filter p = []
      · rw [hg] at j1 ⊢
        exact Ev.neg (by simp) j1
      · obtain ⟨y, m, hm⟩ := List.exists_cons_of_ne_nil hg
        have hy : y ∈ l.drop (i + 1) := by
          have : y ∈ (l.drop (i + 1)).filter p := by rw [hm]; simp
          exact (List.mem_filter.1 this).1
        have hne := less_ne (hall y hy)
        rw [hm] at j1 ⊢
        refine Ev.pos (by simp) (Ev.pos (by simp) (Ev.pos (by clear e1; omega) (Ev.pos (by clear e1; omega) ?_)))
        rw [rdE h1]
        have e2 : ((rdOf ByteArray.empty ((y :: m).map (·.f0)) 0).toList == l[i].f0.toList) = false := by
          rw [beq_eq_false_iff_ne]
          simp only [List.map_cons]
          have e3 : rdOf ByteArray.empty (y.f0 :: m.map (·.f0)) 0 = y.f0 := by simp [rdOf]
          rw [e3, toL_bl, toL_bl]
          exact fun e => hne e.symm
        rw [e2]
        exact j1
theorem GcParts : ∀ (l0 : List ES) (a1 : Int), (((∀ x ∈ l0, (x.f0.size ≤ 140737488351232 ∧ (Lit.int .u64 x.f1).wf = true ∧ True ∧ x.f3.size ≤ 140737488351232)) ∧ l0.length * 48 ≤ 140737488351232)) → ((Lit.int .u64 a1).wf = true) → ∃ k, screelaw17_GcParts.f k l0 a1 = some true := by
  intro l safe _ _
  refine Ev.rounds ?_
  unfold screelaw17_GcParts.f
  refine Ev.bind awake_ev (Ev.pos rfl (Ev.bind (large_ev l) ?_))
  cases hg : lrg l with
  | true => exact Ev.pos rfl (Ev.val rfl)
  | false =>
    obtain ⟨h80, hf⟩ := lrg_no hg
    refine Ev.neg (by simp) (Ev.bind (Garbage_ev safe l hf) (Ev.bind (Left_ev safe l hf) ?_))
    unfold garb left
    cases hr : risesB l with
    | false =>
      exact Ev.pos rfl (Ev.neg (by simp) (Ev.pos rfl (Ev.val rfl)))
    | true =>
      have hb := filter_both (mayE safe l) l
      simp only [if_true, List.length_map]
      refine Ev.pos ?_ ?_
      · rw [w64 _ (by omega) (by omega)]; omega
      · have := parts_l0 l (mayE safe l) (by omega) l.length 0 (by omega) hr
        simpa using this
end Go.Proofs.Ytcdadhgcjkgnoaa.GcS
