/- block: the law of whole keys. -/
import Derived.Test.YtcogolbgfkikfaaPx0
import Derived.Test.YtcogolbgfkikfaaPx7
import Derived.Test.YtcogolbgfkikfaaPx15
import Derived.Test.YtcogolbgfkikfaaBlkE
set_option linter.unusedVariables false
set_option linter.unusedSimpArgs false
namespace Go.Proofs.Ytcogolbgfkikfaa.BlkS
open Go.RowKit Go.Proofs.Ytcogolbgfkikfaa.P Go.Proofs.Ytcogolbgfkikfaa.Th Go.Proofs.Ytcogolbgfkikfaa.NumS Go.Proofs.YtcogolbgfkikfaaW.PrintWords Go.Proofs.YtcogolbgfkikfaaW.PrintLast Go.Proofs.YtcogolbgfkikfaaW.PrintMore

theorem less_nil (a : List UInt8) : Op.bytesLess a [] = false := by cases a <;> rfl
theorem less_snoc (a : List UInt8) : Op.bytesLess a (a ++ [0]) = true := by
  induction a with
  | nil => rfl
  | cons c a ih => rw [List.cons_append, bl_cons, ih]
theorem one_row {x : ES} (h : okE x = true) : rowB [x] = true := by
  unfold rowB
  simp [sorted, h]
theorem one_find {x : ES} (h : okE x = true) : [x].find? (fun y => !(ahB y [] 0)) = some x := by
  have h1 := okE_iff h
  have : ahB x [] 0 = false := by
    unfold ahB
    rw [less_nil]
    have : ¬ bl x.f0 = [] := fun e => by rw [e] at h1; simp at h1
    simp [this]
  rw [List.find?_cons]
  simp [this]
theorem none_find {l : List ES} (hr : rowB l = true) (h : l.length - 1 < l.length) : l.find? (fun y => !(ahB y (bl l[l.length - 1].f0 ++ [0]) 18446744073709551615)) = none := by
  rw [List.find?_eq_none]
  intro x hx
  obtain ⟨i, hi, rfl⟩ := List.getElem_of_mem hx
  have : ahB l[i] (bl l[l.length - 1].f0 ++ [0]) 18446744073709551615 = true := by
    unfold ahB
    have h2 : Op.bytesLess (bl l[i].f0) (bl l[l.length - 1].f0 ++ [0]) = true := by
      by_cases hl : i = l.length - 1
      · subst hl; exact less_snoc _
      · have h3 := sorted_lt l (rowB_sorted hr) i (l.length - 1) hi h (by omega)
        rw [ltE_iff] at h3
        rcases h3 with h3 | ⟨h3, _⟩
        · exact bl_trans _ _ _ h3 (less_snoc _)
        · rw [h3]; exact less_snoc _
    rw [h2]; rfl
  rw [this]; simp
theorem BlockWhole : ∀ (l0 : List ES), (((∀ x ∈ l0, (x.f0.size ≤ 140737488351232 ∧ (Lit.int .u64 x.f1).wf = true ∧ True ∧ x.f3.size ≤ 140737488351232)) ∧ l0.length * 48 ≤ 140737488351232)) → ∃ k, screelaw09_BlockWhole.f k l0 = some true := by
  intro l _
  refine Ev.rounds ?_
  unfold screelaw09_BlockWhole.f
  refine Ev.bind awake_ev (Ev.pos rfl (Ev.bind (large_ev l) ?_))
  cases hg : lrg l with
  | true => exact Ev.pos rfl (Ev.val rfl)
  | false =>
    refine Ev.neg (by simp) ?_
    have hl := (lrg_no hg).1
    have e2 := Encode_ev l (by omega)
    rcases encr_cases l with ⟨hr, e3⟩ | ⟨h3, e3⟩
    · rw [e3] at e2
      have hn := rowB_len hr
      have hall := rowB_all hr
      have hlen := encB_len hr
      have hq := encB_eq l
      unfold strt at hq
      have h0 : 0 < l.length := by omega
      have hz : l.length - 1 < l.length := by omega
      have hok := hall l[0] (List.getElem_mem h0)
      have hok2 := okE_iff (hall l[l.length - 1] (List.getElem_mem hz))
      have e5 := Count_ev (encB l) (by omega)
      rw [cnt_enc hn] at e5
      refine Ev.bind e2 (Ev.pos rfl ?_)
      have et : Int.tdiv ((l.length : Int) + 4 - 1) 4 = (((l.length + 3) / 4 : Nat) : Int) := by rw [Int.tdiv_eq_ediv_of_nonneg (by omega)]; omega
      have c1 : wrap64 (8 * (wrap64 ((wrap64 (Int.tdiv (wrap64 ((wrap64 ((l.length : Int) + 4)) - 1)) 4)) + 1))) = ((8 * ((l.length + 3) / 4 + 1) : Nat) : Int) := by
        rw [w64 ((l.length : Int) + 4) (by omega) (by omega), w64 ((l.length : Int) + 4 - 1) (by omega) (by omega), et]
        clear et
        rw [w64 (((l.length + 3) / 4 : Nat) : Int) (by omega) (by omega), w64 ((((l.length + 3) / 4 : Nat) : Int) + 1) (by omega) (by omega), w64 _ (by omega) (by omega)]
        omega
      rw [c1]
      clear c1 et
      refine Ev.neg (by rw [lb_size]; omega) (Ev.bind e5 ?_)
      have hne : (((l.length : Nat) : Int) != (l.length : Int)) = false := by simp
      rw [hne]
      have t1 : l.take 1 = [l[0]] := by
        cases l with
        | nil => simp at h0
        | cons x l => rfl
      have f1 := Encode_ev [l[0]] (by simp)
      rcases encr_cases [l[0]] with ⟨g1, g2⟩ | ⟨g1, _⟩
      · rw [g2] at f1
        have f2 := Seek_first g1 [] 0
        rw [one_find hok] at f2
        refine Ev.step (fun k => by rw [screelaw09_BlockWhole.j0]) ?_
        refine Ev.neg (by simp) (Ev.pos (by omega) ?_)
        rw [t1]
        refine Ev.bind f1 (Ev.bind f2 (Ev.pos rfl (Ev.pos rfl (Ev.pos rfl (Ev.pos (by omega) ?_)))))
        have r0 : rd_T35 l 0 = l[0] := rdE (i := 0) h0
        rw [r0]
        refine Ev.neg (by simp [block_Seek.ans]) ?_
        have c2 : wrap64 ((l.length : Int) - 1) = ((l.length - 1 : Nat) : Int) := by rw [w64 _ (by omega) (by omega)]; omega
        rw [c2]
        clear c2
        refine Ev.pos (by omega) (Ev.pos (by omega) ?_)
        rw [rdE hz]
        refine Ev.pos (by rw [size_bl]; omega) ?_
        have f3 := Seek_first hr (bl l[l.length - 1].f0 ++ [0]) 18446744073709551615
        rw [none_find hr hz, ← lb_append, lb_bl] at f3
        exact Ev.bind f3 (Ev.neg (by simp [block_Seek.ans]) (Ev.val rfl))
      · rw [one_row hok] at g1; simp at g1
    · rw [e3] at e2
      exact Ev.bind e2 (Ev.neg (by simp) (Ev.val (by simp [lb_toList])))
end Go.Proofs.Ytcogolbgfkikfaa.BlkS
