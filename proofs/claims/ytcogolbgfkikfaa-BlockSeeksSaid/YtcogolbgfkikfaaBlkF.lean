/- block: the law of what is sought. -/
import Derived.Test.YtcogolbgfkikfaaPx0
import Derived.Test.YtcogolbgfkikfaaPx7
import Derived.Test.YtcogolbgfkikfaaPx9
import Derived.Test.YtcogolbgfkikfaaPx14
import Derived.Test.YtcogolbgfkikfaaBlkE
set_option linter.unusedVariables false
set_option linter.unusedSimpArgs false
namespace Go.Proofs.Ytcogolbgfkikfaa.BlkS
open Go.RowKit Go.Proofs.Ytcogolbgfkikfaa.P Go.Proofs.Ytcogolbgfkikfaa.Th Go.Proofs.Ytcogolbgfkikfaa.NumS Go.Proofs.YtcogolbgfkikfaaW.PrintWords Go.Proofs.YtcogolbgfkikfaaW.PrintLast Go.Proofs.YtcogolbgfkikfaaW.PrintMore

theorem RAhead_f (x : ES) (key : List UInt8) (seq : Int) : screeref07_Ahead.f x.f0 x.f1 (lb key) seq = some (ahB x key seq) := by
  unfold screeref07_Ahead.f ahB
  rw [toL_bl, lb_toList]
  by_cases h1 : Op.bytesLess (bl x.f0) key = true
  · rw [h1]; simp
  · rw [show Op.bytesLess (bl x.f0) key = false by simpa using h1]
    by_cases h2 : bl x.f0 = key
    · simp [h2]
    · simp [h2]
theorem seeks_loop (l : List ES) (hl : l.length ≤ 60) (s key : List UInt8) (seq : Int) (o : Option ES) (ho : l.find? (fun x => !(ahB x key seq)) = o) :
    ∀ (n i : Nat), i + n = l.length → (∀ j (h : j < l.length), j < i → ahB l[j] key seq = true) →
    Ev (fun k => screelaw09_BlockSeeks.l0 k l (lb key) seq (block_Seek.ans o).2.2.2.2.1 (l.length : Int) (i : Int) (block_Seek.ans o).1 (block_Seek.ans o).2.1 (block_Seek.ans o).2.2.1 (block_Seek.ans o).2.2.2.1) true := by
  intro n
  induction n with
  | zero =>
    intro i hi ha
    have : l.find? (fun x => !(ahB x key seq)) = none := by
      rw [List.find?_eq_none]
      intro x hx
      obtain ⟨j, hj, rfl⟩ := List.getElem_of_mem hx
      rw [ha j hj (by omega)]; simp
    rw [this] at ho
    subst ho
    refine Ev.step (fun k => by rw [screelaw09_BlockSeeks.l0]) ?_
    refine Ev.neg (by omega) (Ev.neg (by simp [block_Seek.ans]) (Ev.val ?_))
    simp [block_Seek.ans, lb_emp2, lb_nil]
  | succ n ih =>
    intro i hi ha
    have h1 : i < l.length := by omega
    have e1 : wrap64 ((i : Int) + 1) = ((i + 1 : Nat) : Int) := by rw [w64 _ (by omega) (by omega)]; omega
    refine Ev.step (fun k => by rw [screelaw09_BlockSeeks.l0]) ?_
    refine Ev.pos (by omega) (Ev.pos (by omega) (Ev.pos (by omega) ?_))
    rw [rdE h1, e1]
    refine Ev.just (RAhead_f l[i] key seq) ?_
    cases h2 : ahB l[i] key seq with
    | true =>
      refine Ev.pos rfl (ih (i + 1) (by omega) ?_)
      intro j hj hji
      by_cases h3 : j = i
      · subst h3; exact h2
      · exact ha j hj (by omega)
    | false =>
      have : l.find? (fun x => !(ahB x key seq)) = some l[i] := by
        rw [List.find?_eq_some_iff_getElem]
        refine ⟨by simp [h2], i, h1, rfl, ?_⟩
        intro j hj
        simp [ha j (by omega) hj]
      rw [this] at ho
      subst ho
      refine Ev.neg (by simp) (Ev.pos rfl (Ev.val ?_))
      simp [block_Seek.ans]
theorem BlockSeeks : ∀ (l0 : List ES) (a1 : ByteArray) (a2 : Int), (((∀ x ∈ l0, (x.f0.size ≤ 140737488351232 ∧ (Lit.int .u64 x.f1).wf = true ∧ True ∧ x.f3.size ≤ 140737488351232)) ∧ l0.length * 48 ≤ 140737488351232)) → (a1.size ≤ 140737488351232) → ((Lit.int .u64 a2).wf = true) → ∃ k, screelaw09_BlockSeeks.f k l0 a1 a2 = some true := by
  intro l a1 seq _ _ _
  obtain ⟨key, rfl⟩ := ex_lb a1
  refine Ev.rounds ?_
  unfold screelaw09_BlockSeeks.f
  simp only [lb_size]
  refine Ev.bind awake_ev (Ev.pos rfl (Ev.bind (large_ev l) ?_))
  have big : Ev (fun k => screelaw09_BlockSeeks.j0 k l (lb key) seq true) true := by
    refine Ev.step (fun k => by rw [screelaw09_BlockSeeks.j0]) ?_
    exact Ev.pos rfl (Ev.val rfl)
  cases hg : lrg l with
  | true => exact Ev.pos rfl big
  | false =>
    refine Ev.neg (by simp) ?_
    by_cases h1 : (key.length : Int) > 300
    · rw [decide_eq_true h1]; exact big
    rw [decide_eq_false h1]
    have hl := (lrg_no hg).1
    have e2 := Encode_ev l (by omega)
    refine Ev.step (fun k => by rw [screelaw09_BlockSeeks.j0]) ?_
    rcases encr_cases l with ⟨hr, e3⟩ | ⟨h3, e3⟩
    · rw [e3] at e2
      refine Ev.neg (by simp) (Ev.bind e2 (Ev.pos rfl (Ev.bind (Seek_first hr key seq) ?_)))
      refine Ev.pos (by cases l.find? (fun x => !(ahB x key seq)) <;> rfl) ?_
      exact seeks_loop l hl (encB l) key seq _ rfl l.length 0 (by omega) (fun j hj h => by omega)
    · rw [e3] at e2
      exact Ev.neg (by simp) (Ev.bind e2 (Ev.neg (by simp) (Ev.val rfl)))
end Go.Proofs.Ytcogolbgfkikfaa.BlkS
