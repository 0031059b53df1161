/- col: the laws lemmas. -/
import Derived.Test.YteijlcnjnooiiaaPx0
import Derived.Test.YteijlcnjnooiiaaCol4
set_option linter.unusedVariables false
set_option linter.unusedSimpArgs false
namespace Go.Proofs.Yteijlcnjnooiiaa.ColS
open Go.RowKit Go.Proofs.Yteijlcnjnooiiaa.P Go.Proofs.Yteijlcnjnooiiaa.Th Go.Proofs.Yteijlcnjnooiiaa.NumS Go.Proofs.Yteijlcnjnooiiaa.KeyT Go.Proofs.YteijlcnjnooiiaaW.PrintWords Go.Proofs.YteijlcnjnooiiaaW.PrintLast Go.Proofs.YteijlcnjnooiiaaW.PrintMore

theorem wfs {L : List LS} (hw : ∀ x ∈ L, ((Lit.int .u64 x.f0).wf = true ∧ (Lit.int .u64 x.f1).wf = true ∧ (Lit.int .u64 x.f2).wf = true)) : ∀ x ∈ L, wfS x :=
  fun x hx => ⟨wf_u64 (hw x hx).1, wf_u64 (hw x hx).2.1, wf_u64 (hw x hx).2.2⟩
theorem lkB_inj {u v : List UInt8} {a b c a2 b2 c2 : Int} (h : okL u a b c) (h2 : okL v a2 b2 c2) (hc : 0 ≤ c) (hc2 : 0 ≤ c2) (e : lkB u a b c = lkB v a2 b2 c2) : u = v ∧ a = a2 ∧ b = b2 ∧ c = c2 := by
  have h3 := ulk_good h hc
  rw [e, ulk_good h2 hc2] at h3
  simp only [Prod.mk.injEq] at h3
  exact ⟨(lb_inj h3.1).symm, h3.2.1.symm, h3.2.2.1.symm, h3.2.2.2.1.symm⟩
theorem wrB_inj {a b a2 b2 : Int} (h : okW a b) (h2 : okW a2 b2) (e : wrB a b = wrB a2 b2) : a = a2 ∧ b = b2 := by
  have h3 := uwr_good h
  rw [e, uwr_good h2] at h3
  simp only [Prod.mk.injEq] at h3
  exact ⟨h3.1.symm, h3.2.1.symm⟩
theorem lkB_len {u : List UInt8} {a b c : Int} (h : okL u a b c) (hc : 0 ≤ c) : u.length + 3 ≤ (lkB u a b c).length ∧ (lkB u a b c).length ≤ u.length + 13 := by
  have h1 := sh_len6 (tm_le h.2.1).2
  have h2 := sh_len6 h.2.2.2
  have h3 := sh_pos a
  have h4 := sh_pos c
  unfold lkB
  simp only [List.length_append, ofI_len, List.length_cons, List.length_nil]
  omega
theorem wrB_len {a b : Int} (h : okW a b) : 2 ≤ (wrB a b).length ∧ (wrB a b).length ≤ 7 := by
  have h1 := sh_len6 (tm_le h.1).2
  have h3 := sh_pos a
  unfold wrB
  simp only [List.length_append, ofI_len, List.length_cons, List.length_nil]
  omega
theorem lsB_len {p : Int} {L : List LS} (h : okG p L = true) : 3 * L.length ≤ (lsB L).length ∧ (lsB L).length ≤ 18 * L.length := by
  induction L generalizing p with
  | nil => simp [lsB]
  | cons x L ih =>
    obtain ⟨h1, h2, h3, h4, h5⟩ := okG_cons.1 h
    have l1 := sh_len6 (tm_le h2).2
    have l2 := sh_len6 (tm_le h3).2
    have l3 := sh_len6 h4.2
    have p1 := sh_pos x.f0
    have p2 := sh_pos x.f1
    have p3 := sh_pos x.f2
    have := ih h5
    rw [lsB_cons]
    simp only [List.length_append, List.length_cons]
    omega
theorem okG_weak {p q : Int} {L : List LS} (h : p ≤ q) (g : okG q L = true) : okG p L = true := by
  cases L with
  | nil => rfl
  | cons x L =>
    obtain ⟨h1, h2⟩ := okG_cons.1 g
    exact okG_cons.2 ⟨by omega, h2⟩
theorem okG_take {L : List LS} : ∀ {p : Int} (n : Nat), okG p L = true → okG p (L.take n) = true := by
  induction L with
  | nil => intro p n _; simp [okG]
  | cons x L ih =>
    intro p n g
    cases n with
    | zero => rfl
    | succ n =>
      obtain ⟨h1, h2, h3, h4, h5⟩ := okG_cons.1 g
      rw [List.take_succ_cons]
      exact okG_cons.2 ⟨h1, h2, h3, h4, ih n h5⟩
theorem okG_drop {L : List LS} : ∀ {p : Int} (n : Nat), okG p L = true → okG p (L.drop n) = true := by
  induction L with
  | nil => intro p n _; simp [okG]
  | cons x L ih =>
    intro p n g
    cases n with
    | zero => exact g
    | succ n =>
      obtain ⟨h1, h2, h3, h4, h5⟩ := okG_cons.1 g
      rw [List.drop_succ_cons]
      exact okG_weak (by omega) (ih n h5)
theorem okG_out {L : List LS} : ∀ {p : Int} (n : Nat), okG p L = true → okG p (L.take n ++ L.drop (n + 1)) = true := by
  induction L with
  | nil => intro p n _; simp [okG]
  | cons x L ih =>
    intro p n g
    obtain ⟨h1, h2, h3, h4, h5⟩ := okG_cons.1 g
    cases n with
    | zero => exact okG_weak (by omega) h5
    | succ n =>
      rw [List.take_succ_cons, List.drop_succ_cons, List.cons_append]
      exact okG_cons.2 ⟨h1, h2, h3, h4, ih n h5⟩
end Go.Proofs.Yteijlcnjnooiiaa.ColS
