/- col: leases. -/
import Derived.Test.YteijlcnjnooiiaaPx0
import Derived.Test.YteijlcnjnooiiaaPx8
import Derived.Test.YteijlcnjnooiiaaCol2
set_option linter.unusedVariables false
set_option linter.unusedSimpArgs false
namespace Go.Proofs.Yteijlcnjnooiiaa.ColS
open Go.RowKit Go.Proofs.Yteijlcnjnooiiaa.P Go.Proofs.Yteijlcnjnooiiaa.Th Go.Proofs.Yteijlcnjnooiiaa.NumS Go.Proofs.Yteijlcnjnooiiaa.KeyT Go.Proofs.YteijlcnjnooiiaaW.PrintWords Go.Proofs.YteijlcnjnooiiaaW.PrintLast Go.Proofs.YteijlcnjnooiiaaW.PrintMore

abbrev LS := S51
def wfS (x : LS) : Prop := u64 x.f0 ∧ u64 x.f1 ∧ u64 x.f2
def okG (p : Int) : List LS → Bool
  | [] => true
  | x :: L => decide (p < x.f0) && tm x.f0 && tm x.f1 && decide (0 ≤ x.f2 ∧ x.f2 ≤ 1099511627776) && okG x.f0 L
def lsB (L : List LS) : List UInt8 := L.flatMap fun x => (sh x.f0 ++ sh x.f1) ++ sh x.f2
theorem lsB_cons (x : LS) (L : List LS) : lsB (x :: L) = ((sh x.f0 ++ sh x.f1) ++ sh x.f2) ++ lsB L := by simp [lsB]
theorem lsB_app (a b : List LS) : lsB (a ++ b) = lsB a ++ lsB b := by simp [lsB]
def okLs (L : List LS) : Prop := L.length ≤ 5 ∧ okG 0 L = true
instance (L : List LS) : Decidable (okLs L) := inferInstanceAs (Decidable (_ ∧ _))
def lsr (L : List LS) : ByteArray × Int := if okLs L then (lb (lsB L), 0) else (lb [], 2)
theorem lsr_yes {L : List LS} (h : okLs L) : lsr L = (lb (lsB L), 0) := if_pos h
theorem lsr_no {L : List LS} (h : ¬ okLs L) : lsr L = (lb [], 2) := if_neg h
theorem okG_cons {p : Int} {x : LS} {L : List LS} : okG p (x :: L) = true ↔ p < x.f0 ∧ tm x.f0 = true ∧ tm x.f1 = true ∧ (0 ≤ x.f2 ∧ x.f2 ≤ 1099511627776) ∧ okG x.f0 L = true := by
  rw [okG]; simp only [Bool.and_eq_true, decide_eq_true_eq]
  constructor
  · rintro ⟨⟨⟨⟨a, b⟩, c⟩, d⟩, e⟩; exact ⟨a, b, c, d, e⟩
  · rintro ⟨a, b, c, d, e⟩; exact ⟨⟨⟨⟨a, b⟩, c⟩, d⟩, e⟩
theorem rd_app (pre rest : List LS) (x : LS) : rd_T51 (pre ++ x :: rest) (pre.length : Int) = x := by
  unfold rd_T51
  simp
def last (p : Int) (pre : List LS) : Prop := (pre = [] ∧ p = 0) ∨ ∃ q y, pre = q ++ [y] ∧ p = y.f0
theorem last_snoc (pre : List LS) (x : LS) : last x.f0 (pre ++ [x]) := Or.inr ⟨pre, x, rfl, rfl⟩
theorem lj1_bad (x0 x10 : List LS) (acc : ByteArray) (n i a b c : Int) : Ev (fun k => col_Leases.j1 k x0 acc x10 n i true a b c) (lb [], 2) := by
  refine Ev.step (fun k => by rw [col_Leases.j1]) ?_
  exact Ev.pos rfl (Ev.val rfl)
theorem lj1_good (x0 x10 : List LS) (acc : List UInt8) (n i a b c : Int) (r : ByteArray × Int) (hl : acc.length ≤ 4000) (ha : u64 a) (hb : u64 b) (hc : u64 c)
    (hE : Ev (fun k => col_Leases.l0 k x0 (lb (acc ++ ((sh a ++ sh b) ++ sh c))) x10 n (wrap64 (i + 1))) r) : Ev (fun k => col_Leases.j1 k x0 (lb acc) x10 n i false a b c) r := by
  refine Ev.step (fun k => by rw [col_Leases.j1]) ?_
  have l1 := sh_len ha
  have l2 := sh_len hb
  have l3 := sh_len hc
  refine Ev.neg (by simp) (Ev.bind (Sh_ev ha) (Ev.bind (Sh_ev hb) ?_))
  refine Ev.pos (by rw [lb_size, lb_size]; omega) (Ev.bind (Sh_ev hc) ?_)
  rw [lb_append]
  refine Ev.pos (by rw [lb_size, lb_size, List.length_append]; omega) ?_
  rw [lb_append]
  refine Ev.pos (by rw [lb_size, lb_size, List.length_append, List.length_append]; omega) ?_
  rw [lb_append]
  exact hE
theorem leases_l0 : ∀ (rest pre : List LS) (acc : List UInt8) (p : Int), (∀ x ∈ pre ++ rest, wfS x) → (pre ++ rest).length ≤ 40 → acc.length ≤ 30 * pre.length → last p pre →
    Ev (fun k => col_Leases.l0 k (pre ++ rest) (lb acc) (pre ++ rest) ((pre ++ rest).length : Int) (pre.length : Int)) (if okG p rest = true then (lb (acc ++ lsB rest), 0) else (lb [], 2)) := by
  intro rest
  induction rest with
  | nil =>
    intro pre acc p hw hl ha hp
    refine Ev.step (fun k => by rw [col_Leases.l0]) ?_
    refine Ev.neg (by simp) (Ev.val ?_)
    simp [okG, lsB]
  | cons x rest ih =>
    intro pre acc p hw hl ha hp
    have hx : wfS x := hw x (by simp)
    have hlen : (pre ++ x :: rest).length = pre.length + 1 + rest.length := by simp; omega
    rw [hlen] at hl
    refine Ev.step (fun k => by rw [col_Leases.l0]) ?_
    rw [rd_app]
    refine Ev.pos (by omega) (Ev.pos (by omega) (Ev.pos (by omega) (Ev.just (time_f x.f0) ?_)))
    by_cases h1 : tm x.f0 = true
    · refine Ev.pos h1 (Ev.just (time_f x.f1) ?_)
      by_cases h2 : tm x.f1 = true
      · refine Ev.pos h2 ?_
        by_cases h3 : x.f2 > 1099511627776
        · refine Ev.eq (Ev.pos h3 (lj1_bad _ _ _ _ _ _ _ _)) (if_neg (fun e => by have := (okG_cons.1 e).2.2.2.1; omega)).symm
        · refine Ev.neg h3 ?_
          have hgood : p < x.f0 → Ev (fun k => col_Leases.j1 k (pre ++ x :: rest) (lb acc) (pre ++ x :: rest) ((pre ++ x :: rest).length : Int) (pre.length : Int) false x.f0 x.f1 x.f2) (if okG p (x :: rest) = true then (lb (acc ++ lsB (x :: rest)), 0) else (lb [], 2)) := by
            intro h4
            refine lj1_good _ _ _ _ _ _ _ _ _ (by omega) hx.1 hx.2.1 hx.2.2 ?_
            have hI := ih (pre ++ [x]) (acc ++ ((sh x.f0 ++ sh x.f1) ++ sh x.f2)) x.f0 (by simpa using hw) (by simp; omega) (by
              have l1 := sh_len hx.1
              have l2 := sh_len hx.2.1
              have l3 := sh_len hx.2.2
              simp only [List.length_append, List.length_cons, List.length_nil]; omega) (last_snoc _ _)
            rw [List.append_assoc, List.singleton_append] at hI
            have e1 : wrap64 ((pre.length : Int) + 1) = (((pre ++ [x]).length : Nat) : Int) := by rw [w64 _ (by omega) (by omega)]; simp
            rw [e1]
            refine Ev.eq hI ?_
            by_cases h5 : okG x.f0 rest = true
            · rw [if_pos h5, if_pos (okG_cons.2 ⟨h4, h1, h2, ⟨hx.2.2.1, by omega⟩, h5⟩), lsB_cons, List.append_assoc acc]
            · rw [if_neg h5, if_neg (fun e => h5 (okG_cons.1 e).2.2.2.2)]
          rcases hp with ⟨rfl, rfl⟩ | ⟨q, y, rfl, rfl⟩
          · refine Ev.neg (by simp) (hgood (tm_le h1).1)
          · have hq : (q ++ [y]).length = q.length + 1 := by simp
            have e2 : wrap64 (((q ++ [y]).length : Int) - 1) = (q.length : Int) := by rw [hq] at hl ⊢; rw [w64 _ (by omega) (by omega)]; omega
            have e3 : rd_T51 (q ++ [y] ++ x :: rest) (q.length : Int) = y := by rw [List.append_assoc, List.singleton_append]; exact rd_app _ _ _
            rw [e2, e3]
            refine Ev.pos (by rw [hq]; omega) (Ev.pos (by omega) (Ev.pos (by simp; omega) ?_))
            by_cases h4 : y.f0 ≥ x.f0
            · rw [decide_eq_true h4]
              exact Ev.eq (lj1_bad _ _ _ _ _ _ _ _) (if_neg (fun e => by have := (okG_cons.1 e).1; omega)).symm
            · rw [decide_eq_false h4]
              exact hgood (by omega)
      · exact Ev.eq (Ev.neg h2 (lj1_bad _ _ _ _ _ _ _ _)) (if_neg (fun e => h2 (okG_cons.1 e).2.2.1)).symm
    · exact Ev.eq (Ev.neg h1 (lj1_bad _ _ _ _ _ _ _ _)) (if_neg (fun e => h1 (okG_cons.1 e).2.1)).symm
theorem Leases_ev (L : List LS) (hw : ∀ x ∈ L, wfS x) (hl : L.length ≤ 40) : Ev (fun k => col_Leases.f k L) (lsr L) := by
  unfold col_Leases.f
  by_cases h : (L.length : Int) > 5
  · rw [lsr_no (fun e => by have := e.1; omega)]
    exact Ev.pos h (Ev.val rfl)
  · refine Ev.neg h ?_
    have := leases_l0 L [] [] 0 hw hl (by simp) (Or.inl ⟨rfl, rfl⟩)
    refine Ev.eq this ?_
    unfold lsr
    by_cases h2 : okG 0 L = true
    · rw [if_pos h2, if_pos ⟨by omega, h2⟩]; rfl
    · rw [if_neg h2, if_neg (fun e => h2 e.2)]

end Go.Proofs.Yteijlcnjnooiiaa.ColS
