/- col: the reference's locks, writes and leases; own. -/
import Derived.Test.YteijlcnjnooiiaaPx0
import Derived.Test.YteijlcnjnooiiaaPx11
import Derived.Test.YteijlcnjnooiiaaPx12
import Derived.Test.YteijlcnjnooiiaaPx14
import Derived.Test.YteijlcnjnooiiaaPx15
import Derived.Test.YteijlcnjnooiiaaColN
import Derived.Test.YteijlcnjnooiiaaNumR
set_option linter.unusedVariables false
set_option linter.unusedSimpArgs false
namespace Go.Proofs.Yteijlcnjnooiiaa.ColS
open Go.RowKit Go.Proofs.Yteijlcnjnooiiaa.P Go.Proofs.Yteijlcnjnooiiaa.Th Go.Proofs.Yteijlcnjnooiiaa.NumS Go.Proofs.Yteijlcnjnooiiaa.KeyT Go.Proofs.YteijlcnjnooiiaaW.PrintWords Go.Proofs.YteijlcnjnooiiaaW.PrintLast Go.Proofs.YteijlcnjnooiiaaW.PrintMore

theorem rtime_f (a : Int) : screeref15_time.f a = some (tm a) := by
  unfold screeref15_time.f tm
  by_cases h : a ≥ 1
  · rw [if_pos h]; congr 1; rw [Bool.eq_iff_iff]; simp only [decide_eq_true_eq]; omega
  · rw [if_neg h]; congr 1; symm; rw [decide_eq_false_iff_not]; omega
theorem RMay_f (u : List UInt8) : screeref02_May.f (lb u) = some (mayK u) := by
  unfold screeref02_May.f mayK
  rw [lb_size]
  by_cases h : (u.length : Int) ≥ 1
  · rw [if_pos h]; congr 1; rw [Bool.eq_iff_iff]; simp only [decide_eq_true_eq]; omega
  · rw [if_neg h]; congr 1; symm; rw [decide_eq_false_iff_not]; omega
theorem RSh_ev {n : Int} (h : u64 n) : Ev (fun k => screeref01_Short.f k n) (lb (sh n)) := by
  obtain ⟨m, rfl⟩ := Int.eq_ofNat_of_zero_le h.1
  exact RShort_ev m (by have := h.2; omega)
theorem rlj_bad (p : ByteArray) (st kd at_ : Int) : Ev (fun k => screeref15_Lock.j0 k true p st kd at_) (lb [], 2) := by
  refine Ev.step (fun k => by rw [screeref15_Lock.j0]) ?_
  exact Ev.pos rfl (Ev.val rfl)
theorem rlj_good (p : List UInt8) (st kd at_ : Int) (hp : p.length ≤ 140737488351232) (hs : u64 st) (ha : u64 at_) :
    Ev (fun k => screeref15_Lock.j0 k false (lb p) st kd at_) (lb (lkB p st kd at_), 0) := by
  refine Ev.step (fun k => by rw [screeref15_Lock.j0]) ?_
  have l1 := sh_len hs
  have l2 := sh_len ha
  refine Ev.neg (by simp) (Ev.just rfl (Ev.bind (RSh_ev hs) ?_))
  rw [son]
  refine Ev.pos (by rw [lb_size, lb_size, ofI_len]; simp; omega) (Ev.bind (RSh_ev ha) ?_)
  rw [lb_append]
  refine Ev.pos (by rw [lb_size, lb_size, List.length_append, ofI_len]; simp; omega) ?_
  rw [lb_append]
  refine Ev.pos (by rw [lb_size, lb_size, List.length_append, List.length_append, ofI_len]; simp; omega) ?_
  rw [lb_append]
  exact Ev.val rfl
theorem RLock_ev (p : List UInt8) (st kd at_ : Int) (hp : p.length ≤ 140737488351232) (hs : u64 st) (ha : u64 at_) :
    Ev (fun k => screeref15_Lock.f k (lb p) st kd at_) (lkr p st kd at_) := by
  unfold screeref15_Lock.f
  refine Ev.just (RMay_f p) ?_
  by_cases h1 : mayK p = true
  · refine Ev.pos h1 (Ev.just (rtime_f st) ?_)
    by_cases h2 : tm st = true
    · refine Ev.pos h2 ?_
      by_cases h3 : kd < 1
      · rw [lkr_no (fun e => by have := e.2.2.1; omega)]
        exact Ev.pos h3 (rlj_bad _ _ _ _)
      · refine Ev.neg h3 ?_
        by_cases h4 : kd > 2
        · rw [lkr_no (fun e => by have := e.2.2.1; omega)]
          exact Ev.pos h4 (rlj_bad _ _ _ _)
        · refine Ev.neg h4 ?_
          by_cases h5 : at_ > 1099511627776
          · rw [decide_eq_true h5, lkr_no (fun e => by have := e.2.2.2; omega)]
            exact rlj_bad _ _ _ _
          · rw [decide_eq_false h5, lkr_yes ⟨h1, h2, by omega, by omega⟩]
            exact rlj_good p st kd at_ hp hs ha
    · rw [lkr_no (fun e => h2 e.2.1)]
      exact Ev.neg h2 (rlj_bad _ _ _ _)
  · rw [lkr_no (fun e => h1 e.1)]
    exact Ev.neg h1 (rlj_bad _ _ _ _)

theorem RWrite_ev (st kd : Int) : Ev (fun k => screeref15_Write.f k st kd) (wrr st kd) := by
  unfold screeref15_Write.f
  refine Ev.just (rtime_f st) ?_
  by_cases h2 : tm st = true
  · refine Ev.pos h2 ?_
    by_cases h3 : kd < 1
    · rw [wrr_no (fun e => by have := e.2.1; omega)]
      exact Ev.pos h3 (Ev.val rfl)
    · refine Ev.neg h3 ?_
      by_cases h4 : kd > 3
      · rw [wrr_no (fun e => by have := e.2.2; omega)]
        exact Ev.pos h4 (Ev.val rfl)
      · rw [wrr_yes ⟨h2, by omega, by omega⟩]
        have l1 := sh_len (tm_u h2)
        refine Ev.neg h4 (Ev.just rfl (Ev.bind (RSh_ev (tm_u h2)) ?_))
        rw [son]
        refine Ev.pos (by rw [lb_size, lb_size, ofI_len]; simp; omega) ?_
        rw [lb_append]
        exact Ev.val rfl
  · rw [wrr_no (fun e => h2 e.1)]
    exact Ev.neg h2 (Ev.val rfl)

/-! ### the reference's leases -/
theorem rrd_app (pre rest : List LS) (x : LS) : rd_T56 (List.map t56 (pre ++ x :: rest)) (pre.length : Int) = t56 x := by
  unfold rd_T56
  simp
theorem rlj1_bad (x0 : List RS) (acc : ByteArray) (i a b c : Int) : Ev (fun k => screeref15_Leases.j1 k x0 acc i true a b c) (lb [], 2) := by
  refine Ev.step (fun k => by rw [screeref15_Leases.j1]) ?_
  exact Ev.pos rfl (Ev.val rfl)
theorem rlj1_good (x0 : List RS) (acc : List UInt8) (i a b c : Int) (r : ByteArray × Int) (hl : acc.length ≤ 4000) (ha : u64 a) (hb : u64 b) (hc : u64 c)
    (hE : Ev (fun k => screeref15_Leases.l0 k x0 (lb (acc ++ ((sh a ++ sh b) ++ sh c))) (wrap64 (i + 1))) r) : Ev (fun k => screeref15_Leases.j1 k x0 (lb acc) i false a b c) r := by
  refine Ev.step (fun k => by rw [screeref15_Leases.j1]) ?_
  have l1 := sh_len ha
  have l2 := sh_len hb
  have l3 := sh_len hc
  refine Ev.neg (by simp) (Ev.bind (RSh_ev ha) (Ev.bind (RSh_ev hb) ?_))
  refine Ev.pos (by rw [lb_size, lb_size]; omega) (Ev.bind (RSh_ev hc) ?_)
  rw [lb_append]
  refine Ev.pos (by rw [lb_size, lb_size, List.length_append]; omega) ?_
  rw [lb_append]
  refine Ev.pos (by rw [lb_size, lb_size, List.length_append, List.length_append]; omega) ?_
  rw [lb_append]
  exact hE
theorem rleases_l0 : ∀ (rest pre : List LS) (acc : List UInt8) (p : Int), (∀ x ∈ pre ++ rest, wfS x) → (pre ++ rest).length ≤ 40 → acc.length ≤ 30 * pre.length → last p pre →
    Ev (fun k => screeref15_Leases.l0 k (List.map t56 (pre ++ rest)) (lb acc) (pre.length : Int)) (if pre.length + rest.length ≤ 5 ∧ okG p rest = true ∨ rest = [] then (lb (acc ++ lsB rest), 0) else (lb [], 2)) := by
  intro rest
  induction rest with
  | nil =>
    intro pre acc p hw hl ha hp
    refine Ev.step (fun k => by rw [screeref15_Leases.l0]) ?_
    refine Ev.neg (by simp) (Ev.val ?_)
    simp [lsB]
  | cons x rest ih =>
    intro pre acc p hw hl ha hp
    have hx : wfS x := hw x (by simp)
    have hlen : (pre ++ x :: rest).length = pre.length + 1 + rest.length := by simp; omega
    have hlen2 : (List.map t56 (pre ++ x :: rest)).length = pre.length + 1 + rest.length := by rw [List.length_map]; exact hlen
    rw [hlen] at hl
    refine Ev.step (fun k => by rw [screeref15_Leases.l0]) ?_
    rw [rrd_app]
    have e0 : ∀ {P : Prop}, ¬ P → ¬ (P ∨ x :: rest = []) := fun h e => by rcases e with e | e; exact h e; simp at e
    refine Ev.pos (by rw [hlen2]; omega) (Ev.pos (by omega) ?_)
    by_cases h0 : (pre.length : Int) > 4
    · exact Ev.eq (Ev.pos h0 (rlj1_bad _ _ _ _ _ _)) (if_neg (e0 (fun e => by have := e.1; simp only [List.length_cons] at this; omega))).symm
    refine Ev.neg h0 (Ev.just (rtime_f x.f0) ?_)
    by_cases h1 : tm x.f0 = true
    · refine Ev.pos h1 (Ev.just (rtime_f x.f1) ?_)
      by_cases h2 : tm x.f1 = true
      · refine Ev.pos h2 ?_
        by_cases h3 : x.f2 > 1099511627776
        · refine Ev.eq (Ev.pos h3 (rlj1_bad _ _ _ _ _ _)) (if_neg (e0 (fun e => by have := (okG_cons.1 e.2).2.2.2.1; omega))).symm
        · refine Ev.neg h3 ?_
          have hgood : p < x.f0 → Ev (fun k => screeref15_Leases.j1 k (List.map t56 (pre ++ x :: rest)) (lb acc) (pre.length : Int) false x.f0 x.f1 x.f2) (if pre.length + (x :: rest).length ≤ 5 ∧ okG p (x :: rest) = true ∨ x :: rest = [] then (lb (acc ++ lsB (x :: rest)), 0) else (lb [], 2)) := by
            intro h4
            refine rlj1_good _ _ _ _ _ _ _ (by omega) hx.1 hx.2.1 hx.2.2 ?_
            have hI := ih (pre ++ [x]) (acc ++ ((sh x.f0 ++ sh x.f1) ++ sh x.f2)) x.f0 (by simpa using hw) (by simp; omega) (by
              have l1 := sh_len hx.1
              have l2 := sh_len hx.2.1
              have l3 := sh_len hx.2.2
              simp only [List.length_append, List.length_cons, List.length_nil]; omega) (last_snoc _ _)
            rw [List.append_assoc, List.singleton_append] at hI
            have e1 : wrap64 ((pre.length : Int) + 1) = (((pre ++ [x]).length : Nat) : Int) := by rw [w64 _ (by omega) (by omega)]; simp
            rw [e1]
            refine Ev.eq hI ?_
            have el : (pre ++ [x]).length = pre.length + 1 := by simp
            rw [el]
            by_cases h5 : pre.length + 1 + rest.length ≤ 5 ∧ okG x.f0 rest = true ∨ rest = []
            · have h6 : pre.length + (x :: rest).length ≤ 5 ∧ okG p (x :: rest) = true ∨ x :: rest = [] := by
                refine Or.inl ?_
                rcases h5 with h5 | h5
                · exact ⟨by simp only [List.length_cons]; omega, okG_cons.2 ⟨h4, h1, h2, ⟨hx.2.2.1, by omega⟩, h5.2⟩⟩
                · subst h5
                  exact ⟨by simp; omega, okG_cons.2 ⟨h4, h1, h2, ⟨hx.2.2.1, by omega⟩, rfl⟩⟩
              rw [if_pos h5, if_pos h6, lsB_cons, List.append_assoc acc]
            · rw [if_neg h5, if_neg (e0 (fun e => h5 (Or.inl ⟨by have := e.1; simp only [List.length_cons] at this; omega, (okG_cons.1 e.2).2.2.2.2⟩)))]
          rcases hp with ⟨rfl, rfl⟩ | ⟨q, y, rfl, rfl⟩
          · refine Ev.neg (by simp) (hgood (tm_le h1).1)
          · have hq : (q ++ [y]).length = q.length + 1 := by simp
            have e2 : wrap64 (((q ++ [y]).length : Int) - 1) = (q.length : Int) := by rw [hq] at hl ⊢; rw [w64 _ (by omega) (by omega)]; omega
            have e3 : rd_T56 (List.map t56 (q ++ [y] ++ x :: rest)) (q.length : Int) = t56 y := by rw [List.append_assoc, List.singleton_append]; exact rrd_app _ _ _
            rw [e2, e3]
            refine Ev.pos (by rw [hq]; omega) (Ev.pos (by omega) (Ev.pos (by simp; omega) ?_))
            by_cases h4 : y.f0 ≥ x.f0
            · rw [show decide ((t56 y).f0 ≥ (t56 x).f0) = true from decide_eq_true h4]
              exact Ev.eq (rlj1_bad _ _ _ _ _ _) (if_neg (e0 (fun e => by have := (okG_cons.1 e.2).1; omega))).symm
            · rw [show decide ((t56 y).f0 ≥ (t56 x).f0) = false from decide_eq_false h4]
              exact hgood (by omega)
      · exact Ev.eq (Ev.neg h2 (rlj1_bad _ _ _ _ _ _)) (if_neg (e0 (fun e => h2 (okG_cons.1 e.2).2.2.1))).symm
    · exact Ev.eq (Ev.neg h1 (rlj1_bad _ _ _ _ _ _)) (if_neg (e0 (fun e => h1 (okG_cons.1 e.2).2.1))).symm
theorem RLeases_ev (L : List LS) (hw : ∀ x ∈ L, wfS x) (hl : L.length ≤ 40) : Ev (fun k => screeref15_Leases.f k (List.map t56 L)) (lsr L) := by
  unfold screeref15_Leases.f
  have := rleases_l0 L [] [] 0 hw hl (by simp) (Or.inl ⟨rfl, rfl⟩)
  refine Ev.eq this ?_
  unfold lsr
  have e : ([] : List LS).length + L.length ≤ 5 ↔ L.length ≤ 5 := by simp
  by_cases h2 : okLs L
  · rw [if_pos (Or.inl ⟨e.2 h2.1, h2.2⟩), if_pos h2]; rfl
  · rw [if_neg h2, if_neg (fun o => h2 (by
      rcases o with o | o
      · exact ⟨e.1 o.1, o.2⟩
      · subst o; exact ⟨by simp, rfl⟩))]
end Go.Proofs.Yteijlcnjnooiiaa.ColS
