/- block: the law of how short a block is. -/
import Derived.Test.YtcogolbgfkikfaaPx0
import Derived.Test.YtcogolbgfkikfaaPx14
import Derived.Test.YtcogolbgfkikfaaBlkB
set_option linter.unusedVariables false
set_option linter.unusedSimpArgs false
namespace Go.Proofs.Ytcogolbgfkikfaa.BlkS
open Go.RowKit Go.Proofs.Ytcogolbgfkikfaa.P Go.Proofs.Ytcogolbgfkikfaa.Th Go.Proofs.Ytcogolbgfkikfaa.NumS Go.Proofs.YtcogolbgfkikfaaW.PrintWords Go.Proofs.YtcogolbgfkikfaaW.PrintLast Go.Proofs.YtcogolbgfkikfaaW.PrintMore

def vS : List ES → Nat
  | [] => 0
  | x :: l => (bl x.f3).length + vS l
def kS : List ES → Nat
  | [] => 0
  | x :: l => (bl x.f0).length + kS l
def sS : Nat → List UInt8 → List ES → Nat
  | _, _, [] => 0
  | i, p, x :: l => shB i p x + sS (i + 1) (bl x.f0) l
theorem entB_both {n : Nat} {x : ES} (h : okE x = true) (hn : n ≤ (bl x.f0).length) : (bl x.f3).length + (bl x.f0).length ≤ (entB n x).length + n ∧ (entB n x).length + n ≤ (bl x.f3).length + (bl x.f0).length + 10 := by
  have h1 := okE_iff h
  have h2 : (short n).length = 1 := by rw [short_lt n (by omega)]; rfl
  have h3 : (short ((bl x.f0).length - n)).length = 1 := by rw [short_lt _ (by omega)]; rfl
  have h4 : (sh x.f1).length ≤ 6 := short_len6 _ (by omega)
  have h5 : (short (bl x.f3).length).length = 1 := by rw [short_lt _ (by omega)]; rfl
  unfold entB
  simp only [List.length_append, List.length_drop, List.length_cons]
  omega
theorem body_both (l : List ES) : ∀ (i : Nat) (p : List UInt8), (∀ x ∈ l, okE x = true) →
    vS l + kS l ≤ (bodyB i p l).length + sS i p l ∧ (bodyB i p l).length + sS i p l ≤ vS l + kS l + 10 * l.length ∧ sS i p l ≤ kS l ∧ vS l ≤ 100 * l.length ∧ kS l ≤ 100 * l.length := by
  induction l with
  | nil => intro i p _; simp [bodyB, vS, kS, sS]
  | cons x l ih =>
    intro i p h
    have h0 := okE_iff (h x (by simp))
    have h1 := entB_both (h x (by simp)) (shB_le i p x)
    have h2 := ih (i + 1) (bl x.f0) (fun y hy => h y (by simp [hy]))
    have h3 := shB_le i p x
    simp only [bodyB, List.length_append, List.length_cons, vS, kS, sS]
    omega
theorem short_loop (l : List ES) (s : List UInt8) (hl : l.length ≤ 32) (V K D : Nat) (hV : V ≤ 10000) (hK : K ≤ 10000) (hD : D ≤ K) (hs1 : V + K ≤ s.length + D) (hs2 : s.length + D ≤ V + K + 30 * l.length + 16)
    (hk : ∀ x ∈ l, (bl x.f0).length ≤ 1000) :
    ∀ (n i v kk sd : Nat), i + n = l.length → v + vS (l.drop i) = V → kk + kS (l.drop i) = K → sd + sS i (prev l i) (l.drop i) = D →
    Ev (fun k => screelaw09_BlockShort.l0 k l (lb s) (v : Int) (kk : Int) (sd : Int) (l.length : Int) (i : Int)) true := by
  intro n
  induction n with
  | zero =>
    intro i v kk sd hi h1 h2 h3
    rw [List.drop_eq_nil_of_le (by omega)] at h1 h2 h3
    simp only [vS, kS, sS, Nat.add_zero] at h1 h2 h3
    subst h1 h2 h3
    refine Ev.step (fun k => by rw [screelaw09_BlockShort.l0]) ?_
    simp only [lb_size]
    rw [w64 ((v : Int) + (kk : Int)) (by omega) (by omega), w64 ((v : Int) + (kk : Int) - (sd : Int)) (by omega) (by omega), w64 (30 * (l.length : Int)) (by omega) (by omega), w64 ((v : Int) + (kk : Int) - (sd : Int) + 30 * (l.length : Int)) (by omega) (by omega), w64 ((v : Int) + (kk : Int) - (sd : Int) + 30 * (l.length : Int) + 16) (by omega) (by omega)]
    refine Ev.neg (by omega) (Ev.pos (by omega) (Ev.val ?_))
    rw [decide_eq_true (by omega)]
  | succ n ih =>
    intro i v kk sd hi h1 h2 h3
    have h4 : i < l.length := by omega
    rw [List.drop_eq_getElem_cons h4] at h1 h2 h3
    simp only [vS, kS, sS] at h1 h2 h3
    have hx := hk l[i] (List.getElem_mem h4)
    clear hs1 hs2
    have hv : v + (bl l[i].f3).length ≤ 10000 := by omega
    have hkk : kk + (bl l[i].f0).length ≤ 10000 := by omega
    have hsd : sd + shB i (prev l i) l[i] ≤ 10000 := by omega
    have et : Int.tmod (i : Int) 4 = ((i % 4 : Nat) : Int) := by clear h1 h2 h3 ih; rw [Int.tmod_eq_emod_of_nonneg (by omega)]; omega
    have e1 : wrap64 ((v : Int) + ((bl l[i].f3).length : Int)) = ((v + (bl l[i].f3).length : Nat) : Int) := by clear h1 h2 h3 ih; rw [w64 _ (by omega) (by omega)]; omega
    have e2 : wrap64 ((kk : Int) + ((bl l[i].f0).length : Int)) = ((kk + (bl l[i].f0).length : Nat) : Int) := by clear h1 h2 h3 ih et e1; rw [w64 _ (by omega) (by omega)]; omega
    have e3 : wrap64 ((i : Int) + 1) = ((i + 1 : Nat) : Int) := by clear h1 h2 h3 ih et e1 e2; rw [w64 _ (by omega) (by omega)]; omega
    have hp := prev_succ h4
    have next : ∀ sd', sd' = sd + shB i (prev l i) l[i] → Ev (fun k => screelaw09_BlockShort.l0 k l (lb s) ((v + (bl l[i].f3).length : Nat) : Int) ((kk + (bl l[i].f0).length : Nat) : Int) (sd' : Int) (l.length : Int) ((i + 1 : Nat) : Int)) true := by
      intro sd' h
      clear e1 e2 e3 et
      refine ih (i + 1) _ _ sd' (by omega) (by omega) (by omega) ?_
      rw [hp]; omega
    clear h1 h2 h3 ih
    refine Ev.step (fun k => by rw [screelaw09_BlockShort.l0]) ?_
    refine Ev.pos (by clear e1 e2 e3 et; omega) (Ev.pos (by clear e1 e2 e3 et; omega) (Ev.pos (by clear e1 e2 e3 et; omega) ?_))
    rw [rdE h4, size_bl, size_bl, et, e1, e2, e3]
    clear e1 e2 e3 et
    by_cases hm : i % 4 = 0
    · refine Ev.neg (by rw [hm]; decide) ?_
      refine next sd ?_
      unfold shB; rw [if_pos hm]; rfl
    · obtain ⟨j, rfl⟩ : ∃ j, i = j + 1 := ⟨i - 1, by omega⟩
      have h5 : j < l.length := by omega
      have e4 : wrap64 (((j + 1 : Nat) : Int) - 1) = (j : Int) := by rw [w64 _ (by omega) (by omega)]; omega
      rw [e4]
      refine Ev.pos (by omega) (Ev.pos (by omega) (Ev.pos (by omega) ?_))
      rw [rdE h5]
      have hsh := Shared_ev (bl l[j].f0) (bl l[j + 1].f0) (by have := hk l[j] (List.getElem_mem h5); omega)
      rw [lb_bl, lb_bl] at hsh
      refine Ev.bind hsh ?_
      have hq := prev_succ h5
      have hc : shB (j + 1) (prev l (j + 1)) l[j + 1] = comm (bl l[j].f0) (bl l[j + 1].f0) := by unfold shB; rw [if_neg hm, hq]
      rw [hc] at hsd
      have e5 : wrap64 ((sd : Int) + ((comm (bl l[j].f0) (bl l[j + 1].f0) : Nat) : Int)) = ((sd + comm (bl l[j].f0) (bl l[j + 1].f0) : Nat) : Int) := by rw [w64 _ (by omega) (by omega)]; omega
      rw [e5]
      exact next _ (by rw [hc])
theorem BlockShort : ∀ (l0 : List ES), (((∀ x ∈ l0, (x.f0.size ≤ 140737488351232 ∧ (Lit.int .u64 x.f1).wf = true ∧ True ∧ x.f3.size ≤ 140737488351232)) ∧ l0.length * 48 ≤ 140737488351232)) → ∃ k, screelaw09_BlockShort.f k l0 = some true := by
  intro l _
  refine Ev.rounds ?_
  unfold screelaw09_BlockShort.f
  refine Ev.bind awake_ev (Ev.pos rfl (Ev.bind (large_ev l) ?_))
  cases hg : lrg l with
  | true => exact Ev.pos rfl (Ev.val rfl)
  | false =>
    refine Ev.neg (by simp) ?_
    have hl := (lrg_no hg).1
    have e2 := Encode_ev l (by omega)
    rcases encr_cases l with ⟨hr, e3⟩ | ⟨h3, e3⟩
    · rw [e3] at e2
      refine Ev.bind e2 (Ev.pos rfl ?_)
      have hall := rowB_all hr
      have hn := rowB_len hr
      have h1 := body_both l 0 [] hall
      have h2 := encB_eq l
      unfold strt at h2
      refine short_loop l (encB l) (by omega) (vS l) (kS l) (sS 0 [] l) (by omega) (by omega) (by omega) (by omega) (by omega) (fun x hx => ?_) l.length 0 0 0 0 (by omega) (by simp) (by simp) (by simp [prev])
      have := okE_iff (hall x hx); omega
    · rw [e3] at e2
      exact Ev.bind e2 (Ev.neg (by simp) (Ev.val rfl))
end Go.Proofs.Ytcogolbgfkikfaa.BlkS
