/- col: the reference's reading of leases. -/
import Derived.Test.YteijlcnjnooiiaaPx0
import Derived.Test.YteijlcnjnooiiaaPx16
import Derived.Test.YteijlcnjnooiiaaColR
set_option linter.unusedVariables false
set_option linter.unusedSimpArgs false
namespace Go.Proofs.Yteijlcnjnooiiaa.ColS
open Go.RowKit Go.Proofs.Yteijlcnjnooiiaa.P Go.Proofs.Yteijlcnjnooiiaa.Th Go.Proofs.Yteijlcnjnooiiaa.NumS Go.Proofs.Yteijlcnjnooiiaa.KeyT Go.Proofs.YteijlcnjnooiiaaW.PrintWords Go.Proofs.YteijlcnjnooiiaaW.PrintLast Go.Proofs.YteijlcnjnooiiaaW.PrintMore

theorem rn_le (s : List UInt8) (b : Bool) : (rn s b).2.1.length ≤ s.length ∧ (rn s b).1 < 18446744073709551616 := by
  unfold rn
  cases e : tk s with
  | none => simp
  | some q =>
    obtain ⟨n, r⟩ := q
    have := tk_len e
    cases b
    · simpa using this
    · simp
def rgo : Nat → List LS → List UInt8 → Bool → List LS × Bool
  | 0, l, _, b => (l, b)
  | n + 1, l, s, b => if s.length = 0 ∨ b = true then (l, b) else rgo n (l ++ [(⟨((rn s b).1 : Int), ((rn (rn s b).2.1 (rn s b).2.2).1 : Int), ((rn (rn (rn s b).2.1 (rn s b).2.2).2.1 (rn (rn s b).2.1 (rn s b).2.2).2.2).1 : Int)⟩ : LS)]) (rn (rn (rn s b).2.1 (rn s b).2.2).2.1 (rn (rn s b).2.1 (rn s b).2.2).2.2).2.1 (rn (rn (rn s b).2.1 (rn s b).2.2).2.1 (rn (rn s b).2.1 (rn s b).2.2).2.2).2.2
theorem rgo_wf : ∀ (n : Nat) (l : List LS) (s : List UInt8) (b : Bool), (∀ x ∈ l, wfS x) → (∀ x ∈ (rgo n l s b).1, wfS x) ∧ (rgo n l s b).1.length ≤ l.length + n
  | 0, l, s, b, h => ⟨h, Nat.le_refl _⟩
  | n + 1, l, s, b, h => by
    rw [rgo]
    by_cases hc : s.length = 0 ∨ b = true
    · rw [if_pos hc]; exact ⟨h, by simp⟩
    · rw [if_neg hc]
      have h1 := (rn_le s b).2
      have h2 := (rn_le (rn s b).2.1 (rn s b).2.2).2
      have h3 := (rn_le (rn (rn s b).2.1 (rn s b).2.2).2.1 (rn (rn s b).2.1 (rn s b).2.2).2.2).2
      generalize (rn (rn s b).2.1 (rn s b).2.2) = q2 at h2 h3 ⊢
      generalize rn s b = q1 at h1 ⊢
      generalize (rn q2.2.1 q2.2.2) = q3 at h3 ⊢
      have ih := rgo_wf n (l ++ [(⟨(q1.1 : Int), (q2.1 : Int), (q3.1 : Int)⟩ : LS)]) q3.2.1 q3.2.2 (fun x hx => by
        rcases List.mem_append.1 hx with hx | hx
        · exact h x hx
        · rw [List.mem_singleton] at hx
          subst hx
          exact ⟨⟨by simp only; omega, by simp only; omega⟩, ⟨by simp only; omega, by simp only; omega⟩, ⟨by simp only; omega, by simp only; omega⟩⟩)
      exact ⟨ih.1, by have := ih.2; rw [List.length_append] at this; simp at this; omega⟩
theorem rn_sh {n : Int} (h : u64 n) (r : List UInt8) : rn (sh n ++ r) false = (n.toNat, r, false) := rn_some (tk_short _ r (by have := h.1; have := h.2; omega))
theorem rgo_good : ∀ (L acc : List LS) (n : Nat), L.length ≤ n → (∀ x ∈ L, wfS x) → rgo n acc (lsB L) false = (acc ++ L, false)
  | [], acc, n, _, _ => by
    cases n with
    | zero => simp [rgo]
    | succ n => rw [rgo, if_pos (Or.inl (show (lsB []).length = 0 from rfl))]; simp
  | x :: L, acc, n, hn, hw => by
    obtain ⟨n, rfl⟩ : ∃ m, n = m + 1 := ⟨n - 1, by rw [List.length_cons] at hn; omega⟩
    obtain ⟨w0, w1, w2⟩ := hw x (by simp)
    rw [List.length_cons] at hn
    have hp := sh_pos x.f0
    rw [rgo, lsB_cons, if_neg (fun h => by rcases h with h | h; (simp only [List.length_append] at h; omega); exact absurd h (by simp))]
    rw [List.append_assoc, List.append_assoc, rn_sh w0, rn_sh w1, rn_sh w2]
    simp only
    have e0 : ((x.f0.toNat : Nat) : Int) = x.f0 := Int.toNat_of_nonneg w0.1
    have e1 : ((x.f1.toNat : Nat) : Int) = x.f1 := Int.toNat_of_nonneg w1.1
    have e2 : ((x.f2.toNat : Nat) : Int) = x.f2 := Int.toNat_of_nonneg w2.1
    rw [e0, e1, e2, rgo_good L _ n (by omega) (fun y hy => hw y (by simp [hy]))]
    simp
theorem rgo_ev : ∀ (n : Nat) (l : List LS) (s : List UInt8) (b : Bool), s.length ≤ 140737488351232 → Ev (fun k => screeref15_Unlease.go k n (List.map t56 l) (lb s) b) (List.map t56 (rgo n l s b).1, (rgo n l s b).2)
  | 0, l, s, b, _ => Ev.val rfl
  | n + 1, l, s, b, hs => by
    rw [rgo]
    by_cases hc : s.length = 0 ∨ b = true
    · rw [if_pos hc]
      exact Ev.pos (by rw [lb_size]; exact hc) (Ev.val rfl)
    · rw [if_neg hc]
      have h1 := (rn_le s b).1
      have h2 := (rn_le (rn s b).2.1 (rn s b).2.2).1
      have h3 := (rn_le (rn (rn s b).2.1 (rn s b).2.2).2.1 (rn (rn s b).2.1 (rn s b).2.2).2.2).1
      refine Ev.neg (by rw [lb_size]; exact hc) (Ev.bind (RNum_ev s b hs) (Ev.bind (RNum_ev _ _ (by omega)) (Ev.bind (RNum_ev _ _ (by dsimp only; omega)) ?_)))
      have ih := rgo_ev n (l ++ [(⟨((rn s b).1 : Int), ((rn (rn s b).2.1 (rn s b).2.2).1 : Int), ((rn (rn (rn s b).2.1 (rn s b).2.2).2.1 (rn (rn s b).2.1 (rn s b).2.2).2.2).1 : Int)⟩ : LS)]) _ (rn (rn (rn s b).2.1 (rn s b).2.2).2.1 (rn (rn s b).2.1 (rn s b).2.2).2.2).2.2 (show (rn (rn (rn s b).2.1 (rn s b).2.2).2.1 (rn (rn s b).2.1 (rn s b).2.2).2.2).2.1.length ≤ 140737488351232 by omega)
      rw [List.map_append] at ih
      exact ih
theorem RUnlease_ev (s : List UInt8) (hs : s.length ≤ 140737488351232) : Ev (fun k => screeref15_Unlease.f k (lb s)) (List.map t56 (uls s).1, (uls s).2) := by
  unfold screeref15_Unlease.f
  have hw := rgo_wf 6 [] s false (by simp)
  refine Ev.bind (rgo_ev 6 [] s false hs) ?_
  obtain ⟨o, ho⟩ : ∃ o, rgo 6 [] s false = o := ⟨_, rfl⟩
  rw [ho] at hw ⊢
  obtain ⟨L, b⟩ := o
  have hl : L.length ≤ 40 := by have := hw.2; simp at this; omega
  refine Ev.bind (RLeases_ev L hw.1 hl) ?_
  rcases uls_cases s with hu | ⟨M, hM, hB, hu⟩
  · rw [hu]
    by_cases hc : b = true ∨ (lsr L).2 ≠ 0 ∨ (lsr L).1.toList ≠ (lb s).toList
    · exact Ev.pos hc (Ev.val rfl)
    · exfalso
      apply hc
      by_cases hb : b = true
      · exact Or.inl hb
      · by_cases h2 : (lsr L).2 ≠ 0
        · exact Or.inr (Or.inl h2)
        · right; right
          intro e
          by_cases hk : okLs L
          · rw [lsr_yes hk, lb_toList, lb_toList] at e
            have := uls_good hk
            rw [e, hu] at this
            simp at this
          · rw [lsr_no hk] at h2; simp at h2
  · have hg := rgo_good M [] 6 (by have := hM.1; omega) (okG_u hM.2)
    rw [hB, ho, List.nil_append] at hg
    simp only [Prod.mk.injEq] at hg
    obtain ⟨rfl, rfl⟩ := hg
    rw [hu, lsr_yes hM, hB]
    exact Ev.neg (by simp) (Ev.val rfl)
end Go.Proofs.Yteijlcnjnooiiaa.ColS
