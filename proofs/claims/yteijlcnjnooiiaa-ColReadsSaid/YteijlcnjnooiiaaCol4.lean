/- col: leases that are read; what is awake; own and Same. -/
import Derived.Test.YteijlcnjnooiiaaPx0
import Derived.Test.YteijlcnjnooiiaaPx10
import Derived.Test.YteijlcnjnooiiaaPx11
import Derived.Test.YteijlcnjnooiiaaCol3
set_option linter.unusedVariables false
set_option linter.unusedSimpArgs false
namespace Go.Proofs.Yteijlcnjnooiiaa.ColS
open Go.RowKit Go.Proofs.Yteijlcnjnooiiaa.P Go.Proofs.Yteijlcnjnooiiaa.Th Go.Proofs.Yteijlcnjnooiiaa.NumS Go.Proofs.Yteijlcnjnooiiaa.KeyT Go.Proofs.YteijlcnjnooiiaaW.PrintWords Go.Proofs.YteijlcnjnooiiaaW.PrintLast Go.Proofs.YteijlcnjnooiiaaW.PrintMore

def lz : Nat → List LS → List UInt8 → Option (List LS)
  | 0, acc, s => some acc
  | n + 1, acc, s => if s = [] then some acc else match nums 3 s with
    | some ([a, b, c], r) => lz n (acc ++ [(⟨(a : Int), (b : Int), (c : Int)⟩ : LS)]) r
    | _ => none
def uls (s : List UInt8) : List LS × Int := match lz 6 [] s with
  | none => ([], 2)
  | some L => if okLs L ∧ lsB L = s then (L, 0) else ([], 2)
theorem nums3 {t r : List UInt8} {l : List Nat} (h : nums 3 t = some (l, r)) : ∃ a b c, l = [a, b, c] ∧ a < 18446744073709551616 ∧ b < 18446744073709551616 ∧ c < 18446744073709551616 ∧ r.length ≤ t.length := by
  obtain ⟨h1, h2, h3⟩ := (nums_iff _ _ _ _).1 h
  match l, h1 with
  | [a, b, c], _ => exact ⟨a, b, c, rfl, h2 a (by simp), h2 b (by simp), h2 c (by simp), by rw [h3]; simp; omega⟩
theorem Chk_ev (s : List UInt8) (L : List LS) (hw : ∀ x ∈ L, wfS x) (hl : L.length ≤ 40) :
    Ev (fun k => col_Unlease.c k L (lb s)) (if okLs L ∧ lsB L = s then (L, 0) else ([], 2)) := by
  unfold col_Unlease.c
  refine Ev.bind (Leases_ev L hw hl) ?_
  by_cases h1 : okLs L
  · rw [lsr_yes h1]
    by_cases h2 : lsB L = s
    · refine Ev.eq ?_ (if_pos ⟨h1, h2⟩).symm
      exact Ev.neg (by simp [lb_toList, h2]) (Ev.val rfl)
    · refine Ev.eq ?_ (if_neg (fun e => h2 e.2)).symm
      exact Ev.pos (by simp [lb_toList, h2]) (Ev.val rfl)
  · rw [lsr_no h1]
    refine Ev.eq ?_ (if_neg (fun e => h1 e.1)).symm
    exact Ev.pos (by simp) (Ev.val rfl)
theorem unl_l0 (s0 : List UInt8) : ∀ (n : Nat) (acc : List LS) (s : List UInt8), acc.length + n = 6 → (∀ x ∈ acc, wfS x) → s.length ≤ 140737488351232 →
    Ev (fun k => col_Unlease.l0 k (lb s0) acc (lb s)) (match lz n acc s with
      | none => ([], 2)
      | some L => if okLs L ∧ lsB L = s0 then (L, 0) else ([], 2)) := by
  intro n
  induction n with
  | zero =>
    intro acc s hn hw hs
    have hend : Ev (fun k => col_Unlease.j1 k (lb s0) acc (lb s) false) (if okLs acc ∧ lsB acc = s0 then (acc, 0) else ([], 2)) := by
      refine Ev.step (fun k => by rw [col_Unlease.j1]) ?_
      exact Ev.neg (by simp) (Ev.bind (Chk_ev s0 acc hw (by omega)) (Ev.val rfl))
    refine Ev.step (fun k => by rw [col_Unlease.l0]) ?_
    rw [lz]
    by_cases h : (lb s).toList = ([] : List UInt8)
    · exact Ev.pos h hend
    · refine Ev.neg h ?_
      rw [decide_eq_false (by omega)]
      exact hend
  | succ n ih =>
    intro acc s hn hw hs
    have hend : Ev (fun k => col_Unlease.j1 k (lb s0) acc (lb s) false) (if okLs acc ∧ lsB acc = s0 then (acc, 0) else ([], 2)) := by
      refine Ev.step (fun k => by rw [col_Unlease.j1]) ?_
      exact Ev.neg (by simp) (Ev.bind (Chk_ev s0 acc hw (by omega)) (Ev.val rfl))
    refine Ev.step (fun k => by rw [col_Unlease.l0]) ?_
    rw [lz]
    by_cases h : s = []
    · rw [if_pos h]
      exact Ev.pos (by rw [lb_toList]; exact h) hend
    · rw [if_neg h]
      refine Ev.neg (by rw [lb_toList]; exact h) ?_
      rw [decide_eq_true (by omega)]
      refine Ev.step (fun k => by rw [col_Unlease.j1]) ?_
      refine Ev.pos rfl (Ev.bind (numbers_ev 3 s hs (by omega)) ?_)
      cases e : nums 3 s with
      | none => exact Ev.neg (by simp [nres]) (Ev.val rfl)
      | some q =>
        obtain ⟨l, r⟩ := q
        obtain ⟨a, b, c, rfl, ha, hb, hc, hr⟩ := nums3 e
        refine Ev.pos (by simp [nres]) (Ev.pos (by simp [nres]) (Ev.pos (by simp [nres]) (Ev.pos (by simp [nres]) (Ev.pos (by omega) ?_))))
        have hI := ih (acc ++ [(⟨(a : Int), (b : Int), (c : Int)⟩ : LS)]) r (by simp; omega) (by
          intro x hx
          rcases List.mem_append.1 hx with hx | hx
          · exact hw x hx
          · simp only [List.mem_cons, List.not_mem_nil, or_false] at hx
            subst hx
            exact ⟨⟨by simp, by simp; omega⟩, ⟨by simp, by simp; omega⟩, ⟨by simp, by simp; omega⟩⟩) (by omega)
        exact hI
theorem Unlease_ev (s : List UInt8) (hs : s.length ≤ 140737488351232) : Ev (fun k => col_Unlease.f k (lb s)) (uls s) :=
  unl_l0 s 6 [] s rfl (by simp) hs
theorem okG_u {p : Int} {L : List LS} (h : okG p L = true) : ∀ x ∈ L, wfS x := by
  induction L generalizing p with
  | nil => simp
  | cons y L ih =>
    obtain ⟨h1, h2, h3, h4, h5⟩ := okG_cons.1 h
    intro x hx
    rcases List.mem_cons.1 hx with rfl | hx
    · exact ⟨tm_u h2, tm_u h3, ⟨h4.1, by omega⟩⟩
    · exact ih h5 x hx
theorem lz_good : ∀ (L acc : List LS) (n : Nat), acc.length + n = 6 → acc.length + L.length ≤ 5 → (∀ x ∈ L, wfS x) → lz n acc (lsB L) = some (acc ++ L) := by
  intro L
  induction L with
  | nil =>
    intro acc n hn hl hw
    cases n with
    | zero => simp [lz]
    | succ n => rw [lz, if_pos (show lsB [] = [] from rfl), List.append_nil]
  | cons x L ih =>
    intro acc n hn hl hw
    cases n with
    | zero => simp at hl; omega
    | succ n =>
      have hx := hw x (by simp)
      obtain ⟨a, ha⟩ := Int.eq_ofNat_of_zero_le hx.1.1
      obtain ⟨b, hb⟩ := Int.eq_ofNat_of_zero_le hx.2.1.1
      obtain ⟨c, hc⟩ := Int.eq_ofNat_of_zero_le hx.2.2.1
      have e4 : nums 3 (lsB (x :: L)) = some ([a, b, c], lsB L) := by
        refine (nums_iff _ _ _ _).2 ⟨rfl, ?_, ?_⟩
        · intro y hy
          have h1 := hx.1.2
          have h2 := hx.2.1.2
          have h3 := hx.2.2.2
          simp only [List.mem_cons, List.not_mem_nil, or_false] at hy
          rcases hy with rfl | rfl | rfl <;> omega
        · rw [lsB_cons]; unfold sh; rw [ha, hb, hc]; simp
      have hne : ¬ lsB (x :: L) = [] := by
        intro e
        have h9 := congrArg List.length e
        rw [lsB_cons] at h9
        have h8 := sh_pos x.f0
        simp only [List.length_append, List.length_nil] at h9
        omega
      rw [lz, if_neg hne, e4]
      simp only
      have hxe : (⟨(a : Int), (b : Int), (c : Int)⟩ : LS) = x := by
        obtain ⟨x0, x1, x2⟩ := x
        simp only at ha hb hc
        rw [ha, hb, hc]
      rw [hxe, ih (acc ++ [x]) n (by simp; omega) (by simp at hl ⊢; omega) (fun y hy => hw y (by simp [hy]))]
      simp
theorem uls_good {L : List LS} (h : okLs L) : uls (lsB L) = (L, 0) := by
  unfold uls
  rw [lz_good L [] 6 rfl (by simpa using h.1) (okG_u h.2)]
  exact if_pos ⟨h, rfl⟩
theorem uls_cases (s : List UInt8) : uls s = ([], 2) ∨ ∃ L, okLs L ∧ lsB L = s ∧ uls s = (L, 0) := by
  unfold uls
  cases lz 6 [] s with
  | none => exact Or.inl rfl
  | some L =>
    simp only
    by_cases h : okLs L ∧ lsB L = s
    · rw [if_pos h]; exact Or.inr ⟨L, h.1, h.2, rfl⟩
    · rw [if_neg h]; exact Or.inl rfl

/-! ### what is awake -/
theorem s1 : short 1 = [1] := by rw [short_lt _ (by omega)]; rfl
theorem s2 : short 2 = [2] := by rw [short_lt _ (by omega)]; rfl
theorem s3 : short 3 = [3] := by rw [short_lt _ (by omega)]; rfl
theorem s4 : short 4 = [4] := by rw [short_lt _ (by omega)]; rfl
theorem s5 : short 5 = [5] := by rw [short_lt _ (by omega)]; rfl
theorem s7 : short 7 = [7] := by rw [short_lt _ (by omega)]; rfl
theorem s300 : short 300 = [172, 2] := by rw [short_ge _ (by omega), short_lt _ (by omega)]; rfl
theorem awake_ev : Ev (fun k => screelaw15_awake.f k) true := by
  unfold screelaw15_awake.f
  have o1 : okL [97, 98] 300 1 7 := by decide
  have b1 : lkB [97, 98] 300 1 7 = [1, 172, 2, 7, 97, 98] := by
    show ((ofI [1 % 256] ++ short 300) ++ short 7) ++ [97, 98] = _
    rw [s300, s7]; rfl
  have o2 : okW 5 3 := by decide
  have b2 : wrB 5 3 = [3, 5] := by
    show ofI [3 % 256] ++ short 5 = _
    rw [s5]; rfl
  have o3 : okLs [⟨1, 2, 3⟩, ⟨4, 2, 300⟩] := by decide
  have b3 : lsB [⟨1, 2, 3⟩, ⟨4, 2, 300⟩] = [1, 2, 3, 4, 2, 172, 2] := by
    show ((short 1 ++ short 2) ++ short 3) ++ (((short 4 ++ short 2) ++ short 300) ++ []) = _
    rw [s300, s1, s2, s3, s4]; rfl
  have o4 : ¬ okL [] 0 0 0 := by decide
  have E1 := Lock_ev [97, 98] 300 1 7 (by simp) ⟨by omega, by omega⟩ ⟨by omega, by omega⟩
  rw [lkr_yes o1, b1] at E1
  have E2 := Unlock_ev [1, 172, 2, 7, 97, 98] (by simp)
  rw [← b1, ulk_good o1 (by omega), b1] at E2
  have E3 := Write_ev 5 3
  rw [wrr_yes o2, b2] at E3
  have E4 := Unwrite_ev [3, 5] (by simp)
  rw [← b2, uwr_good o2, b2] at E4
  have E5 := Leases_ev [⟨1, 2, 3⟩, ⟨4, 2, 300⟩] (okG_u o3.2) (by simp)
  rw [lsr_yes o3, b3] at E5
  have E6 := Unlease_ev [1, 2, 3, 4, 2, 172, 2] (by simp)
  rw [← b3, uls_good o3, b3] at E6
  have E7 := Lock_ev [] 0 0 0 (by simp) ⟨by omega, by omega⟩ ⟨by omega, by omega⟩
  rw [lkr_no o4] at E7
  have E8 := Unwrite_ev [] (by simp)
  refine Ev.bind E1 (Ev.bind E2 (Ev.bind E3 (Ev.bind E4 (Ev.just rfl (Ev.bind E5 (Ev.bind E6 (Ev.bind E7 (Ev.bind E8 ?_))))))))
  refine Ev.pos (lb_toList _) (Ev.pos rfl (Ev.pos (by simp [lb_toList]) (Ev.pos rfl (Ev.pos (lb_toList _) (Ev.pos rfl (Ev.pos rfl (Ev.pos rfl (Ev.pos rfl ?_))))))))
  refine Ev.pos (lb_toList _) (Ev.pos rfl (Ev.pos rfl (Ev.pos (by decide) (Ev.pos (by decide) (Ev.pos (by decide) (Ev.pos rfl (Ev.pos rfl (Ev.pos rfl (Ev.val rfl)))))))))
end Go.Proofs.Yteijlcnjnooiiaa.ColS
