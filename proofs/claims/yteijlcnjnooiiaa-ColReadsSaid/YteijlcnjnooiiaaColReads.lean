/- col: the law ColReads. -/
import Derived.Test.YteijlcnjnooiiaaPx0
import Derived.Test.YteijlcnjnooiiaaPx16
import Derived.Test.YteijlcnjnooiiaaPx17
import Derived.Test.YteijlcnjnooiiaaColU
set_option linter.unusedVariables false
set_option linter.unusedSimpArgs false
namespace Go.Proofs.Yteijlcnjnooiiaa.ColS
open Go.RowKit Go.Proofs.Yteijlcnjnooiiaa.P Go.Proofs.Yteijlcnjnooiiaa.Th Go.Proofs.Yteijlcnjnooiiaa.NumS Go.Proofs.Yteijlcnjnooiiaa.KeyT Go.Proofs.YteijlcnjnooiiaaW.PrintWords Go.Proofs.YteijlcnjnooiiaaW.PrintLast Go.Proofs.YteijlcnjnooiiaaW.PrintMore

theorem Same_l0 (X : List RS) (hX : X.length ≤ 40) : ∀ (n i : Nat), i + n = X.length → Ev (fun k => screeref15_Same.l0 k X X (i : Int)) true := by
  intro n
  induction n with
  | zero =>
    intro i hi
    refine Ev.step (fun k => by rw [screeref15_Same.l0]) ?_
    exact Ev.neg (by omega) (Ev.val rfl)
  | succ n ih =>
    intro i hi
    refine Ev.step (fun k => by rw [screeref15_Same.l0]) ?_
    refine Ev.pos (by omega) (Ev.pos (by omega) (Ev.pos (by omega) (Ev.neg (by simp) ?_)))
    rw [w64 _ (by omega) (by omega)]
    exact ih (i + 1) (by omega)
theorem Same_ev (X : List RS) (hX : X.length ≤ 40) : Ev (fun k => screeref15_Same.f k X X) true := by
  unfold screeref15_Same.f
  exact Ev.pos rfl (Same_l0 X hX X.length 0 (by omega))
theorem uls_len (s : List UInt8) : (uls s).1.length ≤ 40 := by
  rcases uls_cases s with e | ⟨M, hM, _, e⟩
  · rw [e]; simp
  · rw [e]; have := hM.1; simp only; omega
theorem ColReads : ∀ (a0 : ByteArray), a0.size ≤ 140737488351232 → ∃ k, screelaw15_ColReads.f k a0 = some true := by
  intro a hs
  obtain ⟨s, rfl⟩ := ex_lb a
  rw [lb_size] at hs
  refine Ev.rounds ?_
  unfold screelaw15_ColReads.f
  refine Ev.bind awake_ev (Ev.pos rfl ?_)
  by_cases h1 : (((lb s).size : Nat) : Int) > 1024
  · exact Ev.pos h1 (Ev.val rfl)
  refine Ev.neg h1 (Ev.bind (Unlock_ev s hs) (Ev.bind (RUnlock_ev s hs) (Ev.neg (by simp) ?_)))
  rw [bne_self_eq_false]
  refine Ev.step (fun k => by rw [screelaw15_ColReads.j0]) ?_
  refine Ev.neg (by simp) (Ev.bind (Unwrite_ev s hs) (Ev.bind (RUnwrite_ev s hs) (Ev.neg (by simp) ?_)))
  rw [bne_self_eq_false]
  refine Ev.step (fun k => by rw [screelaw15_ColReads.j1]) ?_
  have hl := uls_len s
  refine Ev.neg (by simp) (Ev.bind (Unlease_ev s hs) (Ev.bind (RUnlease_ev s hs) (Ev.bind (own_ev _ hl) (Ev.bind (Same_ev _ (by simpa using hl)) (Ev.pos rfl (Ev.val ?_))))))
  simp
end Go.Proofs.Yteijlcnjnooiiaa.ColS
