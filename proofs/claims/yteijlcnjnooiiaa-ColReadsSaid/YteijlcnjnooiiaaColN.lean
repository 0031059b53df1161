/- col: own. -/
import Derived.Test.YteijlcnjnooiiaaPx0
import Derived.Test.YteijlcnjnooiiaaPx11
import Derived.Test.YteijlcnjnooiiaaCol5
set_option linter.unusedVariables false
set_option linter.unusedSimpArgs false
namespace Go.Proofs.Yteijlcnjnooiiaa.ColS
open Go.RowKit Go.Proofs.Yteijlcnjnooiiaa.P Go.Proofs.Yteijlcnjnooiiaa.Th Go.Proofs.Yteijlcnjnooiiaa.NumS Go.Proofs.Yteijlcnjnooiiaa.KeyT Go.Proofs.YteijlcnjnooiiaaW.PrintWords Go.Proofs.YteijlcnjnooiiaaW.PrintLast Go.Proofs.YteijlcnjnooiiaaW.PrintMore

abbrev RS := S56
def t56 (x : LS) : RS := ⟨x.f0, x.f1, x.f2⟩
/-! ### own, Same -/
theorem own_l0 : ∀ (rest pre : List LS), (pre ++ rest).length ≤ 40 →
    Ev (fun k => screelaw15_own.l0 k (pre ++ rest) (List.map t56 pre) ((pre ++ rest).length : Int) (pre.length : Int)) (List.map t56 (pre ++ rest)) := by
  intro rest
  induction rest with
  | nil =>
    intro pre hl
    refine Ev.step (fun k => by rw [screelaw15_own.l0]) ?_
    exact Ev.neg (by simp) (Ev.val (by simp))
  | cons x rest ih =>
    intro pre hl
    have hlen : (pre ++ x :: rest).length = pre.length + 1 + rest.length := by simp; omega
    rw [hlen] at hl
    refine Ev.step (fun k => by rw [screelaw15_own.l0]) ?_
    rw [rd_app]
    refine Ev.pos (by omega) (Ev.pos (by omega) (Ev.pos (by omega) (Ev.pos (by simp; omega) ?_)))
    have hI := ih (pre ++ [x]) (by simp; omega)
    rw [List.append_assoc, List.singleton_append] at hI
    have e1 : wrap64 ((pre.length : Int) + 1) = (((pre ++ [x]).length : Nat) : Int) := by rw [w64 _ (by omega) (by omega)]; simp
    rw [e1]
    have e2 : List.map t56 pre ++ [(⟨x.f0, x.f1, x.f2⟩ : RS)] = List.map t56 (pre ++ [x]) := by simp [t56]
    rw [e2]
    exact hI
theorem own_ev (L : List LS) (h : L.length ≤ 40) : Ev (fun k => screelaw15_own.f k L) (List.map t56 L) := own_l0 L [] h
end Go.Proofs.Yteijlcnjnooiiaa.ColS
