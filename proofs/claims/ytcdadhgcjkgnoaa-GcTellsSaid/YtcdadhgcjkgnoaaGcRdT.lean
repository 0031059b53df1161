/- gc: what a record says, as the reference reads it. -/
import Derived.Test.YtcdadhgcjkgnoaaPx0
import Derived.Test.YtcdadhgcjkgnoaaPx7
import Derived.Test.YtcdadhgcjkgnoaaPx15
import Derived.Test.YtcdadhgcjkgnoaaGc4
import Derived.Test.YtcdadhgcjkgnoaaGcRef
set_option linter.unusedVariables false
set_option linter.unusedSimpArgs false
namespace Go.Proofs.Ytcdadhgcjkgnoaa.GcS
open Go.RowKit Go.Proofs.Ytcdadhgcjkgnoaa.P Go.Proofs.Ytcdadhgcjkgnoaa.Th Go.Proofs.YtcdadhgcjkgnoaaW.PrintWords Go.Proofs.YtcdadhgcjkgnoaaW.PrintLast Go.Proofs.YtcdadhgcjkgnoaaW.PrintMore

def sx (x : ES) : gc_read.R := if (rxE x).2 = true then (rxE x).1 else gc_read.none_
theorem rread_ev (x : ES) (h : small x) : Ev (fun k => screeref17_Read.f1 k x.f0 x.f3) (sx x) := by
  have hk := KeyS.RRead_ev (bl x.f0) (by have := h.1; omega)
  have hl := ColS.RUnlock_ev (bl x.f3) (by have := h.2; omega)
  have hw := ColS.RUnwrite_ev (bl x.f3) (by have := h.2; omega)
  rw [lb_bl] at hk hl hw
  unfold screeref17_Read.f1 sx rxE rx
  refine Ev.bind hk ?_
  generalize KeyS.rdr (bl x.f0) = p
  by_cases h1 : p.2.2.2 ≠ 0
  · rw [if_pos h1]; exact Ev.pos h1 (Ev.val rfl)
  · rw [if_neg h1]
    refine Ev.neg h1 ?_
    by_cases h4 : p.1 = 4
    · refine Ev.pos h4 (Ev.val ?_)
      simp [h4]
    · refine Ev.neg h4 ?_
      by_cases h2 : p.1 = 1
      · rw [if_pos h2]
        refine Ev.pos h2 (Ev.bind hl ?_)
        by_cases h5 : (ColS.ulk (bl x.f3)).2.2.2.2 = 0
        · exact Ev.neg (by simp [h5]) (Ev.val (by simp [h5]))
        · exact Ev.pos h5 (Ev.val (by simp [h5]))
      · rw [if_neg h2]
        refine Ev.neg h2 ?_
        by_cases h3 : p.1 = 2
        · rw [if_pos h3]
          refine Ev.pos h3 (Ev.bind hw ?_)
          by_cases h5 : (ColS.uwr (bl x.f3)).2.2 = 0
          · exact Ev.neg (by simp [h5]) (Ev.val (by simp [h5]))
          · exact Ev.pos h5 (Ev.val (by simp [h5]))
        · rw [if_neg h3]
          exact Ev.neg h3 (Ev.val (by simp [h4]))
theorem none_cf : gc_read.none_.cf = 0 := rfl
theorem sx_cf (x : ES) : (sx x).cf = cf x := by
  unfold sx cf
  by_cases h : (rxE x).2 = true
  · rw [if_pos h, if_pos h]
  · rw [if_neg h, if_neg h]; rfl
theorem sx_of {x : ES} {n : Int} (hn : n ≠ 0) (h : cf x = n) : sx x = (rxE x).1 := if_pos (cf_ok hn h).1
theorem sx_us (x : ES) : (bl (sx x).us).length ≤ 24 := by
  unfold sx
  by_cases h : (rxE x).2 = true
  · rw [if_pos h]; exact (rx_ok _ _).us
  · rw [if_neg h]; simp [gc_read.none_, bl]
end Go.Proofs.Ytcdadhgcjkgnoaa.GcS
