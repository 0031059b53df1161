/- block: the law of what two texts share. -/
import Derived.Test.YtcogolbgfkikfaaPx0
import Derived.Test.YtcogolbgfkikfaaPx16
import Derived.Test.YtcogolbgfkikfaaBlk9
set_option linter.unusedVariables false
set_option linter.unusedSimpArgs false
namespace Go.Proofs.Ytcogolbgfkikfaa.BlkS
open Go.RowKit Go.Proofs.Ytcogolbgfkikfaa.P Go.Proofs.Ytcogolbgfkikfaa.Th Go.Proofs.Ytcogolbgfkikfaa.NumS Go.Proofs.YtcogolbgfkikfaaW.PrintWords Go.Proofs.YtcogolbgfkikfaaW.PrintLast Go.Proofs.YtcogolbgfkikfaaW.PrintMore

theorem BlockShares : ∀ (a0 : ByteArray) (a1 : ByteArray) (a2 : ByteArray), a0.size ≤ 140737488351232 → a1.size ≤ 140737488351232 → a2.size ≤ 140737488351232 → ∃ k, screelaw09_BlockShares.f k a0 a1 a2 = some true := by
  intro a b m _ _ _
  obtain ⟨a, rfl⟩ := ex_lb a
  obtain ⟨b, rfl⟩ := ex_lb b
  obtain ⟨m, rfl⟩ := ex_lb m
  refine Ev.rounds ?_
  unfold screelaw09_BlockShares.f
  simp only [lb_size]
  refine Ev.bind awake_ev (Ev.pos rfl ?_)
  have big : Ev (fun k => screelaw09_BlockShares.j0 k (lb a) (lb b) (lb m) true) true := by
    refine Ev.step (fun k => by rw [screelaw09_BlockShares.j0]) ?_
    exact Ev.pos rfl (Ev.val rfl)
  by_cases h1 : (a.length : Int) > 300
  · exact Ev.pos h1 big
  refine Ev.neg h1 ?_
  by_cases h2 : (b.length : Int) > 300
  · exact Ev.pos h2 big
  refine Ev.neg h2 ?_
  by_cases h3 : (m.length : Int) > 300
  · rw [decide_eq_true h3]; exact big
  rw [decide_eq_false h3]
  have hc := comm_le a b
  have j1 : Ev (fun k => screelaw09_BlockShares.j1 k (lb a) (lb b) (lb m) ((comm a b : Nat) : Int) false) true := by
    refine Ev.step (fun k => by rw [screelaw09_BlockShares.j1]) ?_
    simp only [lb_size, lb_append]
    refine Ev.neg (by simp) (Ev.pos (by omega) (Ev.pos (by omega) ?_))
    refine Ev.bind (Shared_ev (m ++ a) (m ++ b) (by simp; omega)) (Ev.pos ?_ ?_)
    · rw [comm_app, w64 _ (by omega) (by omega)]; omega
    · refine Ev.bind (Shared_ev a a (by omega)) (Ev.val ?_)
      rw [comm_self]; simp
  have e2 : Ev (fun k => screelaw09_BlockShares.j1 k (lb a) (lb b) (lb m) ((comm a b : Nat) : Int) (((comm b a : Nat) : Int) != ((comm a b : Nat) : Int))) true := by
    rw [comm_sym b a]; simpa using j1
  refine Ev.step (fun k => by rw [screelaw09_BlockShares.j0]) ?_
  simp only [lb_size, mn_nat]
  refine Ev.neg (by simp) (Ev.bind (Shared_ev a b (by omega)) ?_)
  refine Ev.neg (by omega) (Ev.neg (by omega) (Ev.pos (by omega) (Ev.pos (by omega) (Ev.pos (by omega) ?_))))
  refine Ev.pos (by rw [Int.toNat_natCast, lb_extract, lb_extract, lb_toList, lb_toList, List.drop_zero, List.drop_zero]; exact comm_take a b) ?_
  by_cases h4 : ((comm a b : Nat) : Int) < ((min a.length b.length : Nat) : Int)
  · have p1 : comm a b < a.length := by omega
    have p2 : comm a b < b.length := by omega
    refine Ev.pos h4 (Ev.pos (by omega) (Ev.pos (by omega) ?_))
    rw [bt_nat a _ p1, bt_nat b _ p2]
    exact Ev.neg (fun e => comm_ne a b p1 p2 (u8_ext (by omega))) (Ev.bind (Shared_ev b a (by omega)) e2)
  · exact Ev.neg h4 (Ev.bind (Shared_ev b a (by omega)) e2)
end Go.Proofs.Ytcogolbgfkikfaa.BlkS
