/- frame: frames behind frames. -/
import Derived.Test.YtkdecekmnbbbhaaFrame5
set_option linter.unusedVariables false
set_option linter.unusedSimpArgs false
namespace Go.Proofs.Ytkdecekmnbbbhaa.FrameS
open Go.RowKit Go.Proofs.Ytkdecekmnbbbhaa.P Go.Proofs.Ytkdecekmnbbbhaa.Th Go.Proofs.Ytkdecekmnbbbhaa.NumS Go.Proofs.YtkdecekmnbbbhaaW.PrintWords Go.Proofs.YtkdecekmnbbbhaaW.PrintLast Go.Proofs.YtkdecekmnbbbhaaW.PrintMore

theorem FrameJoins : ∀ (l0 : List ByteArray) (l1 : List ByteArray), (((∀ x ∈ l0, x.size ≤ 140737488351232) ∧ l0.length * 16 ≤ 140737488351232)) → (l0.length ≤ 1048576) → (((∀ x ∈ l1, x.size ≤ 140737488351232) ∧ l1.length * 16 ≤ 140737488351232)) → (l1.length ≤ 1048576) → ∃ k, screelaw04_FrameJoins.f k l0 l1 = some true := by
  intro l0 l1 hl0 hm0 hl1 hm1
  obtain ⟨a, rfl⟩ := ex_lbs l0
  obtain ⟨b, rfl⟩ := ex_lbs l1
  obtain ⟨hb0, hll0⟩ := bound_l hl0
  obtain ⟨hb1, hll1⟩ := bound_l hl1
  rw [List.length_map] at hm0 hm1
  clear hl0 hl1
  refine Ev.rounds ?_
  unfold screelaw04_FrameJoins.f
  refine Ev.bind awake_ev (Ev.pos rfl ?_)
  refine Ev.just rfl (Ev.pos (by rw [List.length_map, List.length_nil]; omega) ?_)
  refine Ev.just rfl (Ev.pos (by rw [List.length_append, List.length_map, List.length_map, List.length_nil]; omega) ?_)
  refine Ev.just rfl ?_
  rw [List.nil_append, ← List.map_append]
  have hb : ∀ t ∈ a ++ b, t.length ≤ 140737488351232 := fun t ht => (List.mem_append.1 ht).elim (hb0 t) (hb1 t)
  refine Ev.bind (large_ev (a ++ b) hb (by rw [List.length_append]; omega)) ?_
  cases hL : isLarge (a ++ b) with
  | true => exact Ev.pos rfl (Ev.now _)
  | false =>
    refine Ev.neg (by simp) ?_
    obtain ⟨h1, h2⟩ := not_large hL
    have h3 := joins_le (a ++ b) h2
    have hj : (joins (a ++ b)).length = (joins a).length + (joins b).length := by rw [joins_app]; simp
    have hab : (a ++ b).length = a.length + b.length := by simp
    refine Ev.bind (Join_ev a (by omega) hb0) (Ev.bind (Join_ev b (by omega) hb1) (Ev.bind (Join_ev (a ++ b) (by omega) hb) ?_))
    by_cases ha : fit a
    · have e1 : jr [] a = (lb (joins a), 0) := by unfold jr; rw [if_pos ha]; rfl
      rw [e1]
      refine Ev.pos rfl ?_
      refine Ev.step (fun k => by rw [screelaw04_FrameJoins.j0]) ?_
      by_cases hbf : fit b
      · have e2 : jr [] b = (lb (joins b), 0) := by unfold jr; rw [if_pos hbf]; rfl
        have e3 : jr [] (a ++ b) = (lb (joins a ++ joins b), 0) := by unfold jr; rw [if_pos (fit_app.2 ⟨ha, hbf⟩), joins_app]; rfl
        rw [e2, e3]
        refine Ev.neg (by simp) (Ev.pos (by rw [lb_size, lb_size]; omega) ?_)
        have hA := All_ev (a ++ b) [] (fit_app.2 ⟨ha, hbf⟩) tkf_nil (by rw [List.append_nil]; omega)
        rw [List.append_nil, joins_app] at hA
        rw [lb_append]
        refine Ev.bind hA (Ev.pos rfl (Ev.pos rfl (Ev.bind (texts_ev (a ++ b) (a ++ b) (by omega)) (Ev.pos (by simp) (Ev.val ?_)))))
        rw [lb_size, lb_size, w64 _ (by omega) (by omega)]
        simp
      · have e2 : jr [] b = (lb [], 5) := by unfold jr; rw [if_neg hbf]
        have e3 : jr [] (a ++ b) = (lb [], 5) := by unfold jr; rw [if_neg (fun h => hbf (fit_app.1 h).2)]
        rw [e2, e3]
        refine Ev.pos (by decide) (Ev.pos rfl (Ev.val ?_))
        rw [lb_toList]; rfl
    · have e1 : jr [] a = (lb [], 5) := by unfold jr; rw [if_neg ha]
      have e3 : jr [] (a ++ b) = (lb [], 5) := by unfold jr; rw [if_neg (fun h => ha (fit_app.1 h).1)]
      rw [e1, e3]
      refine Ev.neg (by decide) ?_
      refine Ev.step (fun k => by rw [screelaw04_FrameJoins.j0]) ?_
      refine Ev.pos rfl (Ev.pos rfl (Ev.val ?_))
      rw [lb_toList]; rfl
end Go.Proofs.Ytkdecekmnbbbhaa.FrameS
