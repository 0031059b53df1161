/- frame: what is fixed of it; the laws. -/
import Derived.Test.YtkdecekmnbbbhaaFrame3
set_option linter.unusedVariables false
set_option linter.unusedSimpArgs false
namespace Go.Proofs.Ytkdecekmnbbbhaa.FrameS
open Go.RowKit Go.Proofs.Ytkdecekmnbbbhaa.P Go.Proofs.Ytkdecekmnbbbhaa.Th Go.Proofs.Ytkdecekmnbbbhaa.NumS Go.Proofs.YtkdecekmnbbbhaaW.PrintWords Go.Proofs.YtkdecekmnbbbhaaW.PrintLast Go.Proofs.YtkdecekmnbbbhaaW.PrintMore

theorem awake_ev : Ev (fun k => screelaw04_awake.f k) true := by
  unfold screelaw04_awake.f
  have h1 := Ev.eq (Make_ev [97] (by decide)) (show mkr [97] = (lb [1, 97, 196], 0) by decide +kernel)
  have h2 := Ev.eq (Take_evF [1, 97, 196, 122, 122] (by decide)) (show tkr [1, 97, 196, 122, 122] = (lb [97], lb [122, 122], 0) by decide +kernel)
  have h3 := All_ev [[97], []] [2, 97] (by decide) (by decide +kernel) (by decide +kernel)
  rw [show joins [[97], []] ++ [2, 97] = [1, 97, 196, 0, 165, 2, 97] by decide +kernel, show (joins [[97], []]).length = 5 by decide +kernel] at h3
  have h4 := Ev.eq (Join_ev [[97], []] (by decide +kernel) (by decide)) (show jr [] [[97], []] = (lb [1, 97, 196, 0, 165], 0) by decide +kernel)
  have h5 := Ev.eq (Take_evF [] (by decide)) (show tkr [] = (lb [], lb [], 10) by decide +kernel)
  have hl6 : (ofI (List.replicate 8001 0)).length = 8001 := by rw [ofI_len]; exact List.length_replicate
  have h6 := Ev.eq (Make_ev (ofI (List.replicate 8001 0)) (by omega)) (show mkr (ofI (List.replicate 8001 0)) = (lb [], 5) by unfold mkr; rw [if_pos (by omega)])
  refine Ev.bind h1 (Ev.pos (by decide) ?_)
  refine Ev.bind (f := fun n b => _) (a := (lb [97], lb [122, 122], 0)) ?_ ?_
  · exact h2
  refine Ev.bind h3 (Ev.bind h4 (Ev.bind h5 (Ev.pos (by decide) (Ev.bind h6 ?_))))
  refine Ev.pos (by rw [lb_toList]) (Ev.pos rfl (Ev.pos (by rw [lb_toList]) (Ev.pos (by rw [lb_toList]) (Ev.pos rfl (Ev.pos rfl ?_)))))
  refine Ev.pos (by decide) (Ev.pos (by show (lb [97]).toList = [97]; rw [lb_toList]) (Ev.pos (by decide) (Ev.pos (by show (lb []).toList = []; rw [lb_toList]) (Ev.pos rfl ?_))))
  exact Ev.pos (by rw [lb_toList]) (Ev.pos rfl (Ev.pos rfl (Ev.val rfl)))

theorem bound_l {l : List (List UInt8)} (h : (∀ x ∈ l.map lb, x.size ≤ 140737488351232) ∧ (l.map lb).length * 16 ≤ 140737488351232) : (∀ t ∈ l, t.length ≤ 140737488351232) ∧ l.length ≤ 1099511627776000 := by
  refine ⟨fun t ht => ?_, ?_⟩
  · have := h.1 (lb t) (List.mem_map.2 ⟨t, ht, rfl⟩)
    rwa [lb_size] at this
  · have := h.2
    rw [List.length_map] at this; omega
theorem reads_l0 : ∀ (l pre : List (List UInt8)), (∀ t ∈ l, t.length ≤ 140737488351232) → (pre ++ l).length ≤ 1099511627776000 →
    Ev (fun k => screelaw04_FrameReads.l0 k ((pre ++ l).map lb) ((pre ++ l).length : Int) (pre.length : Int)) true := by
  intro l
  induction l with
  | nil =>
    intro pre _ _
    refine Ev.step (fun k => by rw [screelaw04_FrameReads.l0]) ?_
    exact Ev.neg (by simp) (Ev.now _)
  | cons t l ih =>
    intro pre hb hl
    have hlen : (pre ++ t :: l).length = pre.length + 1 + l.length := by simp; omega
    refine Ev.step (fun k => by rw [screelaw04_FrameReads.l0]) ?_
    refine Ev.pos (by omega) (Ev.pos (by omega) (Ev.pos (by rw [List.length_map]; omega) ?_))
    rw [rd_app]
    refine Ev.bind (Make_ev t (hb t (by simp))) (Ev.bind (RMake_ev t (hb t (by simp))) (Ev.pos rfl (Ev.pos rfl ?_)))
    have e1 : wrap64 ((pre.length : Int) + 1) = (((pre ++ [t]).length : Nat) : Int) := by rw [w64 _ (by omega) (by omega)]; simp
    rw [e1]
    have := ih (pre ++ [t]) (fun u hu => hb u (by simp [hu])) (by simpa using hl)
    simpa using this
theorem FrameReads : ∀ (a0 : ByteArray) (l1 : List ByteArray), (a0.size ≤ 140737488351232) → (((∀ x ∈ l1, x.size ≤ 140737488351232) ∧ l1.length * 16 ≤ 140737488351232)) → ∃ k, screelaw04_FrameReads.f k a0 l1 = some true := by
  intro s l1 hs hl1
  obtain ⟨a, rfl⟩ := ex_lb s
  obtain ⟨ls, rfl⟩ := ex_lbs l1
  obtain ⟨hb, hll⟩ := bound_l hl1
  rw [lb_size] at hs
  refine Ev.rounds ?_
  unfold screelaw04_FrameReads.f
  refine Ev.bind awake_ev (Ev.pos rfl ?_)
  by_cases h0 : (((lb a).size : Nat) : Int) > 8192
  · refine Ev.pos h0 ?_
    refine Ev.step (fun k => by rw [screelaw04_FrameReads.j0]) ?_
    exact Ev.pos rfl (Ev.now _)
  refine Ev.neg h0 (Ev.bind (large_ev ls hb hll) ?_)
  rw [lb_size] at h0
  refine Ev.step (fun k => by rw [screelaw04_FrameReads.j0]) ?_
  cases hL : isLarge ls with
  | true => exact Ev.pos rfl (Ev.now _)
  | false =>
    obtain ⟨h1, h2⟩ := not_large hL
    have h3 := joins_le ls h2
    refine Ev.neg (by simp) ?_
    obtain ⟨ts, r, rfl, hf, hr⟩ := split_ex a.length a (Nat.le_refl _)
    have hc := joins_count ts
    have hlen : (joins ts ++ r).length = (joins ts).length + r.length := by simp
    refine Ev.bind (All_ev ts r hf hr (by omega)) (Ev.bind (RAll_ev ts r hf hr (by omega)) (Ev.bind (texts_ev ts ts (by omega)) (Ev.pos (by simp) ?_)))
    refine Ev.step (fun k => by rw [screelaw04_FrameReads.j1]) ?_
    refine Ev.neg (by simp) (Ev.bind (Take_evF _ hs) (Ev.bind (RTake_evF _ hs) (Ev.pos rfl (Ev.pos rfl ?_))))
    refine Ev.step (fun k => by rw [screelaw04_FrameReads.j2]) ?_
    refine Ev.neg (by simp) (Ev.bind (Join_ev ls (by omega) hb) (Ev.bind (RJoin_ev ls (by omega) hb) (Ev.pos rfl ?_)))
    refine Ev.step (fun k => by rw [screelaw04_FrameReads.j3]) ?_
    refine Ev.neg (by simp) ?_
    rw [List.length_map]
    exact reads_l0 ls [] hb (by simpa using hll)
theorem tkf_nil : tkf [] = none := by decide
theorem FrameBack : ∀ (l0 : List ByteArray) (a1 : ByteArray), (((∀ x ∈ l0, x.size ≤ 140737488351232) ∧ l0.length * 16 ≤ 140737488351232)) → (a1.size ≤ 140737488351232) → ∃ k, screelaw04_FrameBack.f k l0 a1 = some true := by
  intro l1 s hl1 hs
  obtain ⟨a, rfl⟩ := ex_lb s
  obtain ⟨ls, rfl⟩ := ex_lbs l1
  obtain ⟨hb, hll⟩ := bound_l hl1
  rw [lb_size] at hs
  refine Ev.rounds ?_
  unfold screelaw04_FrameBack.f
  refine Ev.bind awake_ev (Ev.pos rfl ?_)
  by_cases h0 : (((lb a).size : Nat) : Int) > 8192
  · refine Ev.pos h0 ?_
    refine Ev.step (fun k => by rw [screelaw04_FrameBack.j0]) ?_
    exact Ev.pos rfl (Ev.now _)
  refine Ev.neg h0 (Ev.bind (large_ev ls hb hll) ?_)
  rw [lb_size] at h0
  refine Ev.step (fun k => by rw [screelaw04_FrameBack.j0]) ?_
  cases hL : isLarge ls with
  | true => exact Ev.pos rfl (Ev.now _)
  | false =>
    obtain ⟨h1, h2⟩ := not_large hL
    have h3 := joins_le ls h2
    refine Ev.neg (by simp) (Ev.bind (Join_ev ls (by omega) hb) ?_)
    have hj1 : Ev (fun k => screelaw04_FrameBack.j1 k (lb a)) true := by
      refine Ev.step (fun k => by rw [screelaw04_FrameBack.j1]) ?_
      obtain ⟨ts, r, rfl, hf, hr⟩ := split_ex a.length a (Nat.le_refl _)
      have hlen : (joins ts ++ r).length = (joins ts).length + r.length := by simp
      refine Ev.bind (All_ev ts r hf hr (by omega)) ?_
      refine Ev.neg (by simp only; omega) (Ev.neg (by rw [lb_size]; simp only; omega) ?_)
      refine Ev.bind (Join_ev ts (by omega) (fun t ht => by have := hf t ht; omega)) ?_
      have e : jr [] ts = (lb (joins ts), 0) := by unfold jr; rw [if_pos hf]; rfl
      rw [e]
      refine Ev.pos rfl (Ev.pos (by simp only; omega) (Ev.pos (by rw [lb_size]; simp only; omega) (Ev.val ?_)))
      simp only [Int.toNat_natCast, lb_extract, lb_toList, List.drop_zero, List.take_left]
      simp
    unfold jr
    by_cases hf : fit ls
    · rw [if_pos hf]
      refine Ev.pos rfl ?_
      have hA := All_ev ls [] hf tkf_nil (by simp; omega)
      rw [List.append_nil] at hA
      refine Ev.bind hA (Ev.bind (texts_ev ls ls (by omega)) (Ev.pos (by simp) (Ev.pos (by rw [lb_size]; rfl) hj1)))
    · rw [if_neg hf]
      exact Ev.neg (by decide) (Ev.pos (by rw [lb_toList]) hj1)
end Go.Proofs.Ytkdecekmnbbbhaa.FrameS
