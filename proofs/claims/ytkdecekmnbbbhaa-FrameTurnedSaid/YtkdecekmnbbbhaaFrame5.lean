/- frame: four more laws. -/
import Derived.Test.YtkdecekmnbbbhaaFrame4
set_option linter.unusedVariables false
set_option linter.unusedSimpArgs false
namespace Go.Proofs.Ytkdecekmnbbbhaa.FrameS
open Go.RowKit Go.Proofs.Ytkdecekmnbbbhaa.P Go.Proofs.Ytkdecekmnbbbhaa.Th Go.Proofs.Ytkdecekmnbbbhaa.NumS Go.Proofs.YtkdecekmnbbbhaaW.PrintWords Go.Proofs.YtkdecekmnbbbhaaW.PrintLast Go.Proofs.YtkdecekmnbbbhaaW.PrintMore

theorem takes_l0 (s : ByteArray) (m : Int) (hs : s.size ≤ 8192) (r : List UInt8) (hr : tkf r = none) (hrs : wrap64 ((s.size : Int) - (r.length : Int)) = m) : ∀ (ts pre : List (List UInt8)), fit ts → (joins ts ++ r).length ≤ 8192 → (pre ++ ts).length ≤ 8192 →
    Ev (fun k => screelaw04_FrameTakes.l0 k s ((pre ++ ts).map lb) m (lb (joins ts ++ r)) ((pre ++ ts).length : Int) (pre.length : Int)) true := by
  intro ts
  induction ts with
  | nil =>
    intro pre _ hl hc
    refine Ev.step (fun k => by rw [screelaw04_FrameTakes.l0]) ?_
    have he : joins [] ++ r = r := rfl
    rw [he] at hl ⊢
    refine Ev.neg (by simp) (Ev.bind (Take_evF r (by omega)) ?_)
    rw [tkr_none r hr]
    refine Ev.neg (by simp only; split <;> decide) ?_
    rw [lb_size]
    refine Ev.pos hrs (Ev.val ?_)
    rw [lb_toList]
    by_cases h : r = []
    · simp [h]
    · simp [h]
  | cons t ts ih =>
    intro pre hf hl hc
    obtain ⟨h1, h2⟩ := fit_cons.1 hf
    have he : joins (t :: ts) ++ r = frm t ++ (joins ts ++ r) := by simp [joins]
    have hlen : (joins (t :: ts) ++ r).length = (frm t).length + (joins ts ++ r).length := by rw [he]; simp
    have hlen2 : (pre ++ t :: ts).length = pre.length + 1 + ts.length := by simp; omega
    have hp := frm_pos t
    refine Ev.step (fun k => by rw [screelaw04_FrameTakes.l0]) ?_
    refine Ev.pos (by omega) (Ev.bind (Take_evF _ (by omega)) ?_)
    rw [he, tkr_frm _ _ h1]
    refine Ev.pos (by omega) (Ev.pos (by rw [List.length_map]; omega) ?_)
    rw [rd_app]
    refine Ev.pos rfl (Ev.pos rfl (Ev.neg (by rw [lb_size, lb_size, ← he]; omega) ?_))
    have e1 : wrap64 ((pre.length : Int) + 1) = (((pre ++ [t]).length : Nat) : Int) := by rw [w64 _ (by omega) (by omega)]; simp
    rw [e1]
    have := ih (pre ++ [t]) h2 (by omega) (by simpa using hc)
    simpa using this
theorem FrameTakes : screelaw04_FrameTakes.Pure := by
  intro s hs
  obtain ⟨a, rfl⟩ := ex_lb s
  rw [lb_size] at hs
  refine Ev.rounds ?_
  unfold screelaw04_FrameTakes.f
  refine Ev.bind awake_ev (Ev.pos rfl ?_)
  by_cases h0 : (((lb a).size : Nat) : Int) > 8192
  · exact Ev.pos h0 (Ev.now _)
  refine Ev.neg h0 ?_
  rw [lb_size] at h0
  obtain ⟨ts, r, rfl, hf, hr⟩ := split_ex a.length a (Nat.le_refl _)
  have hc := joins_count ts
  have hlen : (joins ts ++ r).length = (joins ts).length + r.length := by simp
  refine Ev.bind (All_ev ts r hf hr (by omega)) ?_
  have hw : wrap64 ((((lb (joins ts ++ r)).size : Nat) : Int) - (r.length : Int)) = ((joins ts).length : Int) := by
    rw [lb_size, w64 _ (by omega) (by omega)]; omega
  have := takes_l0 (lb (joins ts ++ r)) ((joins ts).length : Int) (by rw [lb_size]; omega) r hr hw ts [] hf (by omega) (by simp; omega)
  simpa using this

theorem cat_take {x y : List UInt8} (n : Nat) (h : x.take n = y.take n) (hx : n ≤ x.length) (hy : n ≤ y.length) : x.take n ++ y.drop n = y := by
  rw [h, List.take_append_drop]
theorem FrameOne : screelaw04_FrameOne.Pure := by
  intro s0 s1 hs0 hs1
  obtain ⟨a, rfl⟩ := ex_lb s0
  obtain ⟨b, rfl⟩ := ex_lb s1
  rw [lb_size] at hs0 hs1
  refine Ev.rounds ?_
  unfold screelaw04_FrameOne.f
  refine Ev.bind awake_ev (Ev.pos rfl ?_)
  by_cases h0 : (((lb a).size : Nat) : Int) > 8192
  · refine Ev.pos h0 ?_
    refine Ev.step (fun k => by rw [screelaw04_FrameOne.j0]) ?_
    exact Ev.pos rfl (Ev.now _)
  refine Ev.neg h0 ?_
  rw [lb_size] at h0
  refine Ev.step (fun k => by rw [screelaw04_FrameOne.j0]) ?_
  by_cases h1 : (((lb b).size : Nat) : Int) > 8192
  · exact Ev.pos (decide_eq_true h1) (Ev.now _)
  refine Ev.neg (by rw [decide_eq_true_eq]; exact h1) ?_
  rw [lb_size] at h1
  refine Ev.bind (Make_ev a hs0) (Ev.bind (Make_ev b hs1) ?_)
  have hA : (((mkr a).2 == 0) != (decide (((lb a).size : Int) ≤ 8000))) = false := by
    rw [lb_size]; unfold mkr
    by_cases h : a.length > 8000
    · rw [if_pos h]
      have : ¬ ((a.length : Int) ≤ 8000) := by omega
      simp [this]
    · rw [if_neg h]
      have : ((a.length : Int) ≤ 8000) := by omega
      simp [this]
  refine Ev.neg (by rw [hA]; decide) ?_
  have hj : Ev (fun k => screelaw04_FrameOne.j1 k (lb a) (lb b) (mkr a).1 (mkr a).2 (mkr b).1 (mkr b).2 false) true := by
    refine Ev.step (fun k => by rw [screelaw04_FrameOne.j1]) ?_
    refine Ev.neg (by simp) ?_
    by_cases ha : a.length > 8000
    · have : mkr a = (lb [], 5) := by unfold mkr; rw [if_pos ha]
      rw [this]
      exact Ev.neg (by decide) (Ev.now _)
    by_cases hb : b.length > 8000
    · have e1 : mkr a = (lb (frm a), 0) := by unfold mkr; rw [if_neg ha]
      have e2 : mkr b = (lb [], 5) := by unfold mkr; rw [if_pos hb]
      rw [e1, e2]
      exact Ev.pos rfl (Ev.neg (by decide) (Ev.now _))
    have e1 : mkr a = (lb (frm a), 0) := by unfold mkr; rw [if_neg ha]
    have e2 : mkr b = (lb (frm b), 0) := by unfold mkr; rw [if_neg hb]
    rw [e1, e2]
    refine Ev.pos rfl (Ev.pos rfl ?_)
    have hm : mn (((lb (frm a)).size : Nat) : Int) (((lb (frm b)).size : Nat) : Int) = ((min (frm a).length (frm b).length : Nat) : Int) := by
      rw [lb_size, lb_size]; unfold mn; split <;> omega
    simp only [hm]
    have hpa := frm_pos a
    have hpb := frm_pos b
    refine Ev.pos (by omega) (Ev.pos (by omega) (Ev.pos (by rw [lb_size]; omega) (Ev.pos (by rw [lb_size]; omega) (Ev.val ?_))))
    simp only [Int.toNat_natCast, lb_extract, lb_toList, List.drop_zero]
    by_cases hab : a = b
    · subst hab; simp
    · have : ¬ ((frm a).take (min (frm a).length (frm b).length) = (frm b).take (min (frm a).length (frm b).length)) := by
        intro h
        rcases Nat.le_total (frm a).length (frm b).length with hle | hle
        · rw [Nat.min_eq_left hle, List.take_length] at h
          have h2 : frm a ++ (frm b).drop (frm a).length = frm b ++ [] := by
            conv => lhs; arg 1; rw [h]
            rw [List.take_append_drop, List.append_nil]
          exact hab (frm_free (by omega) (by omega) h2).1
        · rw [Nat.min_eq_right hle, List.take_length] at h
          have h2 : frm b ++ (frm a).drop (frm b).length = frm a ++ [] := by
            conv => lhs; arg 1; rw [← h]
            rw [List.take_append_drop, List.append_nil]
          exact hab (frm_free (by omega) (by omega) h2).1.symm
      have q1 : ((frm a).take (min (frm a).length (frm b).length) == (frm b).take (min (frm a).length (frm b).length)) = false := beq_eq_false_iff_ne.2 this
      have q2 : (a == b) = false := beq_eq_false_iff_ne.2 hab
      rw [q1, q2]; rfl
  by_cases ha : (mkr a).2 = 0
  · exact Ev.pos ha hj
  · refine Ev.neg ha ?_
    have h5 : ((mkr a).2 != 5) = false := by
      unfold mkr at ha ⊢
      by_cases h : a.length > 8000
      · rw [if_pos h]; decide
      · rw [if_neg h] at ha; exact absurd rfl ha
    rw [h5]; exact hj
theorem cut_ex : ∀ (ls : List (List UInt8)) (k : Nat), fit ls → k ≤ (joins ls).length → ∃ a b r, ls = a ++ b ∧ (joins ls).take k = joins a ++ r ∧ tkf r = none ∧ (joins a).length ≤ k ∧ (b = [] ∨ ∃ t c, b = t :: c ∧ k < (joins a).length + (frm t).length) := by
  intro ls
  induction ls with
  | nil =>
    intro k _ hk
    have : k = 0 := by simpa [joins] using hk
    subst this
    exact ⟨[], [], [], rfl, rfl, tkf_nil, by simp [joins], .inl rfl⟩
  | cons t ls ih =>
    intro k hf hk
    obtain ⟨h1, h2⟩ := fit_cons.1 hf
    have hj : joins (t :: ls) = frm t ++ joins ls := rfl
    rcases Nat.lt_or_ge k (frm t).length with hlt | hge
    · refine ⟨[], t :: ls, (frm t).take k, rfl, ?_, ?_, by simp [joins], .inr ⟨t, ls, rfl, by simp [joins]; omega⟩⟩
      · rw [hj, List.take_append_of_le_length (by omega)]; rfl
      · cases hq : tkf ((frm t).take k) with
        | none => rfl
        | some p =>
          obtain ⟨u, q⟩ := p
          obtain ⟨hu, he⟩ := (tkf_iff _ _ _).1 hq
          have h3 : frm t ++ [] = frm u ++ (q ++ (frm t).drop k) := by
            rw [← List.append_assoc, ← he, List.take_append_drop, List.append_nil]
          have h4 := (frm_free h1 hu h3).2
          have h5 := congrArg List.length h4
          simp only [List.length_append, List.length_drop, List.length_nil] at h5
          omega
    · have hk2 : k - (frm t).length ≤ (joins ls).length := by rw [hj, List.length_append] at hk; omega
      obtain ⟨a, b, r, e1, e2, e3, e4, e5⟩ := ih (k - (frm t).length) h2 hk2
      refine ⟨t :: a, b, r, by rw [e1]; rfl, ?_, e3, by simp only [joins, List.length_append]; omega, ?_⟩
      · rw [hj, List.take_append, List.take_of_length_le hge, e2]; simp [joins]
      · rcases e5 with e5 | ⟨u, c, e5, e6⟩
        · exact .inl e5
        · exact .inr ⟨u, c, e5, by simp only [joins, List.length_append]; omega⟩
theorem FrameCut : ∀ (l0 : List ByteArray) (a1 : Int), (((∀ x ∈ l0, x.size ≤ 140737488351232) ∧ l0.length * 16 ≤ 140737488351232)) → ((Lit.int .u16 a1).wf = true) → ∃ k, screelaw04_FrameCut.f k l0 a1 = some true := by
  intro l0 a1 hl0 hw
  obtain ⟨ls, rfl⟩ := ex_lbs l0
  obtain ⟨hb, hll⟩ := bound_l hl0
  obtain ⟨hw0, hw1⟩ := wf_u16 hw
  obtain ⟨at_, rfl⟩ := Int.eq_ofNat_of_zero_le hw0
  refine Ev.rounds ?_
  unfold screelaw04_FrameCut.f
  refine Ev.bind awake_ev (Ev.pos rfl (Ev.bind (large_ev ls hb hll) ?_))
  cases hL : isLarge ls with
  | true => exact Ev.pos rfl (Ev.now _)
  | false =>
    obtain ⟨h1, h2⟩ := not_large hL
    have h3 := joins_le ls h2
    refine Ev.neg (by simp) (Ev.bind (Join_ev ls (by omega) hb) ?_)
    unfold jr
    by_cases hf : fit ls
    case neg => rw [if_neg hf]; exact Ev.neg (by decide) (Ev.now _)
    rw [if_pos hf]
    refine Ev.pos rfl ?_
    simp only [List.nil_append, lb_size]
    have e1 : wrap64 (((joins ls).length : Int) + 1) = (((joins ls).length + 1 : Nat) : Int) := by rw [w64 _ (by omega) (by omega)]; omega
    have e2 : wrap64 (at_ : Int) = (at_ : Int) := w64 _ (by omega) (by omega)
    have e3 : Int.tmod (at_ : Int) (((joins ls).length + 1 : Nat) : Int) = ((at_ % ((joins ls).length + 1) : Nat) : Int) := rfl
    simp only [e1, e2, e3]
    have hk := Nat.mod_lt at_ (Nat.succ_pos (joins ls).length)
    generalize at_ % ((joins ls).length + 1) = k at hk ⊢
    refine Ev.neg (by omega) (Ev.pos (by omega) (Ev.pos (by omega) ?_))
    obtain ⟨a, b, r, e4, e5, e6, e7, e8⟩ := cut_ex ls k hf (by omega)
    simp only [Int.toNat_natCast, lb_extract, List.drop_zero, e5]
    have hfa : fit a := by rw [e4] at hf; exact (fit_app.1 hf).1
    have hla : ls.length = a.length + b.length := by rw [e4]; simp
    have hrl : (joins a ++ r).length ≤ k := by rw [← e5]; simp; omega
    refine Ev.bind (All_ev a r hfa e6 (by omega)) ?_
    simp only [List.length_map]
    refine Ev.neg (by omega) (Ev.pos (by omega) (Ev.pos (by omega) ?_))
    have e9 : (ls.map lb).take (((a.length : Nat) : Int)).toNat = a.map lb := by
      rw [e4, Int.toNat_natCast, List.map_append]
      have : a.length = (a.map lb).length := by simp
      rw [this, List.take_left]
    simp only [Int.toNat_natCast] at e9
    rw [e9]
    refine Ev.bind (texts_ev a a (by omega)) (Ev.pos (by simp) ?_)
    have e10 : (decide (((joins a).length : Int) > (k : Int))) = false := decide_eq_false (by omega)
    rw [e10]
    refine Ev.step (fun k => by rw [screelaw04_FrameCut.j0]) ?_
    refine Ev.neg (by simp) ?_
    simp only [List.length_map]
    refine Ev.pos (by omega) (Ev.pos (by omega) ?_)
    simp only [Int.toNat_natCast]
    rw [e9]
    have hba : ∀ t ∈ a, t.length ≤ 140737488351232 := fun t ht => hb t (by rw [e4]; simp [ht])
    have hja : (joins ls).length = (joins a).length + (joins b).length := by rw [e4, joins_app]; simp
    refine Ev.bind (Join_ev a (by omega) hba) ?_
    have e11 : jr [] a = (lb (joins a), 0) := by unfold jr; rw [if_pos hfa]; rfl
    rw [e11]
    refine Ev.pos rfl ?_
    have e12 : (((joins a).length : Int) != (((lb (joins a)).size : Nat) : Int)) = false := by rw [lb_size]; simp
    simp only [e12]
    refine Ev.step (fun k => by rw [screelaw04_FrameCut.j1]) ?_
    refine Ev.neg (by simp) ?_
    simp only [List.length_map]
    rcases e8 with rfl | ⟨t, c, rfl, e8⟩
    · have : ls = a := by rw [e4]; simp
      subst this
      refine Ev.pos rfl (Ev.val ?_)
      rw [lb_size]; simp
    · have hlen : (t :: c).length = c.length + 1 := rfl
      refine Ev.neg (by omega) (Ev.pos (by omega) (Ev.pos (by omega) ?_))
      rw [e4, rd_app]
      have ht : t.length ≤ 8000 := hf t (by rw [e4]; simp)
      refine Ev.bind (Make_ev t (by omega)) (Ev.val ?_)
      have e13 : mkr t = (lb (frm t), 0) := by unfold mkr; rw [if_neg (by omega)]
      rw [e13, lb_size]
      have h7 := frm_len t
      have h8 := short_le t.length (by omega)
      rw [w64 _ (by omega) (by omega)]
      simp; omega
end Go.Proofs.Ytkdecekmnbbbhaa.FrameS
