/- frame: one byte that is turned is seen. -/
import Derived.Test.YtkdecekmnbbbhaaFrame5
set_option linter.unusedVariables false
set_option linter.unusedSimpArgs false
namespace Go.Proofs.Ytkdecekmnbbbhaa.FrameS
open Go.RowKit Go.Proofs.Ytkdecekmnbbbhaa.P Go.Proofs.Ytkdecekmnbbbhaa.Th Go.Proofs.Ytkdecekmnbbbhaa.NumS Go.Proofs.YtkdecekmnbbbhaaW.PrintWords Go.Proofs.YtkdecekmnbbbhaaW.PrintLast Go.Proofs.YtkdecekmnbbbhaaW.PrintMore

theorem mk_xor (b : UInt8) : ∀ (l : List UInt8) (x : UInt8), mk (x ^^^ b) l = mk x l ^^^ b := by
  intro l
  induction l with
  | nil => intro x; rfl
  | cons c l ih =>
    intro x
    rw [mk_cons, mk_cons, ← ih]
    congr 1
    rw [UInt8.xor_assoc, UInt8.xor_comm b c, ← UInt8.xor_assoc]
theorem mk_set (b : UInt8) : ∀ (l : List UInt8) (x : UInt8) (j : Nat) (h : j < l.length), mk x (l.set j (l[j] ^^^ b)) = mk x l ^^^ b := by
  intro l
  induction l with
  | nil => intro x j h; simp at h
  | cons c l ih =>
    intro x j h
    cases j with
    | zero =>
      simp only [List.set_cons_zero, List.getElem_cons_zero, mk_cons]
      rw [← UInt8.xor_assoc, mk_xor]
    | succ j =>
      simp only [List.set_cons_succ, List.getElem_cons_succ, mk_cons]
      exact ih _ j (by simpa using h)
theorem mk_end (t : List UInt8) : mk 165 (t ++ [mark t]) = 0 := by
  have : mk 165 (t ++ [mark t]) = mk 165 t ^^^ mark t := by simp [mk, List.foldl_append]
  rw [this]
  exact UInt8.xor_self
theorem turned_none (t : List UInt8) (j : Nat) (b : UInt8) (hj : j < (t ++ [mark t]).length) (hb : b ≠ 0) (ht : t.length ≤ 8000) :
    tkf (short t.length ++ (t ++ [mark t]).set j ((t ++ [mark t])[j] ^^^ b)) = none := by
  cases hk : tkf (short t.length ++ (t ++ [mark t]).set j ((t ++ [mark t])[j] ^^^ b)) with
  | none => rfl
  | some p =>
    exfalso
    obtain ⟨u, r⟩ := p
    obtain ⟨hu, h⟩ := (tkf_iff _ _ _).1 hk
    have h2 : short t.length ++ (t ++ [mark t]).set j ((t ++ [mark t])[j] ^^^ b) = short u.length ++ ((u ++ [mark u]) ++ r) := by
      rw [h]; simp [frm]
    obtain ⟨h3, h4⟩ := short_free h2
    have hl := congrArg List.length h4
    simp only [List.length_set, List.length_append, List.length_singleton] at hl
    have hr : r = [] := List.length_eq_zero_iff.1 (by omega)
    rw [hr, List.append_nil] at h4
    have h5 := congrArg (mk 165) h4
    rw [mk_set, mk_end, mk_end] at h5
    rw [UInt8.zero_xor] at h5
    exact hb h5
theorem FrameTurned : ∀ (a0 : ByteArray) (a1 : Int) (a2 : Int), (a0.size ≤ 140737488351232) → ((Lit.int .u16 a1).wf = true) → ((Lit.int .u8 a2).wf = true) → ∃ k, screelaw04_FrameTurned.f k a0 a1 a2 = some true := by
  intro s n b hs hn hb
  obtain ⟨t, rfl⟩ := ex_lb s
  rw [lb_size] at hs
  obtain ⟨hn0, hn1⟩ := wf_u16 hn
  obtain ⟨hb0, hb1⟩ := wf_u8 hb
  refine Ev.rounds ?_
  unfold screelaw04_FrameTurned.f
  refine Ev.bind awake_ev (Ev.pos rfl ?_)
  by_cases h8 : (((lb t).size : Nat) : Int) > 8000
  · exact Ev.pos h8 (Ev.now _)
  refine Ev.neg h8 ?_
  rw [lb_size] at h8
  by_cases h0 : b = 0
  · exact Ev.pos h0 (Ev.now _)
  refine Ev.neg h0 ?_
  have hm : mkr t = (lb (frm t), 0) := by unfold mkr; rw [if_neg (by omega)]
  refine Ev.bind (Make_ev t hs) ?_
  rw [hm]
  have hfl := frm_len t
  have h2 := short_len2 t.length (by omega)
  have h3 := short_pos t.length
  refine Ev.pos ⟨rfl, by simp only [lb_size]; omega, by simp only [lb_size]; omega, hn0, by omega⟩ ?_
  obtain ⟨n1, rfl⟩ := Int.eq_ofNat_of_zero_le hn0
  obtain ⟨b1, rfl⟩ := Int.eq_ofNat_of_zero_le hb0
  have hmod := Nat.mod_lt n1 (Nat.succ_pos t.length)
  have hpl : screelaw04_FrameTurned.place (lb (frm t)) (lb t).size (n1 : Int) = (short t.length).length + (t.length - n1 % (t.length + 1)) := by
    unfold screelaw04_FrameTurned.place
    rw [lb_size, lb_size, hfl]
    have : ((n1 : Int)).toNat = n1 := by omega
    rw [this]
    generalize n1 % (t.length + 1) = m at hmod ⊢
    omega
  have hfr : frm t = short t.length ++ (t ++ [mark t]) := by simp [frm]
  obtain ⟨j, hj⟩ : ∃ j, j = t.length - n1 % (t.length + 1) := ⟨_, rfl⟩
  have hjl : j < (t ++ [mark t]).length := by simp; omega
  rw [← hj] at hpl
  have hset : ofI (screelaw04_FrameTurned.turned (lb (frm t)) ((short t.length).length + j) (b1 : Int)) = short t.length ++ (t ++ [mark t]).set j ((t ++ [mark t])[j] ^^^ UInt8.ofNat b1) := by
    unfold screelaw04_FrameTurned.turned
    rw [bytesOf_lb, hfr]
    have hg : (toI (short t.length ++ (t ++ [mark t]))).getD ((short t.length).length + j) 0 = (((t ++ [mark t])[j]).toNat : Int) := by
      unfold toI
      rw [List.getD_eq_getElem?_getD, List.getElem?_map, List.getElem?_append_right (by omega), Nat.add_sub_cancel_left, List.getElem?_eq_getElem hjl]
      rfl
    rw [hg]
    have hbb : ((b1 : Nat) : Int) = ((UInt8.ofNat b1).toNat : Int) := by rw [u8_ofNat_toNat _ (by omega)]
    rw [hbb, b8_xor]
    have : toI (short t.length ++ (t ++ [mark t])) = toI (short t.length) ++ toI (t ++ [mark t]) := by simp [toI]
    rw [this, List.set_append_right _ _ (by simp [toI])]
    rw [ofI_app, ofI_toI]
    congr 1
    have hl : (toI (short t.length)).length = (short t.length).length := by simp [toI]
    rw [hl, Nat.add_sub_cancel_left]
    have hq : ∀ (q : List UInt8) (x : UInt8), ofI ((toI q).set j ((x.toNat : Nat) : Int)) = q.set j x := by
      intro q x
      have : (toI q).set j ((x.toNat : Nat) : Int) = toI (q.set j x) := by unfold toI; rw [List.map_set]
      rw [this, ofI_toI]
    exact hq _ _
  rw [hpl, son, hset]
  have hb2 : UInt8.ofNat b1 ≠ 0 := by
    intro h
    have := congrArg UInt8.toNat h
    rw [u8_ofNat_toNat _ (by omega)] at this
    apply h0
    have : b1 = 0 := by simpa using this
    omega
  have hno := turned_none t j (UInt8.ofNat b1) hjl hb2 (by omega)
  refine Ev.bind (Take_evF _ (by simp; omega)) ?_
  rw [tkr_none _ hno]
  have hne : short t.length ++ (t ++ [mark t]).set j ((t ++ [mark t])[j] ^^^ UInt8.ofNat b1) ≠ [] := by
    intro h
    have := congrArg List.length h
    rw [List.length_append] at this
    simp only [List.length_nil] at this
    omega
  rw [if_neg hne]
  exact Ev.pos ⟨rfl, rfl, rfl⟩ (Ev.now _)
end Go.Proofs.Ytkdecekmnbbbhaa.FrameS
