/- frame: Join, and the laws' own helpers. -/
import Derived.Test.YtkdecekmnbbbhaaFrame2
set_option linter.unusedVariables false
set_option linter.unusedSimpArgs false
namespace Go.Proofs.Ytkdecekmnbbbhaa.FrameS
open Go.RowKit Go.Proofs.Ytkdecekmnbbbhaa.P Go.Proofs.Ytkdecekmnbbbhaa.Th Go.Proofs.Ytkdecekmnbbbhaa.NumS Go.Proofs.YtkdecekmnbbbhaaW.PrintWords Go.Proofs.YtkdecekmnbbbhaaW.PrintLast Go.Proofs.YtkdecekmnbbbhaaW.PrintMore

theorem ex_lbs (l : List ByteArray) : ∃ ls : List (List UInt8), l = ls.map lb := ⟨l.map bl, by simp [Function.comp_def, lb_bl]⟩
theorem lbs_inj {a b : List (List UInt8)} (h : a.map lb = b.map lb) : a = b := by
  have := congrArg (List.map bl) h
  simpa [Function.comp_def, bl_lb] using this
theorem rd_lbs (ls : List (List UInt8)) (i : Nat) (h : i < ls.length) : rdOf ByteArray.empty (ls.map lb) (i : Int) = lb ls[i] := by
  simp [rdOf, h]
theorem rd_app (a : List (List UInt8)) (t : List UInt8) (b : List (List UInt8)) : rdOf ByteArray.empty ((a ++ t :: b).map lb) (a.length : Int) = lb t := by
  rw [rd_lbs _ _ (by simp)]; simp
def jr (a : List UInt8) (l : List (List UInt8)) : ByteArray × Int := if fit l then (lb (a ++ joins l), 0) else (lb [], 5)
theorem join_go : ∀ (l : List (List UInt8)) (a : List UInt8), a.length + (joins l).length ≤ 1099511627776 → (∀ t ∈ l, t.length ≤ 140737488351232) →
    Ev (fun k => frame_Join.go k (l.map lb) (lb a)) (jr a l) := by
  intro l
  induction l with
  | nil =>
    intro a _ _
    have : jr a [] = (lb a, 0) := by unfold jr; rw [if_pos (by simp [fit])]; simp [joins]
    rw [this]
    exact Ev.now _
  | cons t l ih =>
    intro a h hb
    simp only [List.map_cons, frame_Join.go]
    simp only [joins, List.length_append] at h
    refine Ev.bind (Make_ev t (hb t (by simp))) ?_
    unfold mkr
    by_cases ht : t.length > 8000
    · rw [if_pos ht]
      have : jr a (t :: l) = (lb [], 5) := by unfold jr; rw [if_neg (fun hf => by have := (fit_cons.1 hf).1; omega)]
      rw [this]
      exact Ev.neg (by decide) (Ev.now _)
    · rw [if_neg ht]
      refine Ev.pos rfl (Ev.pos (by rw [lb_size, lb_size]; omega) ?_)
      rw [lb_append]
      have := ih (a ++ frm t) (by rw [List.length_append]; omega) (fun u hu => hb u (by simp [hu]))
      have e : jr (a ++ frm t) l = jr a (t :: l) := by
        unfold jr
        by_cases hf : fit l
        · rw [if_pos hf, if_pos (fit_cons.2 ⟨by omega, hf⟩)]; simp [joins]
        · rw [if_neg hf, if_neg (fun h => hf (fit_cons.1 h).2)]
      rw [← e]
      exact this
theorem Join_ev (l : List (List UInt8)) (h : (joins l).length ≤ 1099511627776) (hb : ∀ t ∈ l, t.length ≤ 140737488351232) :
    Ev (fun k => frame_Join.f k (l.map lb)) (jr [] l) := by
  have hc := joins_count l
  unfold frame_Join.f
  refine Ev.pos (by rw [List.length_map]; omega) ?_
  exact join_go l [] (by simpa using h) hb
theorem rjoin_l0 : ∀ (l pre : List (List UInt8)) (a : List UInt8), a.length + (joins l).length ≤ 1099511627776 → (∀ t ∈ l, t.length ≤ 140737488351232) → (pre ++ l).length ≤ 1099511627776 →
    Ev (fun k => screeref04_Join.l0 k ((pre ++ l).map lb) (lb a) (pre.length : Int)) (jr a l) := by
  intro l
  induction l with
  | nil =>
    intro pre a _ _ _
    have : jr a [] = (lb a, 0) := by unfold jr; rw [if_pos (by simp [fit])]; simp [joins]
    rw [this]
    refine Ev.step (fun k => by rw [screeref04_Join.l0]) ?_
    exact Ev.neg (by simp) (Ev.now _)
  | cons t l ih =>
    intro pre a h hb hl
    have hlen : (pre ++ t :: l).length = pre.length + 1 + l.length := by simp; omega
    simp only [joins, List.length_append] at h
    refine Ev.step (fun k => by rw [screeref04_Join.l0]) ?_
    refine Ev.pos (by rw [List.length_map]; omega) (Ev.pos (by omega) ?_)
    rw [rd_app]
    refine Ev.bind (RMake_ev t (hb t (by simp))) ?_
    unfold mkr
    by_cases ht : t.length > 8000
    · rw [if_pos ht]
      have : jr a (t :: l) = (lb [], 5) := by unfold jr; rw [if_neg (fun hf => by have := (fit_cons.1 hf).1; omega)]
      rw [this]
      exact Ev.neg (by decide) (Ev.now _)
    · rw [if_neg ht]
      refine Ev.pos rfl (Ev.pos (by rw [lb_size, lb_size]; omega) ?_)
      have e1 : wrap64 ((pre.length : Int) + 1) = (((pre ++ [t]).length : Nat) : Int) := by rw [w64 _ (by omega) (by omega)]; simp
      rw [lb_append, e1]
      have := ih (pre ++ [t]) (a ++ frm t) (by rw [List.length_append]; omega) (fun u hu => hb u (by simp [hu])) (by simpa using hl)
      have e : jr (a ++ frm t) l = jr a (t :: l) := by
        unfold jr
        by_cases hf : fit l
        · rw [if_pos hf, if_pos (fit_cons.2 ⟨by omega, hf⟩)]; simp [joins]
        · rw [if_neg hf, if_neg (fun h => hf (fit_cons.1 h).2)]
      rw [← e]
      simpa using this
theorem RJoin_ev (l : List (List UInt8)) (h : (joins l).length ≤ 1099511627776) (hb : ∀ t ∈ l, t.length ≤ 140737488351232) :
    Ev (fun k => screeref04_Join.f k (l.map lb)) (jr [] l) := by
  have hc := joins_count l
  have := rjoin_l0 l [] [] (by simpa using h) hb (by simp; omega)
  exact this

/-! ### texts held against texts; how much they are -/
theorem texts_l0 : ∀ (b a pa pb : List (List UInt8)), a.length = b.length → pa.length = pb.length → (pa ++ a).length ≤ 1099511627776 →
    Ev (fun k => screelaw04_texts.l0 k ((pa ++ a).map lb) ((pb ++ b).map lb) ((pa ++ a).length : Int) (pa.length : Int)) (decide (a = b)) := by
  intro b
  induction b with
  | nil =>
    intro a pa pb h hp hl
    have : a = [] := List.length_eq_zero_iff.1 h
    subst this
    refine Ev.step (fun k => by rw [screelaw04_texts.l0]) ?_
    exact Ev.neg (by simp) (Ev.now _)
  | cons u b ih =>
    intro a pa pb h hp hl
    cases a with
    | nil => simp at h
    | cons t a =>
      have hlen : (pa ++ t :: a).length = pa.length + 1 + a.length := by simp; omega
      have hlen2 : (pb ++ u :: b).length = pb.length + 1 + b.length := by simp; omega
      simp only [List.length_cons] at h
      refine Ev.step (fun k => by rw [screelaw04_texts.l0]) ?_
      refine Ev.pos (by omega) (Ev.pos (by omega) (Ev.pos (by rw [List.length_map]; omega) (Ev.pos (by rw [List.length_map]; omega) ?_)))
      have e2 : rdOf ByteArray.empty ((pb ++ u :: b).map lb) (pa.length : Int) = lb u := by rw [hp]; exact rd_app _ _ _
      rw [rd_app, e2, lb_toList, lb_toList]
      by_cases ht : t = u
      · refine Ev.pos ht ?_
        have e1 : wrap64 ((pa.length : Int) + 1) = (((pa ++ [t]).length : Nat) : Int) := by rw [w64 _ (by omega) (by omega)]; simp
        rw [e1]
        have := ih a (pa ++ [t]) (pb ++ [u]) (by omega) (by simp; omega) (by simpa using hl)
        have ed : decide (t :: a = u :: b) = decide (a = b) := by simp [ht]
        rw [ed]
        simpa using this
      · have ed : decide (t :: a = u :: b) = false := by simp [ht]
        rw [ed]
        exact Ev.neg ht (Ev.now _)
theorem texts_ev (a b : List (List UInt8)) (hl : a.length ≤ 1099511627776) : Ev (fun k => screelaw04_texts.f k (a.map lb) (b.map lb)) (decide (a = b)) := by
  unfold screelaw04_texts.f
  by_cases h : a.length = b.length
  · refine Ev.pos (by simp; omega) ?_
    rw [List.length_map]
    exact texts_l0 b a [] [] h rfl (by simpa using hl)
  · have : decide (a = b) = false := by
      apply decide_eq_false
      intro e; exact h (by rw [e])
    rw [this]
    exact Ev.neg (by simp; omega) (Ev.now _)
def tot (l : List (List UInt8)) : Nat := (l.map List.length).sum
theorem tot_cons (t : List UInt8) (l : List (List UInt8)) : tot (t :: l) = t.length + tot l := by simp [tot]
theorem tot_app (a b : List (List UInt8)) : tot (a ++ b) = tot a + tot b := by simp [tot]
def isLarge (l : List (List UInt8)) : Bool := decide (100 < l.length) || decide (8192 < tot l)
def W : Int := 18446744073709551616
theorem wrap_mod (a b : Int) (h : (a - b) % W = 0) : wrap64 a = wrap64 b := by unfold wrap64 W at *; omega
/-- (the sum of any lengths, as Go reckons it) -/
def sumw (x : Int) : List (List UInt8) → Int
  | [] => x
  | t :: l => sumw (wrap64 (x + (t.length : Int))) l
theorem large_l0 : ∀ (l pre : List (List UInt8)) (x : Int), (pre ++ l).length ≤ 1099511627776000 →
    Ev (fun k => screelaw04_large.l0 k ((pre ++ l).map lb) x ((pre ++ l).length : Int) (pre.length : Int)) (if 100 < (pre ++ l).length then true else decide (sumw x l > 8192)) := by
  intro l
  induction l with
  | nil =>
    intro pre x hl
    refine Ev.step (fun k => by rw [screelaw04_large.l0]) ?_
    refine Ev.neg (by simp) ?_
    rw [List.length_map]
    by_cases h : 100 < (pre ++ []).length
    · rw [if_pos h]; exact Ev.pos (by omega) (Ev.now _)
    · rw [if_neg h]; exact Ev.neg (by omega) (Ev.now _)
  | cons t l ih =>
    intro pre x hl
    have hlen : (pre ++ t :: l).length = pre.length + 1 + l.length := by simp; omega
    refine Ev.step (fun k => by rw [screelaw04_large.l0]) ?_
    refine Ev.pos (by omega) (Ev.pos (by omega) (Ev.pos (by rw [List.length_map]; omega) ?_))
    rw [rd_app, lb_size]
    have e1 : wrap64 ((pre.length : Int) + 1) = (((pre ++ [t]).length : Nat) : Int) := by rw [w64 _ (by omega) (by omega)]; simp
    rw [e1]
    have := ih (pre ++ [t]) (wrap64 (x + (t.length : Int))) (by simpa using hl)
    simpa [sumw] using this
theorem sumw_tot : ∀ (l : List (List UInt8)) (x : Nat), x + tot l < 9223372036854775808 → sumw (x : Int) l = ((x + tot l : Nat) : Int) := by
  intro l
  induction l with
  | nil => intro x h; simp [sumw, tot]
  | cons t l ih =>
    intro x h
    rw [tot_cons] at h
    have e : wrap64 ((x : Int) + (t.length : Int)) = ((x + t.length : Nat) : Int) := by rw [w64 _ (by omega) (by omega)]; omega
    rw [sumw, e, ih _ (by omega), tot_cons]
    congr 1; omega
theorem tot_le (l : List (List UInt8)) (m : Nat) (h : ∀ t ∈ l, t.length ≤ m) : tot l ≤ l.length * m := by
  induction l with
  | nil => simp [tot]
  | cons t l ih =>
    have h1 := h t (by simp)
    have h2 := ih (fun u hu => h u (by simp [hu]))
    rw [tot_cons, List.length_cons, Nat.succ_mul]
    omega
theorem large_ev (l : List (List UInt8)) (hb : ∀ t ∈ l, t.length ≤ 140737488351232) (hl : l.length ≤ 1099511627776000) :
    Ev (fun k => screelaw04_large.f k (l.map lb)) (isLarge l) := by
  unfold screelaw04_large.f
  rw [List.length_map]
  have := large_l0 l [] 0 (by simpa using hl)
  refine Ev.eq this ?_
  unfold isLarge
  simp only [List.nil_append]
  by_cases h : 100 < l.length
  · rw [if_pos h]; simp [h]
  · rw [if_neg h]
    have h2 := tot_le l 140737488351232 hb
    have h3 : tot l ≤ 100 * 140737488351232 := Nat.le_trans h2 (Nat.mul_le_mul_right _ (by omega))
    have e := sumw_tot l 0 (by omega)
    rw [Nat.zero_add] at e
    have e0 : ((0 : Nat) : Int) = 0 := rfl
    rw [e0] at e
    rw [e]
    simp [h]
    omega
theorem not_large {l : List (List UInt8)} (h : isLarge l = false) : l.length ≤ 100 ∧ tot l ≤ 8192 := by
  unfold isLarge at h
  simp at h
  exact h
theorem short_le (n : Nat) (h : n ≤ 8192) : (short n).length ≤ 2 := short_len 1 n (Nat.lt_of_le_of_lt h (by decide))
theorem mem_tot {l : List (List UInt8)} {t : List UInt8} (h : t ∈ l) : t.length ≤ tot l := by
  induction l with
  | nil => simp at h
  | cons u l ih =>
    rw [tot_cons]
    rcases List.mem_cons.1 h with rfl | h
    · omega
    · have := ih h; omega
theorem joins_le : ∀ (l : List (List UInt8)), tot l ≤ 8192 → (joins l).length ≤ tot l + 3 * l.length := by
  intro l
  induction l with
  | nil => intro _; simp [joins]
  | cons t l ih =>
    intro h
    rw [tot_cons] at h
    have := ih (by omega)
    have h2 := short_le t.length (by omega)
    have h3 := frm_len t
    rw [tot_cons]
    simp only [joins, List.length_append, List.length_cons]
    omega
end Go.Proofs.Ytkdecekmnbbbhaa.FrameS
