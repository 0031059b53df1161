/- frame: the reference's Take; All, Join, and what a row of texts is held against. -/
import Derived.Test.YtkdecekmnbbbhaaFrame
set_option linter.unusedVariables false
set_option linter.unusedSimpArgs false
namespace Go.Proofs.Ytkdecekmnbbbhaa.FrameS
open Go.RowKit Go.Proofs.Ytkdecekmnbbbhaa.P Go.Proofs.Ytkdecekmnbbbhaa.Th Go.Proofs.Ytkdecekmnbbbhaa.NumS Go.Proofs.YtkdecekmnbbbhaaW.PrintWords Go.Proofs.YtkdecekmnbbbhaaW.PrintLast Go.Proofs.YtkdecekmnbbbhaaW.PrintMore

theorem RTake_evF (l : List UInt8) (h : l.length ≤ 140737488351232) : Ev (fun k => screeref04_Take.f k (lb l)) (tkr l) := by
  unfold screeref04_Take.f tkr
  by_cases he : l = []
  · rw [if_pos he]; exact Ev.pos (by rw [lb_size, he]; rfl) (Ev.now _)
  have hl0 : 0 < l.length := List.length_pos_iff.2 he
  rw [if_neg he]
  refine Ev.neg (by rw [lb_size]; omega) ?_
  refine Ev.bind (RTake_ev l h) ?_
  unfold tkf
  cases hk : tk l with
  | none =>
    refine Ev.neg (by simp [tres]) ?_
    refine Ev.step (fun k => by rw [screeref04_Take.j0]) ?_
    exact Ev.pos rfl (Ev.now _)
  | some p =>
    obtain ⟨n, r⟩ := p
    have hr := tk_size hk
    obtain ⟨hnb, hl⟩ := (tk_iff _ _ _).1 hk
    refine Ev.pos rfl ?_
    simp only [tres]
    by_cases hn : n ≤ 8000
    · refine Ev.neg (by omega) ?_
      have hW := Lib.hid hnb
      clear hnb
      have ew : wrap64 (n : Int) = (n : Int) := w64 _ (by omega) (by omega)
      have ew1 : wrap64 ((n : Int) + 1) = ((n + 1 : Nat) : Int) := by rw [w64 _ (by omega) (by omega)]; omega
      simp only [if_pos hn, ew, ew1, lb_size]
      refine Ev.step (fun k => by rw [screeref04_Take.j0]) ?_
      cases hd : r.drop n with
      | nil =>
        have : r.length ≤ n := by simpa using hd
        exact Ev.pos (decide_eq_true (by omega)) (Ev.now _)
      | cons c b =>
        have hlen : n < r.length := by
          have := congrArg List.length hd
          simp at this; omega
        refine Ev.neg (by rw [decide_eq_true_eq]; omega) ?_
        simp only [ew]
        refine Ev.pos (by omega) (Ev.pos (by rw [lb_size]; omega) ?_)
        have e0 : ((n : Int)).toNat = n := by omega
        rw [e0, lb_extract, List.drop_zero]
        have ht : (r.take n).length = n := by simp; omega
        refine Ev.bind (RMake_ev _ (by omega)) ?_
        have hm : mkr (r.take n) = (lb (frm (r.take n)), 0) := by unfold mkr; rw [if_neg (by omega)]
        rw [hm]
        have hfl := frm_len (r.take n)
        rw [ht] at hfl
        have hsp : l = (short n ++ r.take n ++ [c]) ++ b := by
          rw [hl]
          have : r = r.take n ++ c :: b := by rw [← hd, List.take_append_drop]
          simp only [List.append_assoc, List.singleton_append]
          rw [← this]
        have hfl2 : (frm (r.take n)).length = (short n ++ r.take n ++ [c]).length := by rw [hfl]; simp; omega
        have hfle : (frm (r.take n)).length ≤ l.length := by
          have hh := congrArg List.length hsp
          rw [List.length_append] at hh
          omega
        refine Ev.pos (by omega) (Ev.pos (by rw [lb_size, lb_size]; omega) ?_)
        simp only [Int.toNat_natCast, lb_extract, lb_toList, List.drop_zero, lb_size, List.take_length]
        have htk : l.take (frm (r.take n)).length = short n ++ r.take n ++ [c] := by
          rw [hfl2]; conv => lhs; rw [hsp]
          exact List.take_left ..
        have hdr : l.drop (frm (r.take n)).length = b := by
          rw [hfl2]; conv => lhs; rw [hsp]
          exact List.drop_left ..
        by_cases hm : c = mark (r.take n)
        · rw [if_pos hm]
          refine Ev.pos ?_ ?_
          · rw [htk, frm, ht, ← hm]
          · rw [hdr]; exact Ev.now _
        · rw [if_neg hm]
          refine Ev.neg ?_ (Ev.now _)
          rw [htk, frm, ht]
          intro hh
          have := List.append_cancel_left hh
          injection this with h1 _
          exact hm h1.symm
    · refine Ev.pos (by omega) ?_
      rw [if_neg hn]
      refine Ev.step (fun k => by rw [screeref04_Take.j0]) ?_
      exact Ev.pos rfl (Ev.now _)

/-! ### frames, one behind the other -/
def joins : List (List UInt8) → List UInt8
  | [] => []
  | t :: l => frm t ++ joins l
theorem joins_app (a b : List (List UInt8)) : joins (a ++ b) = joins a ++ joins b := by
  induction a with
  | nil => rfl
  | cons t a ih => simp [joins, ih]
def fit (l : List (List UInt8)) : Prop := ∀ t ∈ l, t.length ≤ 8000
theorem fit_cons {t : List UInt8} {l : List (List UInt8)} : fit (t :: l) ↔ t.length ≤ 8000 ∧ fit l := by simp [fit]
theorem fit_app {a b : List (List UInt8)} : fit (a ++ b) ↔ fit a ∧ fit b := by
  constructor
  · exact fun h => ⟨fun t m => h t (by simp [m]), fun t m => h t (by simp [m])⟩
  · rintro ⟨h, k⟩ t m
    rcases List.mem_append.1 m with m | m
    · exact h t m
    · exact k t m
instance (l : List (List UInt8)) : Decidable (fit l) := inferInstanceAs (Decidable (∀ t ∈ l, t.length ≤ 8000))
theorem joins_count (l : List (List UInt8)) : l.length ≤ (joins l).length := by
  induction l with
  | nil => simp
  | cons t l ih => have := frm_pos t; simp [joins]; omega
theorem split_ex : ∀ (n : Nat) (l : List UInt8), l.length ≤ n → ∃ ts r, l = joins ts ++ r ∧ fit ts ∧ tkf r = none := by
  intro n
  induction n with
  | zero =>
    intro l h
    have : l = [] := List.length_eq_zero_iff.1 (by omega)
    subst this
    exact ⟨[], [], rfl, by simp [fit], by decide⟩
  | succ n ih =>
    intro l h
    cases hk : tkf l with
    | none => exact ⟨[], l, rfl, by simp [fit], hk⟩
    | some p =>
      obtain ⟨t, r⟩ := p
      obtain ⟨ht, hl⟩ := (tkf_iff _ _ _).1 hk
      have hp := frm_pos t
      have hlen : l.length = (frm t).length + r.length := by rw [hl]; simp
      obtain ⟨ts, q, hq, hf, hn⟩ := ih r (by omega)
      exact ⟨t :: ts, q, by rw [hl, hq]; simp [joins], fit_cons.2 ⟨ht, hf⟩, hn⟩
theorem split_one : ∀ (ts us : List (List UInt8)) (r q : List UInt8), fit ts → fit us → tkf r = none → tkf q = none → joins ts ++ r = joins us ++ q → ts = us ∧ r = q := by
  intro ts
  induction ts with
  | nil =>
    intro us r q _ hu hr hq h
    cases us with
    | nil => exact ⟨rfl, h⟩
    | cons u us =>
      have hu := fit_cons.1 hu
      have := (tkf_iff r u (joins us ++ q)).2 ⟨hu.1, by have h' : r = _ := h; rw [h']; simp [joins]⟩
      rw [hr] at this; simp at this
  | cons t ts ih =>
    intro us r q ht hu hr hq h
    have ht := fit_cons.1 ht
    cases us with
    | nil =>
      have := (tkf_iff q t (joins ts ++ r)).2 ⟨ht.1, by have h' : _ = q := h; rw [← h']; simp [joins]⟩
      rw [hq] at this; simp at this
    | cons u us =>
      have hu := fit_cons.1 hu
      simp only [joins, List.append_assoc] at h
      obtain ⟨rfl, h2⟩ := frm_free ht.1 hu.1 h
      obtain ⟨rfl, rfl⟩ := ih us r q ht.2 hu.2 hr hq h2
      exact ⟨rfl, rfl⟩
theorem tkr_frm (t r : List UInt8) (ht : t.length ≤ 8000) : tkr (frm t ++ r) = (lb t, lb r, 0) := by
  unfold tkr
  have hne : frm t ++ r ≠ [] := by
    have := frm_pos t
    intro h
    have := congrArg List.length h
    rw [List.length_append] at this
    simp only [List.length_nil] at this; omega
  rw [if_neg hne, (tkf_iff _ t r).2 ⟨ht, rfl⟩]
theorem tkr_none (r : List UInt8) (h : tkf r = none) : tkr r = (lb [], lb [], if r = [] then 10 else 2) := by
  unfold tkr
  by_cases he : r = []
  · rw [if_pos he, if_pos he]
  · rw [if_neg he, if_neg he, h]
theorem all_l0 (s r : List UInt8) (hs : s.length ≤ 140737488351232) (hr : tkf r = none) (hrs : r.length ≤ s.length) : ∀ (ts pre : List (List UInt8)), fit ts → (joins ts ++ r).length ≤ s.length → pre.length + ts.length < 8796093022208 →
    Ev (fun k => frame_All.l0 k (lb s) (pre.map lb) (lb (joins ts ++ r))) ((pre ++ ts).map lb, ((s.length - r.length : Nat) : Int)) := by
  intro ts
  induction ts with
  | nil =>
    intro pre _ hl hc
    refine Ev.step (fun k => by rw [frame_All.l0]) ?_
    refine Ev.bind (Take_evF _ (by omega)) ?_
    have he : joins [] ++ r = r := rfl
    rw [he, tkr_none r hr]
    refine Ev.neg (by simp only; split <;> decide) ?_
    rw [lb_size, lb_size, w64 _ (by omega) (by omega), List.append_nil]
    refine Ev.val ?_
    congr 2
    omega
  | cons t ts ih =>
    intro pre hf hl hc
    obtain ⟨h1, h2⟩ := fit_cons.1 hf
    refine Ev.step (fun k => by rw [frame_All.l0]) ?_
    refine Ev.bind (Take_evF _ (by omega)) ?_
    have he : joins (t :: ts) ++ r = frm t ++ (joins ts ++ r) := by simp [joins]
    have hlen : (joins (t :: ts) ++ r).length = (frm t).length + (joins ts ++ r).length := by rw [he]; simp
    rw [he, tkr_frm _ _ h1]
    simp only [List.length_cons] at hc
    refine Ev.pos rfl (Ev.pos (by simp only [List.length_map]; omega) ?_)
    have := ih (pre ++ [t]) h2 (by omega) (by simp; omega)
    simpa using this
theorem All_ev (ts : List (List UInt8)) (r : List UInt8) (hf : fit ts) (hr : tkf r = none) (hs : (joins ts ++ r).length ≤ 1099511627776) :
    Ev (fun k => frame_All.f k (lb (joins ts ++ r))) (ts.map lb, ((joins ts).length : Int)) := by
  have hc := joins_count ts
  have hl : (joins ts ++ r).length = (joins ts).length + r.length := by simp
  have := all_l0 (joins ts ++ r) r (by omega) hr (by omega) ts [] hf (Nat.le_refl _) (by simp; omega)
  have e : ((joins ts ++ r).length - r.length) = (joins ts).length := by omega
  rw [e] at this
  unfold frame_All.f
  simpa using this
theorem rall_l0 (r : List UInt8) (hr : tkf r = none) : ∀ (ts : List (List UInt8)) (dn : List UInt8) (pre : List (List UInt8)), fit ts → (dn ++ (joins ts ++ r)).length ≤ 140737488351232 → pre.length + ts.length < 8796093022208 →
    Ev (fun k => screeref04_All.l0 k (lb (dn ++ (joins ts ++ r))) (pre.map lb) (dn.length : Int)) ((pre ++ ts).map lb, ((dn.length + (joins ts).length : Nat) : Int)) := by
  intro ts
  induction ts with
  | nil =>
    intro dn pre _ hl hc
    have hlen : (dn ++ (joins [] ++ r)).length = dn.length + (joins [] ++ r).length := by simp
    refine Ev.step (fun k => by rw [screeref04_All.l0]) ?_
    refine Ev.pos (by omega) (Ev.pos (by rw [lb_size]; omega) ?_)
    have e0 : ((dn.length : Int)).toNat = dn.length := by omega
    rw [e0, lb_size, lb_extract, List.take_length, List.drop_left]
    refine Ev.bind (RTake_evF _ (by omega)) ?_
    have he : joins [] ++ r = r := rfl
    rw [he, tkr_none r hr]
    refine Ev.neg (by simp only; split <;> decide) ?_
    simp only [joins, List.length_nil, Nat.add_zero, List.append_nil]
    exact Ev.now _
  | cons t ts ih =>
    intro dn pre hf hl hc
    obtain ⟨h1, h2⟩ := fit_cons.1 hf
    have he : joins (t :: ts) ++ r = frm t ++ (joins ts ++ r) := by simp [joins]
    have hlen : (dn ++ (joins (t :: ts) ++ r)).length = dn.length + (frm t).length + (joins ts ++ r).length := by rw [he]; simp; omega
    refine Ev.step (fun k => by rw [screeref04_All.l0]) ?_
    refine Ev.pos (by omega) (Ev.pos (by rw [lb_size]; omega) ?_)
    have e0 : ((dn.length : Int)).toNat = dn.length := by omega
    rw [e0, lb_size, lb_extract, List.take_length, List.drop_left]
    refine Ev.bind (RTake_evF _ (by rw [he, List.length_append]; omega)) ?_
    rw [he, tkr_frm _ _ h1]
    simp only [List.length_cons] at hc
    refine Ev.pos rfl (Ev.pos (by simp only [List.length_map]; omega) ?_)
    rw [← he, hlen, lb_size]
    have e2 : wrap64 (((dn.length + (frm t).length + (joins ts ++ r).length : Nat) : Int) - ((joins ts ++ r).length : Int)) = (((dn ++ frm t).length : Nat) : Int) := by
      have hdf : (dn ++ frm t).length = dn.length + (frm t).length := by simp
      rw [w64 _ (by omega) (by omega)]; omega
    rw [e2]
    have hlen2 : ((dn ++ frm t) ++ (joins ts ++ r)).length = (dn ++ (joins (t :: ts) ++ r)).length := by rw [he]; simp
    have := ih (dn ++ frm t) (pre ++ [t]) h2 (Nat.le_trans (Nat.le_of_eq hlen2) hl) (by simp; omega)
    rw [List.append_assoc, ← he] at this
    simp only [List.map_append, List.map_cons, List.map_nil, List.append_assoc, List.singleton_append] at this
    simp only [joins, List.length_append, List.map_append, List.map_cons] at this ⊢
    rw [← Nat.add_assoc]
    exact this
theorem RAll_ev (ts : List (List UInt8)) (r : List UInt8) (hf : fit ts) (hr : tkf r = none) (hs : (joins ts ++ r).length ≤ 1099511627776) :
    Ev (fun k => screeref04_All.f k (lb (joins ts ++ r))) (ts.map lb, ((joins ts).length : Int)) := by
  have hc := joins_count ts
  have hl : (joins ts ++ r).length = (joins ts).length + r.length := by simp
  have := rall_l0 r hr ts [] [] hf (by simp; omega) (by simp; omega)
  unfold screeref04_All.f
  simpa using this
end Go.Proofs.Ytkdecekmnbbbhaa.FrameS
