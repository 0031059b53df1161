/- What the printed functions of frame, and of its reference, come to: over lists of bytes. -/
import Derived.Test.YtkdecekmnbbbhaaNumA
set_option linter.unusedVariables false
set_option linter.unusedSimpArgs false
namespace Go.Proofs.Ytkdecekmnbbbhaa.FrameS
open Go.RowKit Go.Proofs.Ytkdecekmnbbbhaa.P Go.Proofs.Ytkdecekmnbbbhaa.Th Go.Proofs.Ytkdecekmnbbbhaa.NumS Go.Proofs.YtkdecekmnbbbhaaW.PrintWords Go.Proofs.YtkdecekmnbbbhaaW.PrintLast Go.Proofs.YtkdecekmnbbbhaaW.PrintMore

theorem b8_xor (a b : UInt8) : Go.bits .xor .u8 (a.toNat : Int) (b.toNat : Int) = ((a ^^^ b).toNat : Int) := by
  have e : Go.bits .xor .u8 (a.toNat : Int) (b.toNat : Int) = IntKind.u8.wrap (((BitVec.ofNat 8 a.toNat ^^^ BitVec.ofNat 8 b.toNat).toNat : Nat) : Int) := rfl
  have ha := u8_lt a
  have hb := u8_lt b
  have hx := u8_lt (a ^^^ b)
  have hn : (a ^^^ b).toNat = a.toNat ^^^ b.toNat := by simp
  rw [e, BitVec.toNat_xor, BitVec.toNat_ofNat, BitVec.toNat_ofNat, Nat.mod_eq_of_lt ha, Nat.mod_eq_of_lt hb, ← hn, IntKind.wrap_u8]
  omega
def mk (x : UInt8) (t : List UInt8) : UInt8 := t.foldl (fun a c => a ^^^ c) x
def mark (t : List UInt8) : UInt8 := mk 165 t
theorem mk_cons (x c : UInt8) (t : List UInt8) : mk x (c :: t) = mk (x ^^^ c) t := rfl
theorem mark_l0 : ∀ (rest pre : List UInt8) (x : UInt8), (pre ++ rest).length ≤ 140737488351232 →
    Ev (fun k => frame_mark.l0 k (lb (pre ++ rest)) (x.toNat : Int) (((lb (pre ++ rest)).size : Nat) : Int) (pre.length : Int)) ((mk x rest).toNat : Int) := by
  intro rest
  induction rest with
  | nil =>
    intro pre x hl
    refine Ev.step (fun k => by rw [frame_mark.l0]) ?_
    exact Ev.neg (by rw [lb_size]; simp) (Ev.now _)
  | cons c rest ih =>
    intro pre x hl
    have hlen : (pre ++ c :: rest).length = pre.length + 1 + rest.length := by simp; omega
    refine Ev.step (fun k => by rw [frame_mark.l0]) ?_
    refine Ev.pos (by rw [lb_size]; omega) (Ev.pos (by omega) (Ev.pos (by rw [lb_size]; omega) ?_))
    have e1 : wrap64 ((pre.length : Int) + 1) = ((pre.length + 1 : Nat) : Int) := by rw [w64 _ (by omega) (by omega)]; omega
    rw [bt_app, b8_xor, e1]
    have := ih (pre ++ [c]) (x ^^^ c) (by simpa using hl)
    simpa [mk_cons] using this
theorem mark_ev (l : List UInt8) (h : l.length ≤ 140737488351232) : Ev (fun k => frame_mark.f k (lb l)) ((mark l).toNat : Int) :=
  mark_l0 l [] 165 (by simpa using h)
theorem ofI_u8 (c : UInt8) : ofI [(c.toNat : Int)] = [c] := by simp [ofI]
/-- a text's frame -/
def frm (t : List UInt8) : List UInt8 := short t.length ++ t ++ [mark t]
def mkr (t : List UInt8) : ByteArray × Int := if t.length > 8000 then (lb [], 5) else (lb (frm t), 0)
theorem Make_ev (t : List UInt8) (h : t.length ≤ 140737488351232) : Ev (fun k => frame_Make.f k (lb t)) (mkr t) := by
  unfold frame_Make.f mkr
  by_cases hl : t.length > 8000
  · rw [if_pos hl]; exact Ev.pos (by rw [lb_size]; omega) (Ev.now _)
  · rw [if_neg hl]
    refine Ev.neg (by rw [lb_size]; omega) ?_
    rw [lb_size, wu_nat _ (by omega)]
    refine Ev.bind (Short_ev t.length (by omega)) ?_
    have h2 := short_len2 t.length (by omega)
    refine Ev.pos (by rw [lb_size]; omega) (Ev.bind (mark_ev t h) ?_)
    refine Ev.just rfl ?_
    rw [son, ofI_u8, lb_append, lb_append]
    refine Ev.pos (by rw [lb_size, lb_size]; simp; omega) (Ev.now _)
theorem rmake_l0 : ∀ (rest pre : List UInt8) (x : UInt8), (pre ++ rest).length ≤ 8000 →
    Ev (fun k => screeref04_Make.l0 k (lb (pre ++ rest)) (x.toNat : Int) (pre.length : Int)) (lb (short (pre ++ rest).length ++ (pre ++ rest) ++ [mk x rest]), 0) := by
  intro rest
  induction rest with
  | nil =>
    intro pre x hl
    refine Ev.step (fun k => by rw [screeref04_Make.l0]) ?_
    refine Ev.neg (by rw [lb_size]; simp) ?_
    rw [lb_size, wu_nat _ (by omega)]
    refine Ev.bind (RShort_ev _ (by omega)) ?_
    have h2 := short_len2 (pre ++ []).length hl
    refine Ev.pos (by rw [lb_size]; omega) (Ev.just rfl ?_)
    rw [son, ofI_u8, lb_append, lb_append]
    exact Ev.pos (by rw [lb_size, lb_size]; rw [List.length_append]; simp only [List.length_singleton]; omega) (Ev.now _)
  | cons c rest ih =>
    intro pre x hl
    have hlen : (pre ++ c :: rest).length = pre.length + 1 + rest.length := by simp; omega
    refine Ev.step (fun k => by rw [screeref04_Make.l0]) ?_
    refine Ev.pos (by rw [lb_size]; omega) (Ev.pos (by omega) ?_)
    have e1 : wrap64 ((pre.length : Int) + 1) = ((pre.length + 1 : Nat) : Int) := by rw [w64 _ (by omega) (by omega)]; omega
    rw [bt_app, b8_xor, e1]
    have := ih (pre ++ [c]) (x ^^^ c) (by simpa using hl)
    simpa [mk_cons] using this
theorem RMake_ev (t : List UInt8) (h : t.length ≤ 140737488351232) : Ev (fun k => screeref04_Make.f k (lb t)) (mkr t) := by
  unfold screeref04_Make.f mkr
  by_cases hl : t.length > 8000
  · rw [if_pos hl]; exact Ev.pos (by rw [lb_size]; omega) (Ev.now _)
  · rw [if_neg hl]
    refine Ev.neg (by rw [lb_size]; omega) ?_
    exact rmake_l0 t [] 165 (by simp; omega)

/-! ### a frame is read -/
def tkf (l : List UInt8) : Option (List UInt8 × List UInt8) := match tk l with
  | none => none
  | some (n, r) => if n ≤ 8000 then (match r.drop n with
    | [] => none
    | c :: b => if c = mark (r.take n) then some (r.take n, b) else none) else none
theorem tkf_iff (l t r : List UInt8) : tkf l = some (t, r) ↔ t.length ≤ 8000 ∧ l = frm t ++ r := by
  unfold tkf
  constructor
  · intro h
    cases hk : tk l with
    | none => rw [hk] at h; simp at h
    | some p =>
      obtain ⟨n, q⟩ := p
      rw [hk] at h
      simp only at h
      by_cases hn : n ≤ 8000
      · rw [if_pos hn] at h
        obtain ⟨hb, hl⟩ := (tk_iff _ _ _).1 hk
        cases hd : q.drop n with
        | nil => rw [hd] at h; simp at h
        | cons c b =>
          rw [hd] at h
          simp only at h
          by_cases hc : c = mark (q.take n)
          · rw [if_pos hc] at h
            simp only [Option.some.injEq, Prod.mk.injEq] at h
            obtain ⟨rfl, rfl⟩ := h
            have hlen : n < q.length := by
              have := congrArg List.length hd
              simp at this; omega
            have ht : (q.take n).length = n := by simp; omega
            refine ⟨by omega, ?_⟩
            unfold frm
            rw [ht, hl, ← hc]
            have : q = q.take n ++ c :: b := by rw [← hd, List.take_append_drop]
            simp only [List.append_assoc, List.singleton_append]
            rw [← this]
          · rw [if_neg hc] at h; simp at h
      · rw [if_neg hn] at h; simp at h
  · rintro ⟨ht, rfl⟩
    have e : frm t ++ r = short t.length ++ (t ++ mark t :: r) := by simp [frm]
    rw [e, tk_short _ _ (by omega)]
    simp only
    rw [if_pos ht, List.drop_append_of_le_length (Nat.le_refl _)]
    simp
theorem frm_free {t u r s : List UInt8} (ht : t.length ≤ 8000) (hu : u.length ≤ 8000) (h : frm t ++ r = frm u ++ s) : t = u ∧ r = s := by
  have h1 := (tkf_iff (frm t ++ r) t r).2 ⟨ht, rfl⟩
  rw [h, (tkf_iff _ u s).2 ⟨hu, rfl⟩] at h1
  simp at h1
  exact ⟨h1.1.symm, h1.2.symm⟩
theorem frm_len (t : List UInt8) : (frm t).length = (short t.length).length + t.length + 1 := by simp [frm]; omega
theorem frm_pos (t : List UInt8) : 0 < (frm t).length := by rw [frm_len]; omega
def tkr (l : List UInt8) : ByteArray × ByteArray × Int := if l = [] then (lb [], lb [], 10) else match tkf l with
  | none => (lb [], lb [], 2)
  | some (t, r) => (lb t, lb r, 0)
theorem tk_size {l r : List UInt8} {n : Nat} (h : tk l = some (n, r)) : r.length ≤ l.length := by
  obtain ⟨_, rfl⟩ := (tk_iff _ _ _).1 h
  simp
theorem Take_evF (l : List UInt8) (h : l.length ≤ 140737488351232) : Ev (fun k => frame_Take.f k (lb l)) (tkr l) := by
  unfold frame_Take.f tkr
  by_cases he : l = []
  · rw [if_pos he]; exact Ev.pos (by rw [lb_toList]; exact he) (Ev.now _)
  rw [if_neg he]
  refine Ev.neg (by rw [lb_toList]; exact he) ?_
  refine Ev.bind (Take_ev l h) ?_
  unfold tkf
  cases hk : tk l with
  | none =>
    refine Ev.neg (by simp [tres]) ?_
    refine Ev.step (fun k => by rw [frame_Take.j0]) ?_
    exact Ev.pos rfl (Ev.now _)
  | some p =>
    obtain ⟨n, r⟩ := p
    have hr := tk_size hk
    have hnb := ((tk_iff _ _ _).1 hk).1
    refine Ev.pos rfl ?_
    simp only [tres]
    by_cases hn : n ≤ 8000
    · refine Ev.neg (by omega) ?_
      have ew : wrap64 (n : Int) = (n : Int) := w64 _ (by omega) (by omega)
      simp only [if_pos hn, ew, lb_size]
      refine Ev.step (fun k => by rw [frame_Take.j0]) ?_
      have hW := Lib.hid hnb
      clear hnb
      cases hd : r.drop n with
      | nil =>
        have : r.length ≤ n := by simpa using hd
        exact Ev.pos (decide_eq_true (by omega)) (Ev.now _)
      | cons c b =>
        have hlen : n < r.length := by
          have := congrArg List.length hd
          simp at this; omega
        refine Ev.neg (by rw [decide_eq_true_eq]; omega) ?_
        refine Ev.pos (by omega) (Ev.pos (by rw [lb_size]; omega) (Ev.pos (by rw [lb_size]; omega) ?_))
        have e0 : ((n : Int)).toNat = n := by omega
        rw [e0, lb_extract, List.drop_zero]
        refine Ev.bind (mark_ev _ (by simp; omega)) ?_
        have hc : r[n] = c := by
          have := List.drop_eq_getElem_cons hlen
          rw [hd] at this
          injection this with h1 h2
          exact h1.symm
        have hb : r.drop (n + 1) = b := by
          have := List.drop_eq_getElem_cons hlen
          rw [hd] at this
          injection this with h1 h2
          exact h2.symm
        rw [bt_nat _ _ hlen, hc]
        have hiff : ((c.toNat : Int) = ((mark (r.take n)).toNat : Int)) ↔ c = mark (r.take n) := by
          constructor
          · intro h; exact u8_ext (by omega)
          · intro h; rw [h]
        simp only
        by_cases hm : c = mark (r.take n)
        · rw [if_pos hm]
          refine Ev.pos (hiff.2 hm) ?_
          have e1 : IntKind.u64.wrap ((n : Int) + 1) = ((n + 1 : Nat) : Int) := by rw [wu_in _ (by omega) (by omega)]; omega
          rw [e1]
          refine Ev.pos (by omega) (Ev.pos (by rw [lb_size]; omega) ?_)
          have e2 : (((n + 1 : Nat) : Int)).toNat = n + 1 := by omega
          rw [e2, lb_size, lb_extract, List.take_length, hb]
          exact Ev.now _
        · rw [if_neg hm]
          exact Ev.neg (fun h => hm (hiff.1 h)) (Ev.now _)
    · refine Ev.pos (by omega) ?_
      rw [if_neg hn]
      refine Ev.step (fun k => by rw [frame_Take.j0]) ?_
      exact Ev.pos rfl (Ev.now _)
end Go.Proofs.Ytkdecekmnbbbhaa.FrameS
