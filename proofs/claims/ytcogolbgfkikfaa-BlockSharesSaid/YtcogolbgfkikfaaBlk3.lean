/- block: what is decoded. -/
import Derived.Test.YtcogolbgfkikfaaPx0
import Derived.Test.YtcogolbgfkikfaaPx6
import Derived.Test.YtcogolbgfkikfaaBlk2
set_option linter.unusedVariables false
set_option linter.unusedSimpArgs false
namespace Go.Proofs.Ytcogolbgfkikfaa.BlkS
open Go.RowKit Go.Proofs.Ytcogolbgfkikfaa.P Go.Proofs.Ytcogolbgfkikfaa.Th Go.Proofs.Ytcogolbgfkikfaa.NumS Go.Proofs.YtcogolbgfkikfaaW.PrintWords Go.Proofs.YtcogolbgfkikfaaW.PrintLast Go.Proofs.YtcogolbgfkikfaaW.PrintMore

def nu (s : List UInt8) (b : Bool) : Nat × List UInt8 × Bool := match tk s with
  | some (n, r) => (n, r, b)
  | none => (0, [], true)
theorem nu_some {s r : List UInt8} {n : Nat} (h : tk s = some (n, r)) (b : Bool) : nu s b = (n, r, b) := by unfold nu; rw [h]
theorem nu_none {s : List UInt8} (h : tk s = none) (b : Bool) : nu s b = (0, [], true) := by unfold nu; rw [h]
theorem nu_le (s : List UInt8) (b : Bool) : (nu s b).2.1.length ≤ s.length ∧ (nu s b).1 < 18446744073709551616 := by
  cases h : tk s with
  | none => rw [nu_none h]; simp
  | some q =>
    obtain ⟨n, r⟩ := q
    rw [nu_some h]
    obtain ⟨h1, h2⟩ := (tk_iff _ _ _).1 h
    exact ⟨by rw [h2]; simp, h1⟩
theorem nu_short {n : Nat} (h : n < 18446744073709551616) (r : List UInt8) (b : Bool) : nu (short n ++ r) b = (n, r, b) := nu_some (tk_short n r h) b
theorem number_ev (s : List UInt8) (b : Bool) (h : s.length ≤ 140737488351232) : Ev (fun k => block_Decode.number k (lb s) b) (((nu s b).1 : Int), lb (nu s b).2.1, (nu s b).2.2) := by
  unfold block_Decode.number
  refine Ev.bind (Take_ev s h) (Ev.val ?_)
  cases e : tk s with
  | none => rw [nu_none e]; simp [tres]
  | some q => obtain ⟨n, r⟩ := q; rw [nu_some e]; simp [tres]
def te (s : List UInt8) (b : Bool) (n : Nat) : List UInt8 × List UInt8 × Bool := if b = true then ([], s, true) else (if n > s.length then ([], s, true) else (s.take n, s.drop n, false))
theorem te_le (s : List UInt8) (b : Bool) (n : Nat) : (te s b n).1.length + (te s b n).2.1.length ≤ s.length := by
  unfold te
  split
  · simp
  · split
    · simp
    · simp; omega
theorem te_app (s r : List UInt8) : te (s ++ r) false s.length = (s, r, false) := by
  unfold te
  rw [if_neg (by simp), if_neg (by simp)]
  simp
theorem text_f (s : List UInt8) (b : Bool) (n : Nat) (h : s.length ≤ 140737488351232) : block_Decode.text (lb s) b (n : Int) = some (lb (te s b n).1, lb (te s b n).2.1, (te s b n).2.2) := by
  unfold block_Decode.text te
  rw [lb_size, wu_nat _ (by omega)]
  cases b
  · rw [if_neg (show ¬ (false = true) by simp), if_neg (show ¬ (false = true) by simp)]
    by_cases h1 : n > s.length
    · rw [if_pos (show (n : Int) > (s.length : Int) by omega), if_pos h1]; rfl
    · rw [if_neg (show ¬ (n : Int) > (s.length : Int) by omega), if_neg h1, if_pos (show (0 : Int) ≤ n by omega), if_pos (show (n : Int) ≤ (s.length : Int) by omega), lb_extract, lb_extract, Int.toNat_natCast, List.take_length]
      simp
  · rw [if_pos rfl, if_pos rfl]; rfl
def nx (s : List UInt8) (b : Bool) (last : List UInt8) : ES × List UInt8 × Bool × List UInt8 :=
  let a := nu s b
  if a.1 > last.length then (⟨lb [], 0, false, lb []⟩, a.2.1, true, last) else
    let c := nu a.2.1 a.2.2
    let d := te c.2.1 c.2.2 c.1
    let q := nu d.2.1 d.2.2
    let kd := nu q.2.1 q.2.2
    let u := nu kd.2.1 kd.2.2
    let v := te u.2.1 u.2.2 u.1
    (⟨lb (last.take a.1 ++ d.1), (q.1 : Int), ((kd.1 : Int) == 1), lb v.1⟩, v.2.1, v.2.2 || decide (kd.1 > 1), last.take a.1 ++ d.1)
theorem nx_le (s : List UInt8) (b : Bool) (last : List UInt8) : (nx s b last).2.1.length + (nx s b last).2.2.2.length ≤ s.length + last.length := by
  unfold nx
  have h1 := (nu_le s b).1
  generalize nu s b = a at h1
  obtain ⟨an, sa, ab⟩ := a
  simp only at h1 ⊢
  split
  · simp only; omega
  · have h2 := (nu_le sa ab).1
    generalize nu sa ab = c at h2
    obtain ⟨cn, cs, cb⟩ := c
    simp only at h2 ⊢
    have h3 := te_le cs cb cn
    generalize te cs cb cn = d at h3
    obtain ⟨dt, ds, db⟩ := d
    simp only at h3 ⊢
    have h4 := (nu_le ds db).1
    generalize nu ds db = q at h4
    obtain ⟨qn, qs, qb⟩ := q
    simp only at h4 ⊢
    have h5 := (nu_le qs qb).1
    generalize nu qs qb = kd at h5
    obtain ⟨kn, ks, kb⟩ := kd
    simp only at h5 ⊢
    have h6 := (nu_le ks kb).1
    generalize nu ks kb = u at h6
    obtain ⟨un, us, ub⟩ := u
    simp only at h6 ⊢
    have h7 := te_le us ub un
    rw [List.length_append, List.length_take]
    omega
theorem next_ev (s : List UInt8) (b : Bool) (last : List UInt8) (hs : s.length + last.length ≤ 100000000) : Ev (fun k => block_Decode.next k (lb s) b (lb last)) ((nx s b last).1, lb (nx s b last).2.1, (nx s b last).2.2.1, lb (nx s b last).2.2.2) := by
  unfold block_Decode.next
  refine Ev.bind (number_ev s b (by omega)) ?_
  unfold nx
  have h1 := (nu_le s b).1
  generalize nu s b = a at h1 ⊢
  obtain ⟨an, sa, ab⟩ := a
  simp only at h1 ⊢
  rw [lb_size, wu_nat _ (by omega)]
  by_cases hc : an > last.length
  · rw [if_pos hc]
    exact Ev.pos (by omega) (Ev.val rfl)
  rw [if_neg hc]
  refine Ev.neg (by omega) (Ev.pos (by omega) (Ev.pos (by omega) ?_))
  refine Ev.bind (number_ev sa ab (by omega)) ?_
  have h2 := (nu_le sa ab).1
  generalize nu sa ab = c at h2 ⊢
  obtain ⟨cn, cs, cb⟩ := c
  simp only at h2 ⊢
  refine Ev.just (text_f cs cb cn (by omega)) ?_
  have h3 := te_le cs cb cn
  generalize te cs cb cn = d at h3 ⊢
  obtain ⟨dt, ds, db⟩ := d
  simp only at h3 ⊢
  refine Ev.pos (by rw [lb_extract, lb_size, lb_size]; simp; omega) ?_
  refine Ev.bind (number_ev ds db (by omega)) ?_
  have h4 := (nu_le ds db).1
  generalize nu ds db = q at h4 ⊢
  obtain ⟨qn, qs, qb⟩ := q
  simp only at h4 ⊢
  refine Ev.bind (number_ev qs qb (by omega)) ?_
  have h5 := (nu_le qs qb).1
  generalize nu qs qb = kd at h5 ⊢
  obtain ⟨kn, ks, kb⟩ := kd
  simp only at h5 ⊢
  refine Ev.bind (number_ev ks kb (by omega)) ?_
  have h6 := (nu_le ks kb).1
  generalize nu ks kb = u at h6 ⊢
  obtain ⟨un, us, ub⟩ := u
  simp only at h6 ⊢
  refine Ev.just (text_f us ub un (by omega)) (Ev.val ?_)
  rw [lb_extract, Int.toNat_natCast, lb_append]
  have e : decide ((kn : Int) > 1) = decide (kn > 1) := by rw [Bool.eq_iff_iff]; simp only [decide_eq_true_eq]; omega
  rw [e]
  simp
end Go.Proofs.Ytcogolbgfkikfaa.BlkS
