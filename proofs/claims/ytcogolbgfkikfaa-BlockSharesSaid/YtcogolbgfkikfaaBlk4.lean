/- block: Count, Decode. -/
import Derived.Test.YtcogolbgfkikfaaPx0
import Derived.Test.YtcogolbgfkikfaaPx5
import Derived.Test.YtcogolbgfkikfaaPx6
import Derived.Test.YtcogolbgfkikfaaBlk3
set_option linter.unusedVariables false
set_option linter.unusedSimpArgs false
namespace Go.Proofs.Ytcogolbgfkikfaa.BlkS
open Go.RowKit Go.Proofs.Ytcogolbgfkikfaa.P Go.Proofs.Ytcogolbgfkikfaa.Th Go.Proofs.Ytcogolbgfkikfaa.NumS Go.Proofs.YtcogolbgfkikfaaW.PrintWords Go.Proofs.YtcogolbgfkikfaaW.PrintLast Go.Proofs.YtcogolbgfkikfaaW.PrintMore

def dgo : Nat → List UInt8 → Bool → List UInt8 → List ES → Bool × List ES
  | 0, _, b, _, l => (b, l)
  | m + 1, s, b, last, l => dgo m (nx s b last).2.1 (nx s b last).2.2.1 (nx s b last).2.2.2 (l ++ [(nx s b last).1])
theorem dgo_ev : ∀ (m : Nat) (s : List UInt8) (b : Bool) (last : List UInt8) (l : List ES), s.length + last.length ≤ 100000000 → Ev (fun k => block_Decode.go k m (lb s) b (lb last) l) (dgo m s b last l) := by
  intro m
  induction m with
  | zero => intro s b last l _; exact Ev.val rfl
  | succ m ih =>
    intro s b last l h
    simp only [block_Decode.go, dgo]
    refine Ev.bind (next_ev s b last h) ?_
    exact ih _ _ _ _ (Nat.le_trans (nx_le s b last) h)
theorem dgo_len : ∀ (m : Nat) (s : List UInt8) (b : Bool) (last : List UInt8) (l : List ES), (dgo m s b last l).2.length = l.length + m := by
  intro m
  induction m with
  | zero => intro s b last l; rfl
  | succ m ih => intro s b last l; simp only [dgo]; rw [ih, List.length_append, List.length_singleton]; omega
def cntB (s : List UInt8) : Nat := if s.length < 8 then 0 else (if be 0 (s.drop (s.length - 8)) < 1 ∨ be 0 (s.drop (s.length - 8)) > 32 then 0 else be 0 (s.drop (s.length - 8)))
theorem cntB_le (s : List UInt8) : cntB s ≤ 32 := by
  unfold cntB
  split
  · omega
  · split <;> omega
theorem Count_ev (s : List UInt8) (hs : s.length ≤ 100000000) : Ev (fun k => block_Count.f k (lb s)) ((cntB s : Nat) : Int) := by
  unfold block_Count.f cntB
  rw [lb_size]
  by_cases h : s.length < 8
  · rw [if_pos h]
    exact Ev.pos (by omega) (Ev.val rfl)
  · rw [if_neg h]
    have e : wrap64 ((s.length : Int) - 8) = ((s.length - 8 : Nat) : Int) := by rw [w64 _ (by omega) (by omega)]; omega
    rw [e]
    refine Ev.neg (by omega) (Ev.pos (by omega) (Ev.pos (by omega) ?_))
    rw [lb_extract, Int.toNat_natCast, List.take_length]
    refine Ev.bind (Unlong_ev _) ?_
    have hl : (s.drop (s.length - 8)).length = 8 := by rw [List.length_drop]; omega
    unfold ures
    rw [if_pos hl]
    generalize be 0 (s.drop (s.length - 8)) = n
    by_cases h1 : n < 1
    · rw [if_pos (Or.inl h1)]
      exact Ev.pos (by show (n : Int) < 1; omega) (Ev.val rfl)
    · refine Ev.neg (by show ¬ (n : Int) < 1; omega) ?_
      by_cases h2 : n > 32
      · rw [if_pos (Or.inr h2)]
        exact Ev.pos (by show (n : Int) > 32; omega) (Ev.val rfl)
      · rw [if_neg (show ¬ (n < 1 ∨ n > 32) by omega)]
        refine Ev.neg (by show ¬ (n : Int) > 32; omega) (Ev.val ?_)
        show some (wrap64 (n : Int)) = _
        rw [w64 _ (by omega) (by omega)]
def strt (n : Nat) : Nat := 8 * ((n + 3) / 4 + 1)
theorem en_eq (s : List UInt8) (n : Nat) (hn : n ≤ 1000) (hs : s.length ≤ 100000000) : block_Decode.en (lb s) (n : Int) = (s.length : Int) - (strt n : Int) := by
  unfold block_Decode.en strt
  rw [lb_size, w64 ((n : Int) + 4) (by omega) (by omega), w64 ((n : Int) + 4 - 1) (by omega) (by omega)]
  have e : ((n : Int) + 4 - 1).tdiv 4 = (((n + 3) / 4 : Nat) : Int) := by
    rw [show ((n : Int) + 4 - 1) = ((n + 3 : Nat) : Int) by omega]
    exact (Int.ofNat_tdiv (n + 3) 4).symm
  rw [e, w64 (((n + 3) / 4 : Nat) : Int) (by omega) (by omega), w64 ((((n + 3) / 4 : Nat) : Int) + 1) (by omega) (by omega), w64 (8 * ((((n + 3) / 4 : Nat) : Int) + 1)) (by omega) (by omega), w64 _ (by omega) (by omega)]
  omega
def decr (s : List UInt8) : List ES × Int :=
  if cntB s = 0 then ([], 2) else (if s.length < strt (cntB s) then ([], 2) else
    (if (dgo (cntB s) (s.take (s.length - strt (cntB s))) false [] []).1 = true then ([], 2) else
      (if rowB (dgo (cntB s) (s.take (s.length - strt (cntB s))) false [] []).2 = true ∧ encB (dgo (cntB s) (s.take (s.length - strt (cntB s))) false [] []).2 = s then ((dgo (cntB s) (s.take (s.length - strt (cntB s))) false [] []).2, 0) else ([], 2))))
theorem Decode_ev (s : List UInt8) (hs : s.length ≤ 10000000) : Ev (fun k => block_Decode.f k (lb s)) (decr s) := by
  unfold block_Decode.f decr
  have hc := cntB_le s
  refine Ev.bind (Count_ev s (by omega)) ?_
  generalize cntB s = n at hc
  by_cases h0 : n = 0
  · rw [if_pos h0]
    exact Ev.pos (by omega) (Ev.val rfl)
  rw [if_neg h0]
  refine Ev.neg (by omega) ?_
  rw [en_eq s n (by omega) (by omega)]
  by_cases h1 : s.length < strt n
  · rw [if_pos h1]
    exact Ev.pos (by omega) (Ev.val rfl)
  rw [if_neg h1]
  refine Ev.neg (by omega) (Ev.pos (by rw [lb_size]; omega) (Ev.pos (by omega) ?_))
  have e : ((s.length : Int) - (strt n : Int)).toNat = s.length - strt n := by omega
  rw [e, lb_extract, List.drop_zero, Int.toNat_natCast]
  have hd := dgo_ev n (s.take (s.length - strt n)) false [] [] (by rw [List.length_take]; simp; omega)
  refine Ev.bind hd ?_
  have hl := dgo_len n (s.take (s.length - strt n)) false [] []
  generalize dgo n (s.take (s.length - strt n)) false [] [] = r at hl ⊢
  obtain ⟨b, l⟩ := r
  simp only at hl ⊢
  unfold block_Decode.fin
  cases b
  · refine Ev.neg (by simp) ?_
    rw [if_neg (show ¬ (false = true) by simp)]
    refine Ev.bind (Encode_ev l (by simp at hl; omega)) ?_
    unfold encr
    by_cases h2 : rowB l = true
    · rw [if_pos h2]
      refine Ev.pos rfl ?_
      by_cases h3 : encB l = s
      · rw [if_pos (show rowB l = true ∧ encB l = s from ⟨h2, h3⟩)]
        exact Ev.pos (by rw [lb_toList, lb_toList]; exact h3) (Ev.val rfl)
      · rw [if_neg (show ¬ (rowB l = true ∧ encB l = s) from fun h => h3 h.2)]
        exact Ev.neg (by rw [lb_toList, lb_toList]; exact h3) (Ev.val rfl)
    · rw [if_neg h2, if_neg (show ¬ (rowB l = true ∧ encB l = s) from fun h => h2 h.1)]
      exact Ev.neg (by simp) (Ev.val rfl)
  · rw [if_pos rfl]
    exact Ev.pos rfl (Ev.val rfl)
end Go.Proofs.Ytcogolbgfkikfaa.BlkS
