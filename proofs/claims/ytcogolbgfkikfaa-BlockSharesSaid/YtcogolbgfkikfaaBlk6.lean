/- block: where whole keys stand. -/
import Derived.Test.YtcogolbgfkikfaaPx0
import Derived.Test.YtcogolbgfkikfaaPx6
import Derived.Test.YtcogolbgfkikfaaPx7
import Derived.Test.YtcogolbgfkikfaaBlk5
set_option linter.unusedVariables false
set_option linter.unusedSimpArgs false
namespace Go.Proofs.Ytcogolbgfkikfaa.BlkS
open Go.RowKit Go.Proofs.Ytcogolbgfkikfaa.P Go.Proofs.Ytcogolbgfkikfaa.Th Go.Proofs.Ytcogolbgfkikfaa.NumS Go.Proofs.YtcogolbgfkikfaaW.PrintWords Go.Proofs.YtcogolbgfkikfaaW.PrintLast Go.Proofs.YtcogolbgfkikfaaW.PrintMore

/-- The key that stands last in a list, or the one ahead of it. -/
def lastK : List UInt8 → List ES → List UInt8
  | p, [] => p
  | _, x :: l => lastK (bl x.f0) l
theorem body_app : ∀ (a b : List ES) (i : Nat) (p : List UInt8), bodyB i p (a ++ b) = bodyB i p a ++ bodyB (i + a.length) (lastK p a) b := by
  intro a
  induction a with
  | nil => intro b i p; simp [bodyB, lastK]
  | cons x a ih =>
    intro b i p
    simp only [List.cons_append, bodyB, lastK, List.length_cons]
    rw [ih b (i + 1) (bl x.f0), List.append_assoc, show i + 1 + a.length = i + (a.length + 1) by omega]
theorem starts_app : ∀ (a b : List ES) (i j : Nat) (p : List UInt8), startsB i j p (a ++ b) = startsB i j p a ++ startsB (i + a.length) (j + (bodyB i p a).length) (lastK p a) b := by
  intro a
  induction a with
  | nil => intro b i j p; simp [startsB, bodyB, lastK]
  | cons x a ih =>
    intro b i j p
    simp only [List.cons_append, startsB, bodyB, lastK, List.length_cons, List.length_append]
    rw [ih b (i + 1) _ (bl x.f0), List.append_assoc, show i + 1 + a.length = i + (a.length + 1) by omega, Nat.add_assoc]
/-- At a whole key what stood ahead doesn't matter. -/
theorem body_whole (l : List ES) (i : Nat) (p q : List UInt8) (h : i % 4 = 0) : bodyB i p l = bodyB i q l := by
  cases l with
  | nil => rfl
  | cons x l => simp only [bodyB, shB, if_pos h]
theorem starts_get (l : List ES) (j : Nat) (h : 4 * j < l.length) : (startsB 0 0 [] l)[j]? = some (bodyB 0 [] (l.take (4 * j))).length := by
  have e := starts_app (l.take (4 * j)) (l.drop (4 * j)) 0 0 []
  rw [List.take_append_drop] at e
  have hl : (l.take (4 * j)).length = 4 * j := by rw [List.length_take]; omega
  have hc := starts_cnt (l.take (4 * j)) 0 0 []
  rw [hl] at e hc
  rw [e, List.getElem?_append_right (by omega)]
  have : l.drop (4 * j) = l[4 * j] :: l.drop (4 * j + 1) := List.drop_eq_getElem_cons h
  rw [this]
  have hz : j - (startsB 0 0 [] (l.take (4 * j))).length = 0 := by omega
  rw [hz]
  simp [startsB]
theorem flat_get (r : List UInt8) : ∀ (st : List Nat) (j a : Nat), st[j]? = some a → ((st.flatMap long ++ r).take (8 * (j + 1))).drop (8 * j) = long a := by
  intro st
  induction st with
  | nil => intro j a h; simp at h
  | cons b st ih =>
    intro j a h
    cases j with
    | zero =>
      simp at h
      subst h
      simp only [List.flatMap_cons, List.append_assoc]
      rw [List.take_append_of_le_length (by rw [long_len]; omega), List.take_of_length_le (by rw [long_len]; omega)]
      rfl
    | succ j =>
      have h' : st[j]? = some a := by simpa using h
      have e := ih j a h'
      simp only [List.flatMap_cons, List.append_assoc]
      rw [List.take_append, List.drop_append, long_len]
      rw [List.take_of_length_le (show (long b).length ≤ 8 * (j + 1 + 1) by rw [long_len]; omega), List.drop_eq_nil_of_le (show (long b).length ≤ 8 * (j + 1) by rw [long_len]; omega), long_len]
      rw [show 8 * (j + 1 + 1) - 8 = 8 * (j + 1) by omega, show 8 * (j + 1) - 8 = 8 * j by omega, List.nil_append]
      exact e
theorem at_ev {l : List ES} (hr : rowB l = true) (j : Nat) (h : 4 * j < l.length) : Ev (fun k => block_Seek.at_ k (lb (encB l)) (l.length : Int) (j : Int)) (lb (bodyB (4 * j) [] (l.drop (4 * j)))) := by
  have h1 := rowB_len hr
  have hle := encB_len hr
  have e := encB_eq l
  have hs : strt l.length = 8 * ((l.length + 3) / 4 + 1) := rfl
  have hen : block_Decode.en (lb (encB l)) (l.length : Int) = ((bodyB 0 [] l).length : Int) := by rw [en_eq _ _ (by omega) (by omega)]; omega
  unfold block_Seek.at_
  rw [hen, lb_size, w64 (8 * (j : Int)) (by omega) (by omega), w64 ((j : Int) + 1) (by omega) (by omega), w64 (8 * ((j : Int) + 1)) (by omega) (by omega), w64 (((bodyB 0 [] l).length : Int) + 8 * (j : Int)) (by omega) (by omega), w64 (((bodyB 0 [] l).length : Int) + 8 * ((j : Int) + 1)) (by omega) (by omega)]
  refine Ev.pos (by omega) (Ev.pos (by omega) (Ev.pos (by omega) ?_))
  have ea : (((bodyB 0 [] l).length : Int) + 8 * (j : Int)).toNat = (bodyB 0 [] l).length + 8 * j := by omega
  have eb : (((bodyB 0 [] l).length : Int) + 8 * ((j : Int) + 1)).toNat = (bodyB 0 [] l).length + 8 * (j + 1) := by omega
  rw [ea, eb, lb_extract]
  have eg := flat_get (long l.length) _ j _ (starts_get l j h)
  have el : ((encB l).take ((bodyB 0 [] l).length + 8 * (j + 1))).drop ((bodyB 0 [] l).length + 8 * j) = long (bodyB 0 [] (l.take (4 * j))).length := by
    unfold encB
    rw [List.append_assoc, List.take_length_add_append, List.drop_length_add_append]
    exact eg
  rw [el]
  have hb := body_len (l.take (4 * j)) 0 [] (fun x hx => rowB_all hr x (List.mem_of_mem_take hx))
  have hl : (l.take (4 * j)).length = 4 * j := by rw [List.length_take]; omega
  have esp : bodyB 0 [] l = bodyB 0 [] (l.take (4 * j)) ++ bodyB (4 * j) [] (l.drop (4 * j)) := by
    have := body_app (l.take (4 * j)) (l.drop (4 * j)) 0 []
    rw [List.take_append_drop, hl, Nat.zero_add, body_whole _ (4 * j) _ [] (by omega)] at this
    exact this
  refine Ev.bind (Unlong_ev _) ?_
  unfold ures
  rw [if_pos (long_len _), be_long _ (by omega)]
  have hle2 : (bodyB 0 [] (l.take (4 * j))).length ≤ (bodyB 0 [] l).length := by rw [esp, List.length_append]; omega
  refine Ev.pos (show (0 : Int) ≤ ((bodyB 0 [] (l.take (4 * j))).length : Int) by omega) (Ev.pos (show ((bodyB 0 [] (l.take (4 * j))).length : Int) ≤ ((bodyB 0 [] l).length : Int) by omega) (Ev.pos (by omega) (Ev.val ?_)))
  simp only [Int.toNat_natCast]
  rw [lb_extract]
  congr 2
  unfold encB
  rw [List.append_assoc, List.take_left, esp, List.drop_left]
end Go.Proofs.Ytcogolbgfkikfaa.BlkS
