/- block: what is sought. -/
import Derived.Test.YtcogolbgfkikfaaPx0
import Derived.Test.YtcogolbgfkikfaaPx7
import Derived.Test.YtcogolbgfkikfaaBlk6
set_option linter.unusedVariables false
set_option linter.unusedSimpArgs false
namespace Go.Proofs.Ytcogolbgfkikfaa.BlkS
open Go.RowKit Go.Proofs.Ytcogolbgfkikfaa.P Go.Proofs.Ytcogolbgfkikfaa.Th Go.Proofs.Ytcogolbgfkikfaa.NumS Go.Proofs.YtcogolbgfkikfaaW.PrintWords Go.Proofs.YtcogolbgfkikfaaW.PrintLast Go.Proofs.YtcogolbgfkikfaaW.PrintMore

def ahB (x : ES) (key : List UInt8) (seq : Int) : Bool := Op.bytesLess (bl x.f0) key || (decide (bl x.f0 = key) && decide (x.f1 > seq))
theorem ahead_f (x : ES) (key : List UInt8) (seq : Int) : block_ahead.f x.f0 x.f1 x.f2 x.f3 (lb key) seq = some (ahB x key seq) := by
  unfold block_ahead.f ahB
  rw [toL_bl, lb_toList]
  by_cases h : Op.bytesLess (bl x.f0) key = true
  · rw [if_pos h, h]; rfl
  · rw [if_neg h]
    have h' : Op.bytesLess (bl x.f0) key = false := by simpa using h
    rw [h']
    by_cases h2 : bl x.f0 = key
    · rw [if_pos h2, decide_eq_true h2]; simp
    · rw [if_neg h2, decide_eq_false h2]; simp
theorem pred_ev {l : List ES} (hr : rowB l = true) (key : List UInt8) (seq : Int) (j : Nat) (h : 4 * j < l.length) : Ev (fun k => block_Seek.pred k (lb (encB l)) (lb key) seq (l.length : Int) (j : Int)) (!(ahB l[4 * j] key seq)) := by
  have hx := rowB_all hr l[4 * j] (List.getElem_mem h)
  have hb := body_len (l.drop (4 * j)) (4 * j) [] (fun x hx => rowB_all hr x (List.mem_of_mem_drop hx))
  have h1 := rowB_len hr
  rw [List.length_drop] at hb
  unfold block_Seek.pred
  refine Ev.bind (at_ev hr j h) ?_
  refine Ev.bind (next_ev _ false [] (by simp; omega)) ?_
  have en := nx_ent 0 [] l[4 * j] (bodyB (4 * j + 1) (bl l[4 * j].f0) (l.drop (4 * j + 1))) hx (by omega) (by simp) (by simp)
  have eb : bodyB (4 * j) [] (l.drop (4 * j)) = entB 0 l[4 * j] ++ bodyB (4 * j + 1) (bl l[4 * j].f0) (l.drop (4 * j + 1)) := by
    rw [List.drop_eq_getElem_cons h]
    simp only [bodyB, shB]
    rw [if_pos (by omega)]
  rw [eb, en]
  simp only
  rw [ahead_f]
  exact Ev.val rfl
theorem search_ev {l : List ES} (hr : rowB l = true) (key : List UInt8) (seq : Int) : ∀ (q i j : Nat), i ≤ j → j - i < q → (∀ c, c < j → 4 * c < l.length) →
    ∃ r, i ≤ r ∧ r ≤ j ∧ Ev (fun k => block_Seek.search k (lb (encB l)) (lb key) seq (l.length : Int) q i j) r ∧ (r = i ∨ ∃ h : 4 * (r - 1) < l.length, ahB l[4 * (r - 1)] key seq = true) := by
  intro q
  induction q with
  | zero => intro i j _ h _; omega
  | succ q ih =>
    intro i j hij hq hc
    simp only [block_Seek.search]
    by_cases h : i < j
    · have hm := hc ((i + j) / 2) (by omega)
      have hp := pred_ev hr key seq ((i + j) / 2) hm
      cases ha : ahB l[4 * ((i + j) / 2)] key seq
      · rw [ha] at hp
        obtain ⟨r, h1, h2, h3, h4⟩ := ih i ((i + j) / 2) (by omega) (by omega) (fun c hcc => hc c (by omega))
        exact ⟨r, h1, by omega, Ev.pos h (Ev.bind hp (Ev.pos rfl h3)), h4⟩
      · rw [ha] at hp
        obtain ⟨r, h1, h2, h3, h4⟩ := ih ((i + j) / 2 + 1) j (by omega) (by omega) hc
        refine ⟨r, by omega, h2, Ev.pos h (Ev.bind hp (Ev.neg (by simp) h3)), ?_⟩
        right
        rcases h4 with h4 | h4
        · subst h4
          exact ⟨by simpa using hm, by simpa using ha⟩
        · exact h4
    · exact ⟨i, Nat.le_refl _, hij, Ev.neg h (Ev.val rfl), Or.inl rfl⟩
theorem sgo_ev (key : List UInt8) (seq : Int) : ∀ (rest : List ES) (i : Nat) (p : List UInt8), (∀ x ∈ rest, okE x = true) → rest.length ≤ 32 → p.length ≤ 1000 →
    Ev (fun k => block_Seek.go k (lb key) seq rest.length (lb (bodyB i p rest)) false (lb p)) (rest.find? (fun x => !(ahB x key seq))) := by
  intro rest
  induction rest with
  | nil => intro i p _ _ _; exact Ev.val rfl
  | cons x rest ih =>
    intro i p h hl hp
    have hb := body_len (x :: rest) i p h
    have hx := okE_iff (h x (by simp))
    simp only [List.length_cons] at hb hl
    have en := nx_ent (shB i p x) p x (bodyB (i + 1) (bl x.f0) rest) (h x (by simp)) (shB_le i p x) (sh_ok i p x).1 (sh_ok i p x).2
    simp only [List.length_cons, block_Seek.go]
    refine Ev.bind (next_ev _ false p (by omega)) ?_
    simp only [bodyB]
    rw [en]
    simp only
    rw [ahead_f]
    refine Ev.just rfl ?_
    rw [List.find?_cons]
    cases ha : ahB x key seq
    · exact Ev.neg (by simp) (Ev.val rfl)
    · exact Ev.pos rfl (ih (i + 1) (bl x.f0) (fun y hy => h y (by simp [hy])) (by omega) (by omega))
theorem Seek_ev {l : List ES} (hr : rowB l = true) (key : List UInt8) (seq : Int) : ∃ c, 4 * c ≤ l.length ∧ (c = 0 ∨ ∃ h : 4 * c < l.length, ahB l[4 * c] key seq = true) ∧
    Ev (fun k => block_Seek.f k (lb (encB l)) (lb key) seq) (block_Seek.ans ((l.drop (4 * c)).find? (fun x => !(ahB x key seq)))) := by
  have h1 := rowB_len hr
  have hle := encB_len hr
  obtain ⟨r, hr1, hr2, hs, hp⟩ := search_ev hr key seq 1000 0 ((l.length + 3) / 4) (by omega) (by omega) (fun c hc => by omega)
  refine ⟨r - 1, by omega, ?_, ?_⟩
  · rcases hp with hp | hp
    · left; omega
    · right; exact hp
  unfold block_Seek.f
  refine Ev.bind (Ev.eq (Decode_ev (encB l) (by omega)) (decr_enc hr)) (Ev.pos rfl ?_)
  have hc := Count_ev (encB l) (by omega)
  rw [cnt_enc h1] at hc
  refine Ev.bind hc (Ev.pos (by omega) ?_)
  rw [Int.toNat_natCast]
  refine Ev.bind hs (Ev.pos (by omega) ?_)
  refine Ev.bind (at_ev hr (r - 1) (by omega)) ?_
  have hg := sgo_ev key seq (l.drop (4 * (r - 1))) (4 * (r - 1)) [] (fun x hx => rowB_all hr x (List.mem_of_mem_drop hx)) (by rw [List.length_drop]; omega) (by simp)
  rw [List.length_drop, show l.length - 4 * (r - 1) = l.length - (r - 1) * 4 by omega] at hg
  exact Ev.bind hg (Ev.val rfl)
theorem Seek_bad {s key : List UInt8} {seq : Int} (hs : s.length ≤ 10000000) (h : ∀ l, decr s ≠ (l, 0)) : Ev (fun k => block_Seek.f k (lb s) (lb key) seq) (⟨#[]⟩, 0, false, ⟨#[]⟩, false, 2) := by
  unfold block_Seek.f
  refine Ev.bind (Decode_ev s hs) ?_
  rcases e : decr s with ⟨l, c⟩
  rcases decr_ok e with h2 | h2
  · rw [h2.1] at e; exact absurd e (h l)
  · rw [h2.1]
    exact Ev.neg (by simp) (Ev.val rfl)
end Go.Proofs.Ytcogolbgfkikfaa.BlkS
