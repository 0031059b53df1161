/- gc: what the printed functions, and those given by hand, come to. -/
import Derived.Test.YtcdadhgcjkgnoaaPx0
import Derived.Test.YtcdadhgcjkgnoaaPx2
import Derived.Test.YtcdadhgcjkgnoaaPx7
import Derived.Test.YtcdadhgcjkgnoaaPx8
import Derived.Test.YtcdadhgcjkgnoaaGcB
set_option linter.unusedVariables false
set_option linter.unusedSimpArgs false
namespace Go.Proofs.Ytcdadhgcjkgnoaa.GcS
open Go.RowKit Go.Proofs.Ytcdadhgcjkgnoaa.P Go.Proofs.Ytcdadhgcjkgnoaa.Th Go.Proofs.YtcdadhgcjkgnoaaW.PrintWords Go.Proofs.YtcdadhgcjkgnoaaW.PrintLast Go.Proofs.YtcdadhgcjkgnoaaW.PrintMore

abbrev ES := S47
theorem size_bl (s : ByteArray) : s.size = (bl s).length := by rw [← lb_size, lb_bl]
theorem toL_bl (s : ByteArray) : s.toList = bl s := by
  have := lb_toList (bl s)
  rwa [lb_bl] at this
theorem rdE {l : List ES} {i : Nat} (h : i < l.length) : rd_T47 l (i : Int) = l[i] := by simp [rd_T47, h]
def small (x : ES) : Prop := (bl x.f0).length ≤ 1000 ∧ (bl x.f3).length ≤ 1000
def fits (l : List ES) : Prop := l.length ≤ 1000 ∧ ∀ x ∈ l, small x
theorem fits_tail {x : ES} {l : List ES} (h : fits (x :: l)) : fits l := ⟨by have := h.1; rw [List.length_cons] at this; omega, fun y hy => h.2 y (by simp [hy])⟩
theorem fits_sub {l m : List ES} (h : fits l) (hl : m.length ≤ l.length) (hm : ∀ x ∈ m, x ∈ l) : fits m := ⟨by have := h.1; omega, fun x hx => h.2 x (hm x hx)⟩

/-! ### what a record says -/
def rx (s v : List UInt8) : gc_read.R × Bool :=
  if (KeyS.rdr s).2.2.2 ≠ 0 then (gc_read.none_, false)
  else if (KeyS.rdr s).1 = 1 then (⟨(KeyS.rdr s).1, (KeyS.rdr s).2.1, (KeyS.rdr s).2.2.1, (ColS.ulk v).1, (ColS.ulk v).2.1, (ColS.ulk v).2.2.1, (ColS.ulk v).2.2.2.1, 0, 0⟩, decide ((ColS.ulk v).2.2.2.2 = 0))
  else if (KeyS.rdr s).1 = 2 then (⟨(KeyS.rdr s).1, (KeyS.rdr s).2.1, (KeyS.rdr s).2.2.1, ⟨#[]⟩, 0, 0, 0, (ColS.uwr v).1, (ColS.uwr v).2.1⟩, decide ((ColS.uwr v).2.2 = 0))
  else (⟨(KeyS.rdr s).1, (KeyS.rdr s).2.1, (KeyS.rdr s).2.2.1, ⟨#[]⟩, 0, 0, 0, 0, 0⟩, decide ((KeyS.rdr s).1 ≠ 4))
def rxE (x : ES) : gc_read.R × Bool := rx (bl x.f0) (bl x.f3)
theorem read_ev (x : ES) (h : small x) : Ev (fun k => gc_read.f k x.f0 x.f3) (rxE x) := by
  have hk := KeyS.Read_ev (bl x.f0) (by have := h.1; omega)
  have hl := ColS.Unlock_ev (bl x.f3) (by have := h.2; omega)
  have hw := ColS.Unwrite_ev (bl x.f3) (by have := h.2; omega)
  rw [lb_bl] at hk hl hw
  unfold gc_read.f rxE rx
  refine Ev.bind hk ?_
  generalize KeyS.rdr (bl x.f0) = p
  by_cases h1 : p.2.2.2 ≠ 0
  · rw [if_pos h1]; exact Ev.pos h1 (Ev.val rfl)
  · rw [if_neg h1]
    refine Ev.neg h1 ?_
    by_cases h2 : p.1 = 1
    · rw [if_pos h2]; exact Ev.pos h2 (Ev.bind hl (Ev.val rfl))
    · rw [if_neg h2]
      refine Ev.neg h2 ?_
      by_cases h3 : p.1 = 2
      · rw [if_pos h3]; exact Ev.pos h3 (Ev.bind hw (Ev.val rfl))
      · rw [if_neg h3]; exact Ev.neg h3 (Ev.val rfl)
theorem rdr_all (s : List UInt8) : KeyS.rdr s = (0, lb [], 0, 2) ∨ ∃ (c : Nat) (u : List UInt8) (t : Nat), KeyS.rdr s = ((c : Int), lb u, (t : Int), 0) ∧ KeyS.good (c : Int) u t ∧ s = KeyS.kb c u t := by
  cases h : KeyS.rd s with
  | none => exact Or.inl (KeyS.rdr_none h)
  | some p =>
    obtain ⟨c, u, t⟩ := p
    exact Or.inr ⟨c, u, t, KeyS.rdr_some h, ((KeyS.rd_iff s c u t).1 h).1, ((KeyS.rd_iff s c u t).1 h).2⟩
structure Ok (r : gc_read.R) : Prop where
  us : (bl r.us).length ≤ 24
  tm : 0 ≤ r.tm ∧ r.tm ≤ 1099511627776
  ls : 0 ≤ r.ls ∧ r.ls ≤ 1099511627776
  ws : 0 ≤ r.ws ∧ r.ws ≤ 1099511627776
theorem ulk_ok (v : List UInt8) : 0 ≤ (ColS.ulk v).2.1 ∧ (ColS.ulk v).2.1 ≤ 1099511627776 := by
  rcases ColS.ulk_cases v with h | ⟨p, st, kd, at_, h1, _, _, _, h⟩
  · rw [h]; simp [ColS.no4]
  · rw [h]; have := ColS.tm_le h1.2.1; simp only; omega
theorem uwr_ok (v : List UInt8) : 0 ≤ (ColS.uwr v).1 ∧ (ColS.uwr v).1 ≤ 1099511627776 := by
  rcases ColS.uwr_cases v with h | ⟨st, kd, h1, _, h⟩
  · rw [h]; simp [ColS.no2]
  · rw [h]; have := ColS.tm_le h1.1; simp only; omega
theorem rx_ok (s v : List UInt8) : Ok (rx s v).1 := by
  have hl := ulk_ok v
  have hw := uwr_ok v
  unfold rx
  rcases rdr_all s with h | ⟨c, u, t, h, hg, _⟩
  · rw [h, if_pos (by simp)]
    exact ⟨by simp [gc_read.none_, bl], by simp [gc_read.none_], by simp [gc_read.none_], by simp [gc_read.none_]⟩
  · have hu := (KeyS.mayK_len hg.2.1).2
    have ht := hg.2.2.1
    rw [h, if_neg (by simp)]
    by_cases h2 : (c : Int) = 1
    · rw [if_pos h2]; exact ⟨by simp only [bl_lb]; exact hu, ⟨by simp only; omega, by simp only; omega⟩, hl, by simp⟩
    · rw [if_neg h2]
      by_cases h3 : (c : Int) = 2
      · rw [if_pos h3]; exact ⟨by simp only [bl_lb]; exact hu, ⟨by simp only; omega, by simp only; omega⟩, by simp, hw⟩
      · rw [if_neg h3]; exact ⟨by simp only [bl_lb]; exact hu, ⟨by simp only; omega, by simp only; omega⟩, by simp, by simp⟩
theorem rx_cf (s v : List UInt8) (h : (rx s v).2 = true) : (rx s v).1.cf = 1 ∨ (rx s v).1.cf = 2 ∨ (rx s v).1.cf = 3 := by
  unfold rx at h ⊢
  rcases rdr_all s with e | ⟨c, u, t, e, hg, _⟩
  · rw [e, if_pos (by simp)] at h; simp at h
  · rw [e, if_neg (by simp)] at h ⊢
    have hf := hg.1
    unfold KeyS.fam at hf
    by_cases h2 : (c : Int) = 1
    · rw [if_pos h2]; exact Or.inl h2
    · rw [if_neg h2] at h ⊢
      by_cases h3 : (c : Int) = 2
      · rw [if_pos h3]; exact Or.inr (Or.inl h3)
      · rw [if_neg h3] at h ⊢
        have := of_decide_eq_true h
        right; right
        simp only at this ⊢
        omega

/-! ### do keys rise? -/
def less (x y : ES) : Bool := Op.bytesLess (bl x.f0) (bl y.f0)
def risesB : List ES → Bool
  | x :: y :: l => less x y && risesB (y :: l)
  | _ => true
theorem rises_drop (l : List ES) (i : Nat) (h : i + 1 < l.length) : risesB (l.drop i) = (less (l[i]'(by omega)) l[i + 1] && risesB (l.drop (i + 1))) := by
  rw [List.drop_eq_getElem_cons (show i < l.length by omega), List.drop_eq_getElem_cons h]; rfl
theorem rises_l0 (l : List ES) (hl : l.length ≤ 1000000) : ∀ (n i : Nat), 1 ≤ i → i + n = max 1 l.length → Ev (fun k => gc_rises.l0 k l (i : Int)) (risesB (l.drop (i - 1))) := by
  intro n
  induction n with
  | zero =>
    intro i h1 hi
    refine Ev.step (fun k => by rw [gc_rises.l0]) ?_
    refine Ev.neg (by omega) (Ev.val ?_)
    congr 1; symm
    have : (l.drop (i - 1)).length ≤ 1 := by rw [List.length_drop]; omega
    match h : l.drop (i - 1) with
    | [] => rfl
    | [x] => rfl
    | x :: y :: r => rw [h] at this; simp at this
  | succ n ih =>
    intro i h1 hi
    have h2 : i < l.length := by omega
    obtain ⟨i, rfl⟩ : ∃ j, i = j + 1 := ⟨i - 1, by omega⟩
    refine Ev.step (fun k => by rw [gc_rises.l0]) ?_
    have e : wrap64 (((i + 1 : Nat) : Int) - 1) = (i : Int) := by rw [w64 _ (by omega) (by omega)]; omega
    rw [e]
    clear e
    refine Ev.pos (by omega) (Ev.pos (by omega) (Ev.pos (by omega) (Ev.pos (by omega) ?_)))
    rw [rdE (show i < l.length by omega), rdE h2, Nat.add_sub_cancel, rises_drop l i h2, toL_bl, toL_bl]
    cases hh : less l[i] l[i + 1] with
    | true =>
      refine Ev.pos hh ?_
      rw [Bool.true_and, w64 _ (by omega) (by omega)]
      have := ih (i + 1 + 1) (by omega) (by omega)
      simpa using this
    | false =>
      refine Ev.neg (fun e => ?_) (Ev.val rfl)
      have e2 : less l[i] l[i + 1] = true := e
      rw [hh] at e2; simp at e2
theorem rises_ev (l : List ES) (hl : l.length ≤ 1000000) : Ev (fun k => gc_rises.f k l) (risesB l) := by
  have := rises_l0 l hl (max 1 l.length - 1) 1 (by omega) (by omega)
  simpa [gc_rises.f] using this
theorem rises_tail {x : ES} {l : List ES} (h : risesB (x :: l) = true) : risesB l = true := by
  cases l with
  | nil => rfl
  | cons y l =>
    have h' : (less x y && risesB (y :: l)) = true := h
    rw [Bool.and_eq_true] at h'; exact h'.2
theorem less_trans {x y z : ES} (h1 : less x y = true) (h2 : less y z = true) : less x z = true := KeyT.bl_trans _ _ _ h1 h2
theorem rises_all : ∀ (l : List ES) (x : ES), risesB (x :: l) = true → ∀ y ∈ l, less x y = true := by
  intro l
  induction l with
  | nil => intro x _ y hy; simp at hy
  | cons z l ih =>
    intro x h y hy
    have h' : (less x z && risesB (z :: l)) = true := h
    rw [Bool.and_eq_true] at h'
    rcases List.mem_cons.1 hy with rfl | hy
    · exact h'.1
    · exact less_trans h'.1 (ih z h'.2 y hy)
theorem less_ne {x y : ES} (h : less x y = true) : bl x.f0 ≠ bl y.f0 := by
  intro e
  unfold less at h
  rw [e, bl_self] at h
  simp at h

/-! ### what is needed, what may go -/
def nd (safe : Int) : List ES → List (List UInt8 × Int) → List (List UInt8) → List (List UInt8) → List (List UInt8 × Int) × List (List UInt8)
  | [], D, G, _ => (D, G)
  | x :: l, D, G, S => nd safe l (gc_needed.nx safe x.f0 (rxE x).1 (rxE x).2 D G S).1 (gc_needed.nx safe x.f0 (rxE x).1 (rxE x).2 D G S).2.1 (gc_needed.nx safe x.f0 (rxE x).1 (rxE x).2 D G S).2.2
theorem nx_len (safe : Int) (key : ByteArray) (r : gc_read.R) (ok : Bool) (D : List (List UInt8 × Int)) (G S : List (List UInt8)) :
    (gc_needed.nx safe key r ok D G S).1.length ≤ D.length + 1 ∧ (gc_needed.nx safe key r ok D G S).2.1.length ≤ G.length + 1 ∧ (gc_needed.nx safe key r ok D G S).2.2.length ≤ S.length + 1 := by
  unfold gc_needed.nx
  repeat' split
  all_goals simp
theorem may_ok {x : ES} (h : small x) {D : List (List UInt8 × Int)} {G S : List (List UInt8)} (hD : D.length ≤ 1000000) (hG : G.length ≤ 1000000) (hS : S.length ≤ 1000000) : gc_needed.may x.f0 (rxE x).1 D G S := by
  have o := rx_ok (bl x.f0) (bl x.f3)
  exact ⟨by rw [size_bl]; have := h.1; omega, by rw [size_bl]; have := o.us; show (bl (rx (bl x.f0) (bl x.f3)).1.us).length ≤ _; omega, ⟨o.ls.1, by have := o.ls.2; show (rx (bl x.f0) (bl x.f3)).1.ls < _; omega⟩, ⟨o.ws.1, by have := o.ws.2; show (rx (bl x.f0) (bl x.f3)).1.ws < _; omega⟩, hD, hG, hS⟩
theorem needed_go (safe : Int) : ∀ (l : List ES) (D : List (List UInt8 × Int)) (G S : List (List UInt8)), fits l → D.length + l.length ≤ 100000 → G.length + l.length ≤ 100000 → S.length + l.length ≤ 100000 → Ev (fun k => gc_needed.go k safe l D G S) (nd safe l D G S)
  | [], D, G, S, _, _, _, _ => Ev.val rfl
  | x :: l, D, G, S, h, hD, hG, hS => by
    rw [List.length_cons] at hD hG hS
    have hx := h.2 x (by simp)
    have hn := nx_len safe x.f0 (rxE x).1 (rxE x).2 D G S
    refine Ev.bind (read_ev x hx) (Ev.pos (may_ok hx (by omega) (by omega) (by omega)) ?_)
    exact needed_go safe l _ _ _ (fits_tail h) (by omega) (by omega) (by omega)
theorem needed_ev (safe : Int) (l : List ES) (h : fits l) : Ev (fun k => gc_needed.f k l safe) (nd safe l [] [] []) := by
  have := h.1
  exact needed_go safe l [] [] [] h (by simp; omega) (by simp; omega) (by simp; omega)
def goesE (D : List (List UInt8 × Int)) (G : List (List UInt8)) (x : ES) : Bool := gc_part.goes D G x.f0 (rxE x).1 (rxE x).2
/-- May a record of a row go? -/
def mayE (safe : Int) (l : List ES) (x : ES) : Bool := goesE (nd safe l [] [] []).1 (nd safe l [] [] []).2 x
theorem part_go (D : List (List UInt8 × Int)) (G : List (List UInt8)) (which : Bool) : ∀ (l acc : List ES), fits l → acc.length + l.length ≤ 100000 → Ev (fun k => gc_part.go k D G which l acc) (acc ++ l.filter (fun x => decide (goesE D G x = which)))
  | [], acc, _, _ => Ev.val (by simp [gc_part.go])
  | x :: l, acc, h, ha => by
    rw [List.length_cons] at ha
    have hx := h.2 x (by simp)
    have o := rx_ok (bl x.f0) (bl x.f3)
    refine Ev.bind (read_ev x hx) (Ev.pos ⟨by rw [size_bl]; have := hx.1; omega, by rw [size_bl]; have := o.us; show (bl (rx (bl x.f0) (bl x.f3)).1.us).length ≤ _; omega, ⟨o.tm.1, by have := o.tm.2; show (rx (bl x.f0) (bl x.f3)).1.tm < _; omega⟩, by omega⟩ ?_)
    have e : gc_part.goes D G x.f0 (rxE x).1 (rxE x).2 = goesE D G x := rfl
    rw [e, List.filter_cons]
    by_cases hw : goesE D G x = which
    · rw [if_pos hw, if_pos (by simp [hw])]
      refine Ev.eq (part_go D G which l (acc ++ [x]) (fits_tail h) (by rw [List.length_append]; simp; omega)) (by simp)
    · rw [if_neg hw, if_neg (by simp [hw])]
      exact part_go D G which l acc (fits_tail h) (by omega)
theorem part_ev (safe : Int) (which : Bool) (l : List ES) (h : fits l) : Ev (fun k => gc_part.f k l safe which) (if risesB l = true then (l.filter (fun x => decide (mayE safe l x = which)), 0) else ([], 2)) := by
  have hl := h.1
  unfold gc_part.f
  refine Ev.bind (rises_ev l (by omega)) ?_
  cases hr : risesB l with
  | false => exact Ev.pos rfl (Ev.val rfl)
  | true =>
    refine Ev.neg (by simp) (Ev.bind (needed_ev safe l h) (Ev.bind (part_go _ _ which l [] h (by simp; omega)) (Ev.val ?_)))
    rw [if_pos rfl, List.nil_append]; rfl
theorem garbage_l0 : ∀ (n i : Nat) (acc : List ByteArray) (m : List ES), m.length ≤ 100000 → i + n = m.length → acc.length = i → Ev (fun k => gc_Garbage.l0 k acc m (m.length : Int) (i : Int)) (acc ++ (m.drop i).map (·.f0), 0) := by
  intro n
  induction n with
  | zero =>
    intro i acc m hm hi ha
    refine Ev.step (fun k => by rw [gc_Garbage.l0]) ?_
    refine Ev.neg (by omega) (Ev.val ?_)
    rw [List.drop_eq_nil_of_le (by omega)]; simp
  | succ n ih =>
    intro i acc m hm hi ha
    have h1 : i < m.length := by omega
    have e1 : wrap64 ((i : Int) + 1) = ((i + 1 : Nat) : Int) := by rw [w64 _ (by omega) (by omega)]; omega
    refine Ev.step (fun k => by rw [gc_Garbage.l0]) ?_
    refine Ev.pos (by omega) (Ev.pos (by omega) (Ev.pos (by omega) (Ev.pos (by omega) ?_)))
    rw [rdE h1, e1]
    clear e1
    refine Ev.eq (ih (i + 1) (acc ++ [m[i].f0]) m hm (by omega) (by simp [ha])) ?_
    rw [List.drop_eq_getElem_cons h1, List.map_cons, List.append_assoc, List.singleton_append]
def garb (safe : Int) (l : List ES) : List ByteArray × Int := if risesB l = true then ((l.filter (mayE safe l)).map (·.f0), 0) else ([], 2)
def left (safe : Int) (l : List ES) : List ES × Int := if risesB l = true then (l.filter (fun x => !mayE safe l x), 0) else ([], 2)
theorem Garbage_ev (safe : Int) (l : List ES) (h : fits l) : Ev (fun k => gc_Garbage.f k l safe) (garb safe l) := by
  unfold gc_Garbage.f garb
  refine Ev.bind (part_ev safe true l h) ?_
  cases hr : risesB l with
  | false => exact Ev.neg (by simp) (Ev.val rfl)
  | true =>
    have e : l.filter (fun x => decide (mayE safe l x = true)) = l.filter (mayE safe l) := by congr 1; funext x; simp
    have hle := List.length_filter_le (mayE safe l) l
    have := h.1
    simp only [e, if_true]
    exact Ev.eq (garbage_l0 (l.filter (mayE safe l)).length 0 [] (l.filter (mayE safe l)) (by omega) (by omega) rfl) (by simp)
theorem Left_ev (safe : Int) (l : List ES) (h : fits l) : Ev (fun k => gc_Left.f k l safe) (left safe l) := by
  unfold gc_Left.f left
  refine Ev.bind (part_ev safe false l h) (Ev.val ?_)
  cases hr : risesB l with
  | false => rfl
  | true =>
    have e : l.filter (fun x => decide (mayE safe l x = false)) = l.filter (fun x => !mayE safe l x) := by congr 1; funext x; cases mayE safe l x <;> rfl
    simp only [e, if_true]
end Go.Proofs.Ytcdadhgcjkgnoaa.GcS
