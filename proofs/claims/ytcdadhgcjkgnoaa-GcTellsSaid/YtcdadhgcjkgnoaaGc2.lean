/- gc: what is visible, how many there are; too many or too large; awake. -/
import Derived.Test.YtcdadhgcjkgnoaaPx0
import Derived.Test.YtcdadhgcjkgnoaaPx9
import Derived.Test.YtcdadhgcjkgnoaaPx10
import Derived.Test.YtcdadhgcjkgnoaaPx12
import Derived.Test.YtcdadhgcjkgnoaaGc
set_option linter.unusedVariables false
set_option linter.unusedSimpArgs false
namespace Go.Proofs.Ytcdadhgcjkgnoaa.GcS
open Go.RowKit Go.Proofs.Ytcdadhgcjkgnoaa.P Go.Proofs.Ytcdadhgcjkgnoaa.Th Go.Proofs.YtcdadhgcjkgnoaaW.PrintWords Go.Proofs.YtcdadhgcjkgnoaaW.PrintLast Go.Proofs.YtcdadhgcjkgnoaaW.PrintMore

/-! ### what is visible -/
def vs (user : ByteArray) (t : Int) : List ES → Int → Int → List (Int × List UInt8) → Int × Int × List (Int × List UInt8)
  | [], a, b, M => (a, b, M)
  | x :: l, a, b, M => vs user t l (gc_Visible.nx user t x.f3 (rxE x).1 (rxE x).2 a b M).1 (gc_Visible.nx user t x.f3 (rxE x).1 (rxE x).2 a b M).2.1 (gc_Visible.nx user t x.f3 (rxE x).1 (rxE x).2 a b M).2.2
theorem vnx (user : ByteArray) (t : Int) (x : ES) (a b : Int) (M : List (Int × List UInt8)) (ha : 0 ≤ a ∧ a ≤ 1099511627776) :
    (0 ≤ (gc_Visible.nx user t x.f3 (rxE x).1 (rxE x).2 a b M).1 ∧ (gc_Visible.nx user t x.f3 (rxE x).1 (rxE x).2 a b M).1 ≤ 1099511627776) ∧ (gc_Visible.nx user t x.f3 (rxE x).1 (rxE x).2 a b M).2.2.length ≤ M.length + 1 := by
  have o := (rx_ok (bl x.f0) (bl x.f3)).ws
  unfold gc_Visible.nx
  repeat' split
  · exact ⟨ha, by simp⟩
  · exact ⟨ha, by simp⟩
  · exact ⟨o, by simp⟩
  · exact ⟨ha, by simp⟩
theorem visible_go (user : ByteArray) (t : Int) : ∀ (l : List ES) (a b : Int) (M : List (Int × List UInt8)), fits l → (0 ≤ a ∧ a ≤ 1099511627776) → M.length + l.length ≤ 100000 →
    Ev (fun k => gc_Visible.go k user t l a b M) (vs user t l a b M) ∧ 0 ≤ (vs user t l a b M).1 ∧ (vs user t l a b M).1 ≤ 1099511627776
  | [], a, b, M, _, ha, _ => ⟨Ev.val rfl, ha⟩
  | x :: l, a, b, M, h, ha, hM => by
    rw [List.length_cons] at hM
    have hx := h.2 x (by simp)
    have o := rx_ok (bl x.f0) (bl x.f3)
    have hn := vnx user t x a b M ha
    have ih := visible_go user t l _ (gc_Visible.nx user t x.f3 (rxE x).1 (rxE x).2 a b M).2.1 (gc_Visible.nx user t x.f3 (rxE x).1 (rxE x).2 a b M).2.2 (fits_tail h) hn.1 (by have := hn.2; omega)
    refine ⟨Ev.bind (read_ev x hx) (Ev.pos ⟨⟨o.tm.1, by have := o.tm.2; show (rx (bl x.f0) (bl x.f3)).1.tm < _; omega⟩, by rw [size_bl]; have := hx.2; omega, ⟨o.ws.1, by have := o.ws.2; show (rx (bl x.f0) (bl x.f3)).1.ws < _; omega⟩, by omega, trivial⟩ ih.1), ih.2⟩
def vis (l : List ES) (user : ByteArray) (t : Int) : ByteArray × Bool :=
  if risesB l = true then gc_Visible.fin (vs user t l 0 0 []).1 (vs user t l 0 0 []).2.1 (vs user t l 0 0 []).2.2 else (⟨#[]⟩, false)
theorem Visible_ev (l : List ES) (user : ByteArray) (t : Int) (h : fits l) : Ev (fun k => gc_Visible.f k l user t) (vis l user t) := by
  have hl := h.1
  have hv := visible_go user t l 0 0 [] h (by simp) (by simp; omega)
  unfold gc_Visible.f vis
  refine Ev.bind (rises_ev l (by omega)) ?_
  cases hr : risesB l with
  | false => exact Ev.pos rfl (Ev.val rfl)
  | true => exact Ev.neg (by simp) (Ev.bind hv.1 (Ev.pos ⟨hv.2.1, by have := hv.2.2; omega⟩ (Ev.val rfl)))

/-! ### how many there are -/
def cf (x : ES) : Int := if (rxE x).2 = true then (rxE x).1.cf else 0
def cn (n : Int) (l : List ES) : Int := ((l.filter (fun x => decide (cf x = n))).length : Int)
theorem cn_cons (n : Int) (x : ES) (l : List ES) : cn n (x :: l) = (if cf x = n then 1 else 0) + cn n l := by
  unfold cn
  rw [List.filter_cons]
  by_cases h : cf x = n
  · simp [h]; omega
  · simp [h]
theorem cn_le (n : Int) (l : List ES) : 0 ≤ cn n l ∧ cn n l ≤ l.length := by
  unfold cn
  have := List.length_filter_le (fun x => decide (cf x = n)) l
  omega
theorem counts_go : ∀ (l : List ES) (a b c : Int), fits l → (0 ≤ a ∧ a + l.length ≤ 100000) → (0 ≤ b ∧ b + l.length ≤ 100000) → (0 ≤ c ∧ c + l.length ≤ 100000) → Ev (fun k => gc_Counts.go k l a b c) (a + cn 1 l, b + cn 2 l, c + cn 3 l)
  | [], a, b, c, _, _, _, _ => Ev.val (by simp [gc_Counts.go, cn])
  | x :: l, a, b, c, h, ha, hb, hc => by
    rw [List.length_cons] at ha hb hc
    have hx := h.2 x (by simp)
    have ht := fits_tail h
    refine Ev.bind (read_ev x hx) (Ev.pos (by omega) ?_)
    rw [cn_cons, cn_cons, cn_cons]
    by_cases hk : (rxE x).2 = true
    · have e : cf x = (rxE x).1.cf := if_pos hk
      refine Ev.neg (by simp [hk]) ?_
      rcases rx_cf (bl x.f0) (bl x.f3) hk with h1 | h1 | h1
      · have h2 : (rxE x).1.cf = 1 := h1
        rw [e, h2]
        refine Ev.pos rfl (Ev.eq (counts_go l (a + 1) b c ht (by omega) (by omega) (by omega)) ?_)
        simp; omega
      · have h2 : (rxE x).1.cf = 2 := h1
        rw [e, h2]
        refine Ev.neg (by decide) (Ev.pos rfl (Ev.eq (counts_go l a (b + 1) c ht (by omega) (by omega) (by omega)) ?_))
        simp; omega
      · have h2 : (rxE x).1.cf = 3 := h1
        rw [e, h2]
        refine Ev.neg (by decide) (Ev.neg (by decide) (Ev.pos rfl (Ev.eq (counts_go l a b (c + 1) ht (by omega) (by omega) (by omega)) ?_)))
        simp; omega
    · have e : cf x = 0 := if_neg hk
      rw [e]
      refine Ev.pos (by simpa using hk) (Ev.eq (counts_go l a b c ht (by omega) (by omega) (by omega)) ?_)
      simp
theorem Counts_ev (l : List ES) (h : fits l) : Ev (fun k => gc_Counts.f k l) (cn 1 l, cn 2 l, cn 3 l) := by
  have := h.1
  refine Ev.eq (counts_go l 0 0 0 h (by omega) (by omega) (by omega)) ?_
  simp

/-! ### too many, or too large -/
def bigE (x : ES) : Bool := decide (300 < (bl x.f0).length) || decide (300 < (bl x.f3).length)
def lrg (l : List ES) : Bool := decide (80 < l.length) || l.any bigE
theorem large_l0 (l : List ES) (hl : l.length ≤ 80) : ∀ (n i : Nat), i + n = l.length → Ev (fun k => screelaw17_large.l0 k l (l.length : Int) (i : Int)) ((l.drop i).any bigE) := by
  intro n
  induction n with
  | zero =>
    intro i hi
    refine Ev.step (fun k => by rw [screelaw17_large.l0]) ?_
    refine Ev.neg (by omega) (Ev.val ?_)
    rw [List.drop_eq_nil_of_le (by omega)]; rfl
  | succ n ih =>
    intro i hi
    have h1 : i < l.length := by omega
    refine Ev.step (fun k => by rw [screelaw17_large.l0]) ?_
    refine Ev.pos (by omega) (Ev.pos (by omega) (Ev.pos (by omega) ?_))
    rw [rdE h1, List.drop_eq_getElem_cons h1, List.any_cons, size_bl, size_bl]
    unfold bigE
    by_cases h2 : 300 < (bl l[i].f0).length
    · rw [decide_eq_true h2]
      exact Ev.pos (by omega) (Ev.val (by simp))
    · rw [decide_eq_false h2]
      refine Ev.neg (by omega) ?_
      by_cases h3 : 300 < (bl l[i].f3).length
      · rw [decide_eq_true h3]
        exact Ev.pos (by omega) (Ev.val (by simp))
      · rw [decide_eq_false h3]
        refine Ev.neg (by omega) ?_
        rw [w64 _ (by omega) (by omega)]
        have := ih (i + 1) (by omega)
        unfold bigE at this
        simpa using this
theorem large_ev (l : List ES) : Ev (fun k => screelaw17_large.f k l) (lrg l) := by
  unfold screelaw17_large.f lrg
  by_cases h : 80 < l.length
  · rw [decide_eq_true h]
    exact Ev.pos (by omega) (Ev.val rfl)
  · rw [decide_eq_false h]
    refine Ev.neg (by omega) ?_
    have := large_l0 l (by omega) l.length 0 (by omega)
    simpa using this
theorem lrg_no {l : List ES} (h : lrg l = false) : l.length ≤ 80 ∧ fits l := by
  unfold lrg at h
  rw [Bool.or_eq_false_iff] at h
  obtain ⟨h1, h2⟩ := h
  have hl : l.length ≤ 80 := by have := of_decide_eq_false h1; omega
  refine ⟨hl, by omega, fun x hx => ?_⟩
  have h3 := List.any_eq_false.1 h2 x hx
  unfold bigE at h3
  simp at h3
  exact ⟨by omega, by omega⟩

/-! ### awake -/
def W (t st kd : Nat) : ES := ⟨lb (KeyS.kb 2 [97] t), 0, false, lb (ColS.wrB st kd)⟩
def Dt (t : Nat) (v : List UInt8) : ES := ⟨lb (KeyS.kb 3 [97] t), 0, false, lb v⟩
theorem mayA : KeyT.mayK [97] = true := by decide
theorem goodA (c t : Nat) (hc : c = 2 ∨ c = 3) (ht : t ≤ 1099511627776) : KeyS.good (c : Int) [97] t := ⟨by unfold KeyS.fam; omega, mayA, ht, fun h => by omega⟩
theorem write_ev (t st kd : Nat) (ht : t ≤ 1099511627776) (hw : ColS.okW st kd) : Ev (fun k => screelaw17_write.f k t st kd) ((W t st kd).f0, 0, false, (W t st kd).f3) := by
  have h1 := KeyS.RMake_ev 2 [97] t (by omega)
  rw [KeyS.mkr_yes (show KeyS.good (2 : Int) [97] t from goodA 2 t (Or.inl rfl) ht)] at h1
  have h2 := ColS.RWrite_ev st kd
  rw [ColS.wrr_yes hw] at h2
  unfold screelaw17_write.f
  exact Ev.bind h1 (Ev.bind h2 (Ev.val rfl))
theorem data_ev (t : Nat) (v : List UInt8) (ht : t ≤ 1099511627776) : Ev (fun k => screelaw17_data.f k t (lb v)) ((Dt t v).f0, 0, false, (Dt t v).f3) := by
  have h1 := KeyS.RMake_ev 3 [97] t (by omega)
  rw [KeyS.mkr_yes (show KeyS.good (3 : Int) [97] t from goodA 3 t (Or.inr rfl) ht)] at h1
  unfold screelaw17_data.f
  exact Ev.bind h1 (Ev.val rfl)
theorem rxW (t st kd : Nat) (ht : t ≤ 1099511627776) (hw : ColS.okW st kd) : rxE (W t st kd) = (⟨2, lb [97], t, ⟨#[]⟩, 0, 0, 0, st, kd⟩, true) := by
  have e1 := KeyS.rdr_some ((KeyS.rd_iff (KeyS.kb 2 [97] t) 2 [97] t).2 ⟨goodA 2 t (Or.inl rfl) ht, rfl⟩)
  have e2 := ColS.uwr_good hw
  unfold rxE rx W
  simp only [bl_lb, e1, e2]
  rfl
theorem rxD (t : Nat) (v : List UInt8) (ht : t ≤ 1099511627776) : rxE (Dt t v) = (⟨3, lb [97], t, ⟨#[]⟩, 0, 0, 0, 0, 0⟩, true) := by
  have e1 := KeyS.rdr_some ((KeyS.rd_iff (KeyS.kb 3 [97] t) 3 [97] t).2 ⟨goodA 3 t (Or.inr rfl) ht, rfl⟩)
  unfold rxE rx Dt
  simp only [bl_lb, e1]
  rfl
end Go.Proofs.Ytcdadhgcjkgnoaa.GcS
