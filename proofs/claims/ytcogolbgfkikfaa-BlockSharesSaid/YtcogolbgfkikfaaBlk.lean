/- block: what two texts share, what may be an entry, what may be a row: over lists of bytes. -/
import Derived.Test.YtcogolbgfkikfaaPx0
import Derived.Test.YtcogolbgfkikfaaPx2
import Derived.Test.YtcogolbgfkikfaaPx3
import Derived.Test.YtcogolbgfkikfaaNumA
set_option linter.unusedVariables false
set_option linter.unusedSimpArgs false
namespace Go.Proofs.Ytcogolbgfkikfaa.BlkS
open Go.RowKit Go.Proofs.Ytcogolbgfkikfaa.P Go.Proofs.Ytcogolbgfkikfaa.Th Go.Proofs.Ytcogolbgfkikfaa.NumS Go.Proofs.YtcogolbgfkikfaaW.PrintWords Go.Proofs.YtcogolbgfkikfaaW.PrintLast Go.Proofs.YtcogolbgfkikfaaW.PrintMore

abbrev ES := S35
theorem size_bl (s : ByteArray) : s.size = (bl s).length := by rw [← lb_size, lb_bl]
theorem toL_bl (s : ByteArray) : s.toList = bl s := by
  have := lb_toList (bl s)
  rwa [lb_bl] at this
theorem rdE {l : List ES} {i : Nat} (h : i < l.length) : rd_T35 l (i : Int) = l[i] := by simp [rd_T35, h]

/-! ### what two texts share -/
def comm : List UInt8 → List UInt8 → Nat
  | a :: l, b :: m => if a = b then comm l m + 1 else 0
  | _, _ => 0
theorem comm_nil (b : List UInt8) : comm [] b = 0 := by cases b <;> rfl
theorem comm_nil' (a : List UInt8) : comm a [] = 0 := by cases a <;> rfl
theorem comm_cons (a b : UInt8) (l m : List UInt8) : comm (a :: l) (b :: m) = if a = b then comm l m + 1 else 0 := rfl
theorem comm_le : ∀ (a b : List UInt8), comm a b ≤ a.length ∧ comm a b ≤ b.length := by
  intro a
  induction a with
  | nil => intro b; rw [comm_nil]; simp
  | cons x a ih =>
    intro b
    cases b with
    | nil => rw [comm_nil']; simp
    | cons y b =>
      rw [comm_cons]
      have := ih b
      split <;> simp <;> omega
theorem comm_take : ∀ (a b : List UInt8), a.take (comm a b) = b.take (comm a b) := by
  intro a
  induction a with
  | nil => intro b; rw [comm_nil]; simp
  | cons x a ih =>
    intro b
    cases b with
    | nil => rw [comm_nil']; simp
    | cons y b =>
      rw [comm_cons]
      by_cases h : x = y
      · rw [if_pos h, h, List.take_succ_cons, List.take_succ_cons, ih b]
      · rw [if_neg h]; simp
theorem comm_ne : ∀ (a b : List UInt8) (h1 : comm a b < a.length) (h2 : comm a b < b.length), a[comm a b] ≠ b[comm a b] := by
  intro a
  induction a with
  | nil => intro b h1 h2; simp at h1
  | cons x a ih =>
    intro b
    cases b with
    | nil => intro h1 h2; simp at h2
    | cons y b =>
      by_cases h : x = y
      · have e : comm (x :: a) (y :: b) = comm a b + 1 := by rw [comm_cons, if_pos h]
        intro h1 h2
        have := ih b (by rw [e] at h1; simpa using h1) (by rw [e] at h2; simpa using h2)
        simpa [e] using this
      · have e : comm (x :: a) (y :: b) = 0 := by rw [comm_cons, if_neg h]
        intro h1 h2
        simpa [e] using h
theorem comm_sym : ∀ (a b : List UInt8), comm a b = comm b a := by
  intro a
  induction a with
  | nil => intro b; rw [comm_nil, comm_nil']
  | cons x a ih =>
    intro b
    cases b with
    | nil => rw [comm_nil, comm_nil']
    | cons y b => rw [comm_cons, comm_cons, ih b]; by_cases h : x = y <;> simp [h, eq_comm]
theorem comm_app (c a b : List UInt8) : comm (c ++ a) (c ++ b) = c.length + comm a b := by
  induction c with
  | nil => simp
  | cons x c ih => rw [List.cons_append, List.cons_append, comm_cons, if_pos rfl, ih, List.length_cons]; omega
theorem comm_self (a : List UInt8) : comm a a = a.length := by
  have := comm_app a [] []
  simpa [comm_nil] using this
theorem shared_l0 (a b : List UInt8) (m : Nat) (hm : m = min a.length b.length) (ha : a.length ≤ 1000000000) : ∀ (n i : Nat), i + n = m → Ev (fun k => block_Shared.l0 k (lb a) (lb b) (m : Int) (m : Int) (i : Int)) ((i + comm (a.drop i) (b.drop i) : Nat) : Int) := by
  intro n
  induction n with
  | zero =>
    intro i hi
    refine Ev.step (fun k => by rw [block_Shared.l0]) ?_
    refine Ev.neg (by omega) (Ev.val ?_)
    have : comm (a.drop i) (b.drop i) = 0 := by
      rcases Nat.le_total a.length b.length with h | h
      · rw [List.drop_eq_nil_of_le (show a.length ≤ i by omega), comm_nil]
      · rw [List.drop_eq_nil_of_le (show b.length ≤ i by omega), comm_nil']
    rw [this]; congr 1; omega
  | succ n ih =>
    intro i hi
    have h1 : i < a.length := by omega
    have h2 : i < b.length := by omega
    refine Ev.step (fun k => by rw [block_Shared.l0]) ?_
    refine Ev.pos (by omega) (Ev.pos (by omega) (Ev.pos (by rw [lb_size]; omega) (Ev.pos (by rw [lb_size]; omega) ?_)))
    rw [bt_nat a i h1, bt_nat b i h2, List.drop_eq_getElem_cons h1, List.drop_eq_getElem_cons h2, comm_cons]
    by_cases h : a[i] = b[i]
    · rw [if_pos h]
      refine Ev.pos (by rw [h]) ?_
      rw [w64 _ (by omega) (by omega)]
      refine Ev.eq (ih (i + 1) (by omega)) ?_
      congr 1; omega
    · rw [if_neg h]
      exact Ev.neg (fun e => h (u8_ext (by omega))) (Ev.val rfl)
theorem Shared_ev (a b : List UInt8) (ha : a.length ≤ 1000000000) : Ev (fun k => block_Shared.f k (lb a) (lb b)) ((comm a b : Nat) : Int) := by
  have := shared_l0 a b _ rfl ha (min a.length b.length) 0 (by omega)
  simp only [block_Shared.f, lb_size, mn_nat]
  refine Ev.eq this ?_
  simp

/-! ### what may be an entry, what may be a row -/
def okE (x : ES) : Bool := decide (1 ≤ (bl x.f0).length ∧ (bl x.f0).length ≤ 100 ∧ (bl x.f3).length ≤ 100 ∧ (x.f2 = true → bl x.f3 = []) ∧ 1 ≤ x.f1 ∧ x.f1 ≤ 1099511627776)
theorem may_f (x : ES) : block_may.f x.f0 x.f1 x.f2 x.f3 = some (okE x) := by
  unfold block_may.f okE
  rw [toL_bl, toL_bl, size_bl, size_bl]
  by_cases h : bl x.f0 = []
  · rw [if_pos h, h]; simp
  · rw [if_neg h]
    have h0 : 1 ≤ (bl x.f0).length := List.length_pos_iff.2 h
    by_cases h1 : ((bl x.f0).length : Int) ≤ 100
    · rw [if_pos h1]
      by_cases h2 : ((bl x.f3).length : Int) ≤ 100
      · rw [if_pos h2]
        cases hd : x.f2
        · rw [if_neg (by simp)]
          by_cases h3 : x.f1 > 0
          · rw [if_pos h3]
            congr 1; rw [Bool.eq_iff_iff]; simp only [decide_eq_true_eq]
            exact ⟨fun h4 => ⟨h0, by omega, by omega, by simp, by omega, h4⟩, fun h4 => h4.2.2.2.2.2⟩
          · rw [if_neg h3]
            congr 1; symm; rw [decide_eq_false_iff_not]; intro h4; omega
        · rw [if_pos rfl]
          by_cases h5 : bl x.f3 = []
          · rw [if_pos h5]
            by_cases h3 : x.f1 > 0
            · rw [if_pos h3]
              congr 1; rw [Bool.eq_iff_iff]; simp only [decide_eq_true_eq]
              exact ⟨fun h4 => ⟨h0, by omega, by omega, fun _ => h5, by omega, h4⟩, fun h4 => h4.2.2.2.2.2⟩
            · rw [if_neg h3]
              congr 1; symm; rw [decide_eq_false_iff_not]; intro h4; omega
          · rw [if_neg h5]
            congr 1; symm; rw [decide_eq_false_iff_not]; intro h4; exact h5 (h4.2.2.2.1 rfl)
      · rw [if_neg h2]
        congr 1; symm; rw [decide_eq_false_iff_not]; intro h3; omega
    · rw [if_neg h1]
      congr 1; symm; rw [decide_eq_false_iff_not]; intro h3; omega
theorem idx_f : ∀ (l : List ES) (i : Nat), ∃ r, api_Entry_46.idx l (i : Int) = some r ∧ decide (r ≥ 0) = !(l.all okE) := by
  intro l
  induction l with
  | nil => intro i; exact ⟨-1, rfl, by simp⟩
  | cons x l ih =>
    intro i
    rw [api_Entry_46.idx]
    unfold block_row_1.f
    rw [may_f]
    simp only [Option.bind_some]
    cases h : okE x
    · exact ⟨(i : Int), by simp, by simp [h]⟩
    · obtain ⟨r, h1, h2⟩ := ih (i + 1)
      refine ⟨r, ?_, ?_⟩
      · simpa using h1
      · rw [h2]; simp [h]
/-- Does an entry stand before another one? -/
def ltE (x y : ES) : Bool := Op.bytesLess (bl x.f0) (bl y.f0) || (decide (bl x.f0 = bl y.f0) && decide (x.f1 > y.f1))
def sorted : List ES → Bool
  | x :: y :: l => ltE x y && sorted (y :: l)
  | _ => true
theorem cmp_ev (x y : ES) : ∃ r : Int, Ev (fun k => merge_compare.f k x.f0 x.f1 x.f2 x.f3 y.f0 y.f1 y.f2 y.f3) r ∧ decide (r ≥ 0) = !(ltE x y) := by
  have j0 : ∀ b, ∃ r : Int, Ev (fun k => merge_compare.j0 k b x.f0 x.f1 x.f2 x.f3 y.f0 y.f1 y.f2 y.f3) r ∧ decide (r ≥ 0) = !b := by
    intro b
    cases b
    · by_cases h : x.f0.toList = y.f0.toList
      · by_cases h2 : x.f1 = y.f1
        · refine ⟨0, Ev.step (fun k => by rw [merge_compare.j0]) ?_, rfl⟩
          exact Ev.neg (by simp) (Ev.pos h (Ev.pos h2 (Ev.val rfl)))
        · refine ⟨1, Ev.step (fun k => by rw [merge_compare.j0]) ?_, rfl⟩
          exact Ev.neg (by simp) (Ev.pos h (Ev.neg h2 (Ev.val rfl)))
      · refine ⟨1, Ev.step (fun k => by rw [merge_compare.j0]) ?_, rfl⟩
        exact Ev.neg (by simp) (Ev.neg h (Ev.val rfl))
    · refine ⟨-1, Ev.step (fun k => by rw [merge_compare.j0]) ?_, rfl⟩
      exact Ev.pos rfl (Ev.val rfl)
  unfold merge_compare.f ltE
  by_cases h : Op.bytesLess x.f0.toList y.f0.toList = true
  · obtain ⟨r, h1, h2⟩ := j0 true
    refine ⟨r, Ev.pos h h1, ?_⟩
    rw [toL_bl, toL_bl] at h
    rw [h2, h]; rfl
  · have h' : Op.bytesLess (bl x.f0) (bl y.f0) = false := by rw [toL_bl, toL_bl] at h; simpa using h
    by_cases h3 : x.f0.toList = y.f0.toList
    · obtain ⟨r, h1, h2⟩ := j0 (decide (x.f1 > y.f1))
      refine ⟨r, Ev.neg h (Ev.pos h3 h1), ?_⟩
      rw [toL_bl, toL_bl] at h3
      rw [h2, h', decide_eq_true h3]; simp
    · obtain ⟨r, h1, h2⟩ := j0 false
      refine ⟨r, Ev.neg h (Ev.neg h3 h1), ?_⟩
      rw [toL_bl, toL_bl] at h3
      rw [h2, h', decide_eq_false h3]; rfl
theorem sorted_drop (l : List ES) (i : Nat) (h : i + 1 < l.length) : sorted (l.drop i) = (ltE (l[i]'(by omega)) l[i + 1] && sorted (l.drop (i + 1))) := by
  rw [List.drop_eq_getElem_cons (show i < l.length by omega), List.drop_eq_getElem_cons h]; rfl
theorem row_l0 (l : List ES) (hl : l.length ≤ 1000000) : ∀ (n i : Nat), 1 ≤ i → i + n = max 1 l.length → Ev (fun k => merge_Row.l0 k l (i : Int)) (sorted (l.drop (i - 1))) := by
  intro n
  induction n with
  | zero =>
    intro i h1 hi
    refine Ev.step (fun k => by rw [merge_Row.l0]) ?_
    refine Ev.neg (by omega) (Ev.val ?_)
    congr 1; symm
    have : (l.drop (i - 1)).length ≤ 1 := by rw [List.length_drop]; omega
    match h : l.drop (i - 1) with
    | [] => rfl
    | [x] => rfl
    | x :: y :: r => rw [h] at this; simp at this
  | succ n ih =>
    intro i h1 hi
    have h2 : i < l.length := by omega
    obtain ⟨i, rfl⟩ : ∃ j, i = j + 1 := ⟨i - 1, by omega⟩
    refine Ev.step (fun k => by rw [merge_Row.l0]) ?_
    have e : wrap64 (((i + 1 : Nat) : Int) - 1) = (i : Int) := by rw [w64 _ (by omega) (by omega)]; omega
    rw [e]
    refine Ev.pos (by omega) (Ev.pos (by omega) (Ev.pos (by omega) (Ev.pos (by omega) ?_)))
    rw [rdE (show i < l.length by omega), rdE h2]
    obtain ⟨r, hr, hd⟩ := cmp_ev l[i] l[i + 1]
    refine Ev.bind hr ?_
    rw [Nat.add_sub_cancel, sorted_drop l i h2]
    by_cases h3 : r ≥ 0
    · rw [decide_eq_true h3] at hd
      refine Ev.pos h3 (Ev.val ?_)
      have : ltE l[i] l[i + 1] = false := by cases hh : ltE l[i] l[i + 1] <;> simp [hh] at hd ⊢
      rw [this]; rfl
    · rw [decide_eq_false h3] at hd
      have : ltE l[i] l[i + 1] = true := by cases hh : ltE l[i] l[i + 1] <;> simp [hh] at hd ⊢
      refine Ev.neg h3 ?_
      rw [this, Bool.true_and, w64 _ (by omega) (by omega)]
      have := ih (i + 1 + 1) (by omega) (by omega)
      simpa using this
theorem Row_ev (l : List ES) (hl : l.length ≤ 1000000) : Ev (fun k => merge_Row.f k l) (sorted l) := by
  have := row_l0 l hl (max 1 l.length - 1) 1 (by omega) (by omega)
  simpa [merge_Row.f] using this
def rowB (l : List ES) : Bool := decide (1 ≤ l.length ∧ l.length ≤ 32) && (sorted l && l.all okE)
theorem row_ev (l : List ES) (hl : l.length ≤ 1000000) : Ev (fun k => block_row.f k l) (rowB l) := by
  unfold block_row.f rowB
  by_cases h1 : (l.length : Int) > 0
  · refine Ev.pos h1 ?_
    by_cases h2 : (l.length : Int) ≤ 32
    · refine Ev.pos h2 (Ev.bind (Row_ev l hl) ?_)
      rw [decide_eq_true (show 1 ≤ l.length ∧ l.length ≤ 32 from ⟨by omega, by omega⟩)]
      cases hs : sorted l
      · exact Ev.neg (by simp) (Ev.val rfl)
      · refine Ev.pos rfl (Ev.val ?_)
        unfold api_Entry_46.f
        rw [if_pos (by omega)]
        obtain ⟨r, h3, h4⟩ := idx_f l 0
        have h3' : api_Entry_46.idx l 0 = some r := h3
        rw [h3']
        simp only [Option.bind_some, h4]
        simp
    · rw [decide_eq_false (show ¬ (1 ≤ l.length ∧ l.length ≤ 32) from fun h => by omega)]
      exact Ev.neg h2 (Ev.val rfl)
  · rw [decide_eq_false (show ¬ (1 ≤ l.length ∧ l.length ≤ 32) from fun h => by omega)]
    exact Ev.neg h1 (Ev.val rfl)
theorem rowB_len {l : List ES} (h : rowB l = true) : 1 ≤ l.length ∧ l.length ≤ 32 := by
  unfold rowB at h; rw [Bool.and_eq_true] at h; exact of_decide_eq_true h.1
theorem rowB_sorted {l : List ES} (h : rowB l = true) : sorted l = true := by
  unfold rowB at h; rw [Bool.and_eq_true, Bool.and_eq_true] at h; exact h.2.1
theorem rowB_all {l : List ES} (h : rowB l = true) : ∀ x ∈ l, okE x = true := by
  unfold rowB at h; rw [Bool.and_eq_true, Bool.and_eq_true] at h; exact List.all_eq_true.1 h.2.2
end Go.Proofs.Ytcogolbgfkikfaa.BlkS
