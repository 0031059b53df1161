/- batch: Same, sizes, what a batch does; what is awake. -/
import Derived.Test.YtfgelbkhjiajfaaBat2
set_option linter.unusedVariables false
set_option linter.unusedSimpArgs false
namespace Go.Proofs.Ytfgelbkhjiajfaa.BatS
open Go.RowKit Go.Proofs.Ytfgelbkhjiajfaa.P Go.Proofs.Ytfgelbkhjiajfaa.Th Go.Proofs.Ytfgelbkhjiajfaa.NumS Go.Proofs.YtfgelbkhjiajfaaW.PrintWords Go.Proofs.YtfgelbkhjiajfaaW.PrintLast Go.Proofs.YtfgelbkhjiajfaaW.PrintMore

/-! ### the same -/
def smO (x y : OS) : Bool := !(!(x.f0 == y.f0) || (!(x.f1.toList == y.f1.toList) || !(x.f2.toList == y.f2.toList)))
theorem smO_iff (x y : OS) : smO x y = true ↔ x = y := by
  unfold smO
  rw [toL_bl, toL_bl, toL_bl, toL_bl]
  constructor
  · intro h
    simp at h
    obtain ⟨h1, h2, h3⟩ := h
    have e1 : x.f1 = y.f1 := by rw [← lb_bl x.f1, ← lb_bl y.f1, h2]
    have e2 : x.f2 = y.f2 := by rw [← lb_bl x.f2, ← lb_bl y.f2, h3]
    cases x; cases y; simp_all
  · intro h; subst h; simp
def sms : List OS → List OS → Bool
  | [], [] => true
  | x :: a, y :: b => smO x y && sms a b
  | _, _ => false
theorem sms_iff : ∀ (a b : List OS), sms a b = true ↔ a = b := by
  intro a
  induction a with
  | nil => intro b; cases b <;> simp [sms]
  | cons x a ih =>
    intro b
    cases b with
    | nil => simp [sms]
    | cons y b => rw [sms, Bool.and_eq_true, smO_iff, ih]; simp
theorem Same_l0 (a b : List OS) (ha : a.length ≤ 1000000) (hab : a.length = b.length) : ∀ (n i : Nat), i + n = a.length → Ev (fun k => screeref05_Same.l0 k a b (i : Int)) (sms (a.drop i) (b.drop i)) := by
  intro n
  induction n with
  | zero =>
    intro i hi
    refine Ev.step (fun k => by rw [screeref05_Same.l0]) ?_
    refine Ev.neg (by omega) (Ev.val ?_)
    rw [List.drop_eq_nil_of_le (by omega), List.drop_eq_nil_of_le (by omega)]; rfl
  | succ n ih =>
    intro i hi
    have h1 : i < a.length := by omega
    have h2 : i < b.length := by omega
    refine Ev.step (fun k => by rw [screeref05_Same.l0]) ?_
    refine Ev.pos (by omega) (Ev.pos (by omega) (Ev.pos (by omega) ?_))
    rw [rdO h1, rdO h2, List.drop_eq_getElem_cons h1, List.drop_eq_getElem_cons h2, sms]
    by_cases h : smO a[i] b[i] = true
    · rw [h, Bool.true_and]
      refine Ev.neg (by unfold smO at h; rw [Bool.not_eq_true'] at h; rw [h]; simp) ?_
      rw [w64 _ (by omega) (by omega)]
      exact ih (i + 1) (by omega)
    · have h' : smO a[i] b[i] = false := by simpa using h
      rw [h', Bool.false_and]
      exact Ev.pos (by unfold smO at h'; rw [Bool.not_eq_false'] at h'; exact h') (Ev.val rfl)
theorem Same_ev (a b : List OS) (ha : a.length ≤ 1000000) : Ev (fun k => screeref05_Same.f k a b) (sms a b) := by
  unfold screeref05_Same.f
  by_cases h : a.length = b.length
  · refine Ev.pos (by omega) ?_
    exact Same_l0 a b ha h a.length 0 (by omega)
  · refine Ev.neg (by omega) (Ev.val ?_)
    congr 1; symm
    rw [Bool.eq_false_iff]
    intro e
    rw [sms_iff] at e
    exact h (by rw [e])
theorem Same_self (a : List OS) (ha : a.length ≤ 1000000) : Ev (fun k => screeref05_Same.f k a a) true := Ev.eq (Same_ev a a ha) ((sms_iff a a).2 rfl)

/-! ### too many, or too large -/
def bigO (x : OS) : Bool := decide (300 < (bl x.f1).length) || decide (300 < (bl x.f2).length)
def lrg (l : List OS) : Bool := decide (40 < l.length) || l.any bigO
theorem large_l0 (l : List OS) (hl : l.length ≤ 40) : ∀ (n i : Nat), i + n = l.length → Ev (fun k => screelaw05_large.l0 k l (l.length : Int) (i : Int)) ((l.drop i).any bigO) := by
  intro n
  induction n with
  | zero =>
    intro i hi
    refine Ev.step (fun k => by rw [screelaw05_large.l0]) ?_
    refine Ev.neg (by omega) (Ev.val ?_)
    rw [List.drop_eq_nil_of_le (by omega)]; rfl
  | succ n ih =>
    intro i hi
    have h1 : i < l.length := by omega
    refine Ev.step (fun k => by rw [screelaw05_large.l0]) ?_
    refine Ev.pos (by omega) (Ev.pos (by omega) (Ev.pos (by omega) ?_))
    rw [rdO h1, List.drop_eq_getElem_cons h1, List.any_cons, size_bl, size_bl]
    unfold bigO
    by_cases h2 : 300 < (bl l[i].f1).length
    · rw [decide_eq_true h2]
      exact Ev.pos (by omega) (Ev.val (by simp))
    · rw [decide_eq_false h2]
      refine Ev.neg (by omega) ?_
      by_cases h3 : 300 < (bl l[i].f2).length
      · rw [decide_eq_true h3]
        exact Ev.pos (by omega) (Ev.val (by simp))
      · rw [decide_eq_false h3]
        refine Ev.neg (by omega) ?_
        rw [w64 _ (by omega) (by omega)]
        have := ih (i + 1) (by omega)
        unfold bigO at this
        simpa using this
theorem large_ev (l : List OS) : Ev (fun k => screelaw05_large.f k l) (lrg l) := by
  unfold screelaw05_large.f lrg
  by_cases h : 40 < l.length
  · rw [decide_eq_true h]
    exact Ev.pos (by omega) (Ev.val rfl)
  · rw [decide_eq_false h]
    refine Ev.neg (by omega) ?_
    have := large_l0 l (by omega) l.length 0 (by omega)
    simpa using this
theorem lrg_no {l : List OS} (h : lrg l = false) : l.length ≤ 40 ∧ ∀ x ∈ l, (bl x.f1).length ≤ 300 ∧ (bl x.f2).length ≤ 300 := by
  unfold lrg at h
  rw [Bool.or_eq_false_iff] at h
  obtain ⟨h1, h2⟩ := h
  refine ⟨by have := of_decide_eq_false h1; omega, fun x hx => ?_⟩
  have h3 := List.any_eq_false.1 h2 x hx
  unfold bigO at h3
  simp at h3
  exact h3

/-! ### sizes -/
def siz (l : List OS) : Nat := (l.map fun x => (bl x.f1).length + (bl x.f2).length).sum
theorem siz_le {l : List OS} (h : ∀ x ∈ l, (bl x.f1).length ≤ 300 ∧ (bl x.f2).length ≤ 300) : siz l ≤ 600 * l.length := by
  induction l with
  | nil => simp [siz]
  | cons x l ih =>
    have h1 := h x (by simp)
    have h2 := ih (fun y hy => h y (by simp [hy]))
    unfold siz at h2 ⊢
    simp only [List.map_cons, List.sum_cons, List.length_cons]
    omega
theorem Size_l0 (l : List OS) (hl : l.length ≤ 40) (hx : ∀ x ∈ l, (bl x.f1).length ≤ 300 ∧ (bl x.f2).length ≤ 300) : ∀ (n i a : Nat), i + n = l.length → a ≤ 600 * i → Ev (fun k => batch_Size.l0 k (a : Int) l (l.length : Int) (i : Int)) ((a + siz (l.drop i) : Nat) : Int) := by
  intro n
  induction n with
  | zero =>
    intro i a hi ha
    refine Ev.step (fun k => by rw [batch_Size.l0]) ?_
    refine Ev.neg (by omega) (Ev.val ?_)
    rw [List.drop_eq_nil_of_le (by omega)]; simp [siz]
  | succ n ih =>
    intro i a hi ha
    have h1 : i < l.length := by omega
    have h2 := hx l[i] (List.getElem_mem h1)
    refine Ev.step (fun k => by rw [batch_Size.l0]) ?_
    refine Ev.pos (by omega) (Ev.pos (by omega) (Ev.pos (by omega) ?_))
    rw [rdO h1, size_bl, size_bl]
    rw [w64 (((bl l[i].f1).length : Int) + ((bl l[i].f2).length : Int)) (by omega) (by omega)]
    rw [w64 _ (by omega) (by omega), w64 ((i : Int) + 1) (by omega) (by omega)]
    have := ih (i + 1) (a + ((bl l[i].f1).length + (bl l[i].f2).length)) (by omega) (by omega)
    have e1 : ((a + ((bl l[i].f1).length + (bl l[i].f2).length) : Nat) : Int) = (a : Int) + (((bl l[i].f1).length : Int) + ((bl l[i].f2).length : Int)) := by omega
    rw [e1] at this
    refine Ev.eq this ?_
    rw [List.drop_eq_getElem_cons h1]
    unfold siz
    simp only [List.map_cons, List.sum_cons]
    omega
theorem Size_ev (l : List OS) (hl : l.length ≤ 40) (hx : ∀ x ∈ l, (bl x.f1).length ≤ 300 ∧ (bl x.f2).length ≤ 300) : Ev (fun k => batch_Size.f k l) (siz l : Int) := by
  unfold batch_Size.f
  have := Size_l0 l hl hx l.length 0 0 (by omega) (by omega)
  simpa using this

/-! ### what a batch does -/
abbrev ES := S32
def ent (a : Int) (i : Nat) (x : OS) : ES := ⟨x.f1, IntKind.u64.wrap (a + i), x.f0, x.f2⟩
def ents (a : Int) : Nat → List OS → List ES
  | _, [] => []
  | i, x :: l => ent a i x :: ents a (i + 1) l
theorem ents_len (a : Int) : ∀ (l : List OS) (i : Nat), (ents a i l).length = l.length := by
  intro l
  induction l with
  | nil => intro i; rfl
  | cons x l ih => intro i; simp [ents, ih]
theorem ents_get (a : Int) : ∀ (l : List OS) (i j : Nat) (h : j < l.length), (ents a i l)[j]'(by rw [ents_len]; exact h) = ent a (i + j) l[j] := by
  intro l
  induction l with
  | nil => intro i j h; simp at h
  | cons x l ih =>
    intro i j h
    cases j with
    | zero => rfl
    | succ j =>
      have := ih (i + 1) j (by simpa using h)
      simp only [ents, List.getElem_cons_succ]
      rw [this, show i + 1 + j = i + (j + 1) by omega]
theorem rdE {a : Int} {l : List OS} {j : Nat} (h : j < l.length) : rd_T32 (ents a 0 l) (j : Int) = ent a j l[j] := by
  have h1 : j < (ents a 0 l).length := by rw [ents_len]; exact h
  have := ents_get a l 0 j h
  rw [Nat.zero_add] at this
  simp [rd_T32, h1, this]
theorem Entries_l0 (a : Int) (l : List OS) (hl : l.length ≤ 1000000) : ∀ (n i : Nat) (acc : List ES), i + n = l.length → acc.length = i → Ev (fun k => batch_Entries.l0 k a acc l (l.length : Int) (i : Int)) (acc ++ ents a i (l.drop i)) := by
  intro n
  induction n with
  | zero =>
    intro i acc hi ha
    refine Ev.step (fun k => by rw [batch_Entries.l0]) ?_
    refine Ev.neg (by omega) (Ev.val ?_)
    rw [List.drop_eq_nil_of_le (by omega)]; simp [ents]
  | succ n ih =>
    intro i acc hi ha
    have h1 : i < l.length := by omega
    refine Ev.step (fun k => by rw [batch_Entries.l0]) ?_
    refine Ev.pos (by omega) (Ev.pos (by omega) (Ev.pos (by omega) (Ev.pos (by omega) ?_)))
    rw [rdO h1, w64 ((i : Int) + 1) (by omega) (by omega), wu_nat i (by omega)]
    have := ih (i + 1) (acc ++ [ent a i l[i]]) (by omega) (by simp [ha])
    refine Ev.eq this ?_
    rw [List.drop_eq_getElem_cons h1, ents]
    simp
theorem Entries_ev (a : Int) (l : List OS) (hl : l.length ≤ 1000000) : Ev (fun k => batch_Entries.f k a l) (ents a 0 l) := by
  unfold batch_Entries.f
  refine Ev.pos (by omega) (Ev.pos (by omega) ?_)
  have := Entries_l0 a l hl l.length 0 [] (by omega) rfl
  simpa using this

/-! ### awake -/
def Y : List OS := [(⟨false, (⟨#[97]⟩ : ByteArray), (⟨#[120, 121]⟩ : ByteArray)⟩ : OS), (⟨true, (⟨#[98]⟩ : ByteArray), (⟨#[]⟩ : ByteArray)⟩ : OS)]
theorem mayY : mayB Y = true := by decide
theorem numY : numB 7 Y.length = true := by decide
theorem encY : enc 7 Y = [7, 2, 0, 1, 97, 2, 120, 121, 1, 1, 98] := by
  unfold enc Y sh
  simp [opB, txt, bl, short_lt]
theorem decr_more {a : Int} {l : List OS} {r : List UInt8} (h1 : mayB l = true) (h2 : numB a l.length = true) (hr : r ≠ []) : decr (enc a l ++ r) = noB := by
  rcases decr_cases (enc a l ++ r) with h | ⟨b, m, h3, h4, h5, _⟩
  · exact h
  · exfalso
    have := enc_free (r := r) (t := []) h1 h2 h3 h4 (by rw [List.append_nil]; exact h5)
    exact hr this.2.2
theorem awake_ev : Ev (fun k => screelaw05_awake.f k) true := by
  unfold screelaw05_awake.f
  refine Ev.just (a := Y) rfl ?_
  have e1 := Encode_ev 7 Y (by decide)
  rw [encr_yes mayY numY] at e1
  have e2 := Decode_ev (enc 7 Y) (by rw [encY]; decide)
  rw [decr_enc mayY numY] at e2
  have e3 := Decode_ev (enc 7 Y ++ [63]) (by rw [encY]; decide)
  rw [decr_more mayY numY (by simp)] at e3
  have e4 := Encode_ev 0 Y (by decide)
  have e5 : encr 0 Y = (lb [], 3) := by unfold encr; rw [if_pos mayY, if_neg (by decide)]
  rw [e5] at e4
  refine Ev.bind e1 (Ev.bind e2 (Ev.pos (by simp only [lb_size, encY]; decide) ?_))
  have e6 : lb (enc 7 Y) ++ (⟨#[63]⟩ : ByteArray) = lb (enc 7 Y ++ [63]) := by rw [← lb_append]; rfl
  simp only [e6]
  refine Ev.bind e3 (Ev.bind e4 (Ev.bind (Entries_ev 7 Y (by decide)) ?_))
  refine Ev.pos (by rw [lb_toList, encY]) (Ev.pos (by first | rfl | trivial) (Ev.pos (by first | rfl | trivial) (Ev.bind (Same_self Y (by decide)) (Ev.pos (by first | rfl | trivial) (Ev.pos (by first | rfl | trivial) (Ev.pos (by first | rfl | trivial) (Ev.pos (by first | rfl | trivial) ?_)))))))
  refine Ev.pos (by rw [ents_len]; decide) (Ev.pos (by rw [ents_len]; decide) ?_)
  have e7 : rd_T32 (ents 7 0 Y) 1 = ent 7 1 (⟨true, (⟨#[98]⟩ : ByteArray), (⟨#[]⟩ : ByteArray)⟩ : OS) := rdE (a := 7) (l := Y) (j := 1) (by decide)
  rw [e7]
  refine Ev.pos (by simp [ent, toL_bl, bl]; decide) ?_
  refine Ev.just (May_f Y (by decide)) (Ev.pos mayY (Ev.just (May_f [] (by decide)) (Ev.neg (by decide) ?_)))
  refine Ev.bind (Size_ev Y (by decide) (by decide)) (Ev.val ?_)
  decide
end Go.Proofs.Ytfgelbkhjiajfaa.BatS
