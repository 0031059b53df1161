/- batch: what may be a batch, its bytes: over lists of bytes; what the printed functions come to. -/
import Derived.Test.YtfgelbkhjiajfaaNumA
set_option linter.unusedVariables false
set_option linter.unusedSimpArgs false
namespace Go.Proofs.Ytfgelbkhjiajfaa.BatS
open Go.RowKit Go.Proofs.Ytfgelbkhjiajfaa.P Go.Proofs.Ytfgelbkhjiajfaa.Th Go.Proofs.Ytfgelbkhjiajfaa.NumS Go.Proofs.YtfgelbkhjiajfaaW.PrintWords Go.Proofs.YtfgelbkhjiajfaaW.PrintLast Go.Proofs.YtfgelbkhjiajfaaW.PrintMore

abbrev OS := S34
def u64 (n : Int) : Prop := 0 ≤ n ∧ n < 18446744073709551616
def sh (n : Int) : List UInt8 := short n.toNat
theorem sh_nat (n : Nat) : sh (n : Int) = short n := rfl
theorem Sh_ev {n : Int} (h : u64 n) : Ev (fun k => num_Short.f k n) (lb (sh n)) := by
  obtain ⟨m, rfl⟩ := Int.eq_ofNat_of_zero_le h.1
  exact Short_ev m (by have := h.2; omega)
theorem sh_len {n : Int} (h : u64 n) : (sh n).length ≤ 10 := short_len10 _ (by have := h.1; have := h.2; omega)
theorem size_bl (s : ByteArray) : s.size = (bl s).length := by rw [← lb_size, lb_bl]
theorem toL_bl (s : ByteArray) : s.toList = bl s := by
  have := lb_toList (bl s)
  rwa [lb_bl] at this
theorem rdO {l : List OS} {i : Nat} (h : i < l.length) : rd_T34 l (i : Int) = l[i] := by simp [rd_T34, h]

/-! ### what may be a batch -/
def okO (x : OS) : Bool := decide (1 ≤ (bl x.f1).length ∧ (bl x.f1).length ≤ 100 ∧ (bl x.f2).length ≤ 100 ∧ (x.f0 = true → bl x.f2 = []))
theorem one_f (x : OS) : batch_one.f x.f0 x.f1 x.f2 = some (okO x) := by
  unfold batch_one.f okO
  rw [toL_bl, toL_bl, size_bl, size_bl]
  by_cases h : bl x.f1 = []
  · rw [if_pos h, h]; simp
  · rw [if_neg h]
    have : 1 ≤ (bl x.f1).length := List.length_pos_iff.2 h
    by_cases h1 : ((bl x.f1).length : Int) ≤ 100
    · rw [if_pos h1]
      by_cases h2 : ((bl x.f2).length : Int) ≤ 100
      · rw [if_pos h2]
        cases hd : x.f0
        · rw [if_neg (by simp)]
          congr 1; symm; rw [decide_eq_true_eq]
          exact ⟨by omega, by omega, by omega, by simp⟩
        · rw [if_pos rfl]
          congr 1; rw [Bool.eq_iff_iff]; simp only [beq_iff_eq, decide_eq_true_eq]
          constructor
          · intro h3; exact ⟨by omega, by omega, by omega, fun _ => h3⟩
          · intro h3; exact h3.2.2.2 trivial
      · rw [if_neg h2]
        congr 1; symm; rw [decide_eq_false_iff_not]; intro h3; omega
    · rw [if_neg h1]
      congr 1; symm; rw [decide_eq_false_iff_not]; intro h3; omega
theorem idx_f : ∀ (l : List OS) (i : Nat), ∃ r, api_Op_30.idx l (i : Int) = some r ∧ decide (r ≥ 0) = !(l.all okO) := by
  intro l
  induction l with
  | nil => intro i; exact ⟨-1, rfl, by simp⟩
  | cons x l ih =>
    intro i
    rw [api_Op_30.idx]
    unfold batch_May_1.f
    rw [one_f]
    simp only [Option.bind_some]
    cases h : okO x
    · exact ⟨(i : Int), by simp, by simp [h]⟩
    · obtain ⟨r, h1, h2⟩ := ih (i + 1)
      refine ⟨r, ?_, ?_⟩
      · simpa using h1
      · rw [h2]; simp [h]
def mayB (l : List OS) : Bool := decide (1 ≤ l.length ∧ l.length ≤ 16) && l.all okO
theorem May_f (l : List OS) (hl : l.length < 4611686018427387904) : batch_May.f l = some (mayB l) := by
  unfold batch_May.f mayB
  by_cases h1 : (l.length : Int) > 0
  · rw [if_pos h1]
    by_cases h2 : (l.length : Int) ≤ 16
    · rw [if_pos h2]
      unfold api_Op_30.f
      rw [if_pos hl]
      obtain ⟨r, h3, h4⟩ := idx_f l 0
      have h3' : api_Op_30.idx l 0 = some r := h3
      rw [h3']
      simp only [Option.bind_some, h4]
      rw [decide_eq_true (show 1 ≤ l.length ∧ l.length ≤ 16 from ⟨by omega, by omega⟩)]
      simp
    · rw [if_neg h2, decide_eq_false (show ¬ (1 ≤ l.length ∧ l.length ≤ 16) from fun h => by omega)]
      rfl
  · rw [if_neg h1, decide_eq_false (show ¬ (1 ≤ l.length ∧ l.length ≤ 16) from fun h => by omega)]
    rfl
theorem mayB_len {l : List OS} (h : mayB l = true) : 1 ≤ l.length ∧ l.length ≤ 16 := by
  unfold mayB at h
  rw [Bool.and_eq_true] at h
  exact of_decide_eq_true h.1
theorem mayB_all {l : List OS} (h : mayB l = true) : ∀ x ∈ l, okO x = true := by
  unfold mayB at h
  rw [Bool.and_eq_true] at h
  exact List.all_eq_true.1 h.2
def numB (a : Int) (n : Nat) : Bool := decide (1 ≤ a ∧ a + n ≤ 1099511627777)
theorem num_f (a : Int) (n : Nat) (h1 : 1 ≤ n) (h2 : n ≤ 16) : batch_numbered.f a (n : Int) = some (numB a n) := by
  unfold batch_numbered.f numB
  by_cases h3 : a > 0
  · rw [if_pos h3]
    by_cases h4 : a ≤ 1099511627776
    · rw [if_pos h4]
      have e1 : IntKind.u64.wrap (n : Int) = n := wu_in _ (by omega) (by omega)
      have e2 : IntKind.u64.wrap (a + n) = a + n := wu_in _ (by omega) (by omega)
      have e3 : IntKind.u64.wrap (a + n - 1) = a + n - 1 := wu_in _ (by omega) (by omega)
      rw [e1, e2, e3]
      congr 1; rw [Bool.eq_iff_iff]; simp only [decide_eq_true_eq]; omega
    · rw [if_neg h4]
      congr 1; symm; rw [decide_eq_false_iff_not]; omega
  · rw [if_neg h3]
    congr 1; symm; rw [decide_eq_false_iff_not]; omega
theorem numB_u {a : Int} {n : Nat} (h : numB a n = true) (hn : 1 ≤ n) : u64 a := by
  have := of_decide_eq_true h; exact ⟨by omega, by omega⟩

/-! ### its bytes -/
def txt (s : List UInt8) : List UInt8 := short s.length ++ s
def opB (x : OS) : List UInt8 := if x.f0 = true then (1 : UInt8) :: txt (bl x.f1) else (0 : UInt8) :: (txt (bl x.f1) ++ txt (bl x.f2))
def enc (a : Int) (l : List OS) : List UInt8 := sh a ++ (short l.length ++ l.flatMap opB)
def encr (a : Int) (l : List OS) : ByteArray × Int := if mayB l = true then (if numB a l.length = true then (lb (enc a l), 0) else (lb [], 3)) else (lb [], 2)
theorem short1 (n : Nat) (h : n < 128) : (short n).length = 1 := by rw [short_lt n h]; rfl
theorem txt_len (s : List UInt8) (h : s.length ≤ 100) : (txt s).length ≤ 101 := by
  unfold txt; rw [List.length_append, short1 _ (by omega)]; omega
theorem okO_len {x : OS} (h : okO x = true) : (bl x.f1).length ≤ 100 ∧ (bl x.f2).length ≤ 100 := by
  have := of_decide_eq_true h; exact ⟨this.2.1, this.2.2.1⟩
theorem opB_len {x : OS} (h : okO x = true) : (opB x).length ≤ 203 ∧ 1 ≤ (opB x).length := by
  have h1 := txt_len _ (okO_len h).1
  have h2 := txt_len _ (okO_len h).2
  unfold opB
  split <;> simp <;> omega
theorem ops_len : ∀ (l : List OS), (∀ x ∈ l, okO x = true) → (l.flatMap opB).length ≤ 203 * l.length := by
  intro l
  induction l with
  | nil => intro _; simp
  | cons x l ih =>
    intro h
    have h1 := (opB_len (h x (by simp))).1
    have h2 := ih (fun y hy => h y (by simp [hy]))
    simp only [List.flatMap_cons, List.length_append, List.length_cons]
    omega
theorem txt_ev (acc : List UInt8) (s : ByteArray) (h1 : acc.length ≤ 1000000) (h2 : (bl s).length ≤ 1000) : Ev (fun k => batch_Encode.txt k acc s) (acc ++ txt (bl s)) := by
  unfold batch_Encode.txt
  have h3 : s.size = (bl s).length := size_bl s
  have h4 := short_len10 (bl s).length (by omega)
  rw [h3]
  refine Ev.bind (Short_ev _ (by omega)) (Ev.pos (by rw [lb_size]; omega) (Ev.val ?_))
  rw [bl_lb]; simp [txt]
theorem go_ev : ∀ (l : List OS) (acc : List UInt8), (∀ x ∈ l, okO x = true) → acc.length + 203 * l.length ≤ 100000 → Ev (fun k => batch_Encode.go k l acc) (acc ++ l.flatMap opB) := by
  intro l
  induction l with
  | nil => intro acc _ _; simp only [List.flatMap_nil, List.append_nil]; exact Ev.val rfl
  | cons x l ih =>
    intro acc h hl
    have hx := h x (by simp)
    have h1 := okO_len hx
    have h2 := txt_len _ h1.1
    have h3 := txt_len _ h1.2
    have h4 : (x :: l).length = l.length + 1 := rfl
    have hI : ∀ a : List UInt8, a.length + 203 * l.length ≤ 100000 → Ev (fun k => batch_Encode.go k l a) (a ++ l.flatMap opB) := fun a ha => ih a (fun y hy => h y (by simp [hy])) ha
    have ho : ∀ k, batch_Encode.go k (x :: l) acc = if acc.length + 1 ≤ 140737488351232 then (if x.f0 = true then (batch_Encode.txt k (acc ++ [1]) x.f1).bind fun a1 => batch_Encode.go k l a1 else (batch_Encode.txt k (acc ++ [0]) x.f1).bind fun a1 => (batch_Encode.txt k a1 x.f2).bind fun a2 => batch_Encode.go k l a2) else none := fun k => by rw [batch_Encode.go]
    refine Ev.congr ho ?_
    refine Ev.pos (by omega) ?_
    by_cases hd : x.f0 = true
    · refine Ev.pos hd (Ev.bind (txt_ev (acc ++ [1]) x.f1 (by simp; omega) (by omega)) ?_)
      refine Ev.eq (hI _ (by simp; omega)) ?_
      simp [opB, hd]
    · refine Ev.neg hd (Ev.bind (txt_ev (acc ++ [0]) x.f1 (by simp; omega) (by omega)) (Ev.bind (txt_ev _ x.f2 (by simp; omega) (by omega)) ?_))
      refine Ev.eq (hI _ (by simp; omega)) ?_
      simp [opB, hd]
theorem enc_len {a : Int} {l : List OS} (h : mayB l = true) (ha : u64 a) : (enc a l).length ≤ 4000 := by
  have h1 := mayB_len h
  have h2 := ops_len l (mayB_all h)
  have h3 := sh_len ha
  unfold enc
  rw [List.length_append, List.length_append, short1 _ (by omega)]
  omega
theorem Encode_ev (a : Int) (l : List OS) (hl : l.length < 4611686018427387904) : Ev (fun k => batch_Encode.f k a l) (encr a l) := by
  unfold batch_Encode.f encr
  refine Ev.just (May_f l hl) ?_
  by_cases h1 : mayB l = true
  · have hn := mayB_len h1
    rw [if_pos h1]
    refine Ev.pos h1 (Ev.just (num_f a l.length hn.1 hn.2) ?_)
    by_cases h2 : numB a l.length = true
    · rw [if_pos h2]
      have hu := numB_u h2 hn.1
      have h3 := sh_len hu
      have h4 := short1 l.length (by omega)
      refine Ev.pos h2 (Ev.bind (Sh_ev hu) (Ev.bind (Short_ev l.length (by omega)) (Ev.pos (by rw [lb_size, lb_size]; omega) ?_)))
      rw [bl_lb, bl_lb]
      refine Ev.bind (go_ev l _ (mayB_all h1) (by rw [List.length_append]; omega)) (Ev.val ?_)
      unfold enc; rw [List.append_assoc]
    · rw [if_neg h2]
      exact Ev.neg h2 (Ev.val rfl)
  · rw [if_neg h1]
    exact Ev.neg h1 (Ev.val rfl)
theorem encr_yes {a : Int} {l : List OS} (h1 : mayB l = true) (h2 : numB a l.length = true) : encr a l = (lb (enc a l), 0) := by
  unfold encr; rw [if_pos h1, if_pos h2]
theorem encr_cases (a : Int) (l : List OS) : (mayB l = true ∧ numB a l.length = true ∧ encr a l = (lb (enc a l), 0)) ∨ (¬ (mayB l = true ∧ numB a l.length = true) ∧ ∃ e, (e = 2 ∨ e = 3) ∧ encr a l = (lb [], e)) := by
  by_cases h1 : mayB l = true
  · by_cases h2 : numB a l.length = true
    · exact Or.inl ⟨h1, h2, encr_yes h1 h2⟩
    · exact Or.inr ⟨fun h => h2 h.2, 3, Or.inr rfl, by unfold encr; rw [if_pos h1, if_neg h2]⟩
  · exact Or.inr ⟨fun h => h1 h.1, 2, Or.inl rfl, by unfold encr; rw [if_neg h1]⟩
end Go.Proofs.Ytfgelbkhjiajfaa.BatS
