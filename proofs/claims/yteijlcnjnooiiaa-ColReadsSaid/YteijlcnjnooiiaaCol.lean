/- col: what the printed functions of locks and writes, and the reference's, come to: over lists of bytes. -/
import Derived.Test.YteijlcnjnooiiaaPx0
import Derived.Test.YteijlcnjnooiiaaPx5
import Derived.Test.YteijlcnjnooiiaaPx6
import Derived.Test.YteijlcnjnooiiaaPx7
import Derived.Test.YteijlcnjnooiiaaPx9
import Derived.Test.YteijlcnjnooiiaaNumA
import Derived.Test.YteijlcnjnooiiaaKeyT
set_option linter.unusedVariables false
set_option linter.unusedSimpArgs false
namespace Go.Proofs.Yteijlcnjnooiiaa.ColS
open Go.RowKit Go.Proofs.Yteijlcnjnooiiaa.P Go.Proofs.Yteijlcnjnooiiaa.Th Go.Proofs.Yteijlcnjnooiiaa.NumS Go.Proofs.Yteijlcnjnooiiaa.KeyT Go.Proofs.YteijlcnjnooiiaaW.PrintWords Go.Proofs.YteijlcnjnooiiaaW.PrintLast Go.Proofs.YteijlcnjnooiiaaW.PrintMore

def u64 (n : Int) : Prop := 0 ≤ n ∧ n < 18446744073709551616
def tm (n : Int) : Bool := decide (0 < n ∧ n ≤ 1099511627776)
def sh (n : Int) : List UInt8 := short n.toNat
theorem time_f (a : Int) : col_time.f a = some (tm a) := by
  unfold col_time.f tm
  by_cases h : a > 0
  · rw [if_pos h]; congr 1; rw [Bool.eq_iff_iff]; simp only [decide_eq_true_eq]; omega
  · rw [if_neg h]; congr 1; symm; rw [decide_eq_false_iff_not]; omega
theorem May_f (u : List UInt8) : key_May.f (lb u) = some (mayK u) := by
  unfold key_May.f mayK
  rw [lb_size, lb_toList]
  by_cases h : u = []
  · subst h; rw [if_pos rfl]; rfl
  · rw [if_neg h]
    have : 1 ≤ u.length := List.length_pos_iff.2 h
    congr 1; rw [Bool.eq_iff_iff]; simp only [decide_eq_true_eq]; omega
theorem Sh_ev {n : Int} (h : u64 n) : Ev (fun k => num_Short.f k n) (lb (sh n)) := by
  obtain ⟨m, rfl⟩ := Int.eq_ofNat_of_zero_le h.1
  exact Short_ev m (by have := h.2; omega)
theorem sh_len {n : Int} (h : u64 n) : (sh n).length ≤ 10 := short_len10 _ (by have := h.1; have := h.2; omega)
theorem sh_pos (n : Int) : 1 ≤ (sh n).length := short_pos _
theorem sh_len6 {n : Int} (h : n ≤ 1099511627776) : (sh n).length ≤ 6 := short_len6 _ (by omega)
theorem tm_u {n : Int} (h : tm n = true) : u64 n := by have := of_decide_eq_true h; exact ⟨by omega, by omega⟩
theorem tm_le {n : Int} (h : tm n = true) : 0 < n ∧ n ≤ 1099511627776 := of_decide_eq_true h

/-! ### a lock -/
def okL (p : List UInt8) (st kd at_ : Int) : Prop := mayK p = true ∧ tm st = true ∧ (kd = 1 ∨ kd = 2) ∧ at_ ≤ 1099511627776
instance (p : List UInt8) (st kd at_ : Int) : Decidable (okL p st kd at_) := inferInstanceAs (Decidable (_ ∧ _ ∧ _ ∧ _))
def lkB (p : List UInt8) (st kd at_ : Int) : List UInt8 := ((ofI [kd % 256] ++ sh st) ++ sh at_) ++ p
def lkr (p : List UInt8) (st kd at_ : Int) : ByteArray × Int := if okL p st kd at_ then (lb (lkB p st kd at_), 0) else (lb [], 2)
theorem lkr_yes {p : List UInt8} {st kd at_ : Int} (h : okL p st kd at_) : lkr p st kd at_ = (lb (lkB p st kd at_), 0) := if_pos h
theorem lkr_no {p : List UInt8} {st kd at_ : Int} (h : ¬ okL p st kd at_) : lkr p st kd at_ = (lb [], 2) := if_neg h
theorem lj_bad (p : ByteArray) (st kd at_ : Int) : Ev (fun k => col_Lock.j0 k true p st kd at_) (lb [], 2) := by
  refine Ev.step (fun k => by rw [col_Lock.j0]) ?_
  exact Ev.pos rfl (Ev.val rfl)
theorem lj_good (p : List UInt8) (st kd at_ : Int) (hp : p.length ≤ 140737488351232) (hs : u64 st) (ha : u64 at_) :
    Ev (fun k => col_Lock.j0 k false (lb p) st kd at_) (lb (lkB p st kd at_), 0) := by
  refine Ev.step (fun k => by rw [col_Lock.j0]) ?_
  have l1 := sh_len hs
  have l2 := sh_len ha
  refine Ev.neg (by simp) (Ev.just rfl (Ev.bind (Sh_ev hs) ?_))
  rw [son]
  refine Ev.pos (by rw [lb_size, lb_size, ofI_len]; simp; omega) (Ev.bind (Sh_ev ha) ?_)
  rw [lb_append]
  refine Ev.pos (by rw [lb_size, lb_size, List.length_append, ofI_len]; simp; omega) ?_
  rw [lb_append]
  refine Ev.pos (by rw [lb_size, lb_size, List.length_append, List.length_append, ofI_len]; simp; omega) ?_
  rw [lb_append]
  exact Ev.val rfl
theorem Lock_ev (p : List UInt8) (st kd at_ : Int) (hp : p.length ≤ 140737488351232) (hs : u64 st) (ha : u64 at_) :
    Ev (fun k => col_Lock.f k (lb p) st kd at_) (lkr p st kd at_) := by
  unfold col_Lock.f
  refine Ev.just (May_f p) ?_
  by_cases h1 : mayK p = true
  · refine Ev.pos h1 (Ev.just (time_f st) ?_)
    by_cases h2 : tm st = true
    · refine Ev.pos h2 ?_
      have key : kd = 1 ∨ kd = 2 → Ev (fun k => col_Lock.j0 k (decide (at_ > 1099511627776)) (lb p) st kd at_) (lkr p st kd at_) := by
        intro h3
        by_cases h4 : at_ > 1099511627776
        · rw [decide_eq_true h4, lkr_no (fun e => by have := e.2.2.2; omega)]
          exact lj_bad _ _ _ _
        · rw [decide_eq_false h4, lkr_yes ⟨h1, h2, h3, by omega⟩]
          exact lj_good p st kd at_ hp hs ha
      by_cases h3 : kd = 1
      · exact Ev.pos h3 (key (Or.inl h3))
      · refine Ev.neg h3 ?_
        by_cases h4 : kd = 2
        · exact Ev.pos h4 (key (Or.inr h4))
        · rw [lkr_no (fun e => by rcases e.2.2.1 with e | e; exact h3 e; exact h4 e)]
          exact Ev.neg h4 (lj_bad _ _ _ _)
    · rw [lkr_no (fun e => h2 e.2.1)]
      exact Ev.neg h2 (lj_bad _ _ _ _)
  · rw [lkr_no (fun e => h1 e.1)]
    exact Ev.neg h1 (lj_bad _ _ _ _)
/-! ### a write -/
def okW (st kd : Int) : Prop := tm st = true ∧ 1 ≤ kd ∧ kd ≤ 3
instance (st kd : Int) : Decidable (okW st kd) := inferInstanceAs (Decidable (_ ∧ _ ∧ _))
def wrB (st kd : Int) : List UInt8 := ofI [kd % 256] ++ sh st
def wrr (st kd : Int) : ByteArray × Int := if okW st kd then (lb (wrB st kd), 0) else (lb [], 2)
theorem wrr_yes {st kd : Int} (h : okW st kd) : wrr st kd = (lb (wrB st kd), 0) := if_pos h
theorem wrr_no {st kd : Int} (h : ¬ okW st kd) : wrr st kd = (lb [], 2) := if_neg h
theorem Write_ev (st kd : Int) : Ev (fun k => col_Write.f k st kd) (wrr st kd) := by
  unfold col_Write.f
  refine Ev.just (time_f st) ?_
  by_cases h2 : tm st = true
  · refine Ev.pos h2 ?_
    by_cases h3 : kd < 1
    · rw [wrr_no (fun e => by have := e.2.1; omega)]
      exact Ev.pos h3 (Ev.val rfl)
    · refine Ev.neg h3 ?_
      by_cases h4 : kd > 3
      · rw [wrr_no (fun e => by have := e.2.2; omega)]
        exact Ev.pos h4 (Ev.val rfl)
      · rw [wrr_yes ⟨h2, by omega, by omega⟩]
        have l1 := sh_len (tm_u h2)
        refine Ev.neg h4 (Ev.just rfl (Ev.bind (Sh_ev (tm_u h2)) ?_))
        rw [son]
        refine Ev.pos (by rw [lb_size, lb_size, ofI_len]; simp; omega) ?_
        rw [lb_append]
        exact Ev.val rfl
  · rw [wrr_no (fun e => h2 e.1)]
    exact Ev.neg h2 (Ev.val rfl)
/-! ### numbers, one behind the other -/
def nums : Nat → List UInt8 → Option (List Nat × List UInt8)
  | 0, s => some ([], s)
  | c + 1, s => match tk s with
    | none => none
    | some (n, r) => match nums c r with
      | none => none
      | some (l, r2) => some (n :: l, r2)
def nres (acc : List Int) : Option (List Nat × List UInt8) → List Int × ByteArray × Bool
  | none => ([], lb [], false)
  | some (l, r) => (acc ++ List.map (fun (n : Nat) => (n : Int)) l, lb r, true)
theorem nums_iff : ∀ (c : Nat) (s r : List UInt8) (l : List Nat), nums c s = some (l, r) ↔ l.length = c ∧ (∀ x ∈ l, x < 18446744073709551616) ∧ s = l.flatMap short ++ r := by
  intro c
  induction c with
  | zero =>
    intro s r l
    simp only [nums, Option.some.injEq, Prod.mk.injEq, List.length_eq_zero_iff]
    constructor
    · rintro ⟨rfl, rfl⟩; simp
    · rintro ⟨rfl, _, h⟩; simpa using h
  | succ c ih =>
    intro s r l
    rw [nums]
    constructor
    · intro h
      cases e : tk s with
      | none => rw [e] at h; simp at h
      | some q =>
        obtain ⟨n, r1⟩ := q
        rw [e] at h; simp only at h
        cases e2 : nums c r1 with
        | none => rw [e2] at h; simp at h
        | some q2 =>
          obtain ⟨l2, r2⟩ := q2
          rw [e2] at h; simp only [Option.some.injEq, Prod.mk.injEq] at h
          obtain ⟨rfl, rfl⟩ := h
          obtain ⟨h1, h2, h3⟩ := (ih _ _ _).1 e2
          obtain ⟨h4, h5⟩ := (tk_iff _ _ _).1 e
          refine ⟨by simp [h1], ?_, ?_⟩
          · intro x hx
            rcases List.mem_cons.1 hx with rfl | hx
            · exact h4
            · exact h2 x hx
          · rw [h5, h3]; simp
    · rintro ⟨h1, h2, h3⟩
      cases l with
      | nil => simp at h1
      | cons n l =>
        have e : tk s = some (n, l.flatMap short ++ r) := (tk_iff _ _ _).2 ⟨h2 n (by simp), by rw [h3]; simp⟩
        have e2 : nums c (l.flatMap short ++ r) = some (l, r) := (ih _ _ _).2 ⟨by simpa using h1, fun x hx => h2 x (by simp [hx]), rfl⟩
        rw [e]; simp only; rw [e2]
theorem numbers_l0 : ∀ (c : Nat) (s : List UInt8) (acc : List Int) (n : Int), s.length ≤ 140737488351232 → 0 ≤ n → n + c ≤ 40 → acc.length + c ≤ 40 →
    Ev (fun k => col_numbers.l0 k (lb s) acc (n + c) n) (nres acc (nums c s)) := by
  intro c
  induction c with
  | zero =>
    intro s acc n hs h0 hn ha
    refine Ev.step (fun k => by rw [col_numbers.l0]) ?_
    refine Ev.neg (by simp) (Ev.val ?_)
    simp [nums, nres]
  | succ c ih =>
    intro s acc n hs h0 hn ha
    refine Ev.step (fun k => by rw [col_numbers.l0]) ?_
    refine Ev.pos (by omega) (Ev.bind (Take_ev s hs) ?_)
    rw [nums]
    cases e : tk s with
    | none => exact Ev.neg (by simp [tres]) (Ev.val rfl)
    | some q =>
      obtain ⟨m, r⟩ := q
      have hr := ((tk_iff _ _ _).1 e).2
      have hrl : r.length ≤ s.length := by rw [hr]; simp
      refine Ev.pos (by simp [tres]) (Ev.pos (by omega) ?_)
      have e1 : wrap64 (n + 1) = n + 1 := w64 _ (by omega) (by omega)
      rw [e1]
      have hI := ih r (acc ++ [(m : Int)]) (n + 1) (by omega) (by omega) (by omega) (by simp; omega)
      rw [show n + ((c + 1 : Nat) : Int) = n + 1 + (c : Int) from by omega]
      refine Ev.eq hI ?_
      simp only
      cases nums c r with
      | none => rfl
      | some q2 => simp [nres]
theorem numbers_ev (c : Nat) (s : List UInt8) (hs : s.length ≤ 140737488351232) (hc : c ≤ 40) : Ev (fun k => col_numbers.f k (lb s) c) (nres [] (nums c s)) := by
  have := numbers_l0 c s [] 0 hs (by omega) (by omega) (by simp; omega)
  rw [Int.zero_add] at this
  exact this

/-! ### a lock that is read -/
def no4 : ByteArray × Int × Int × Int × Int := (lb [], 0, 0, 0, 2)
def ulk : List UInt8 → ByteArray × Int × Int × Int × Int
  | [] => no4
  | c :: t => match nums 2 t with
    | some ([a, b], r) => if okL r a c.toNat b ∧ lkB r a c.toNat b = c :: t then (lb r, (a : Int), (c.toNat : Int), (b : Int), 0) else no4
    | _ => no4
theorem api_Lock_ev (p s : List UInt8) (st kd at_ : Int) (hp : p.length ≤ 140737488351232) (hs : u64 st) (ha : u64 at_) :
    Ev (fun k => api_Lock.f k (lb p) st kd at_ (lb s)) (if okL p st kd at_ ∧ lkB p st kd at_ = s then (lb p, st, kd, at_, 0) else no4) := by
  unfold api_Lock.f
  refine Ev.bind (Lock_ev p st kd at_ hp hs ha) ?_
  by_cases h1 : okL p st kd at_
  · rw [lkr_yes h1]
    by_cases h2 : lkB p st kd at_ = s
    · refine Ev.eq ?_ (if_pos ⟨h1, h2⟩).symm
      exact Ev.neg (by simp [lb_toList, h2]) (Ev.val rfl)
    · refine Ev.eq ?_ (if_neg (fun e => h2 e.2)).symm
      exact Ev.pos (by simp [lb_toList, h2]) (Ev.val rfl)
  · rw [lkr_no h1]
    refine Ev.eq ?_ (if_neg (fun e => h1 e.1)).symm
    exact Ev.pos (by simp) (Ev.val rfl)
theorem nums2 {t r : List UInt8} {l : List Nat} (h : nums 2 t = some (l, r)) : ∃ a b, l = [a, b] ∧ a < 18446744073709551616 ∧ b < 18446744073709551616 ∧ t = short a ++ (short b ++ r) := by
  obtain ⟨h1, h2, h3⟩ := (nums_iff _ _ _ _).1 h
  match l, h1 with
  | [a, b], _ => exact ⟨a, b, rfl, h2 a (by simp), h2 b (by simp), by rw [h3]; simp⟩
theorem bt_head (c : UInt8) (t : List UInt8) : bt (lb (c :: t)) 0 = (c.toNat : Int) := bt_app [] c t
theorem ex_tail (c : UInt8) (t : List UInt8) : (lb (c :: t)).extract 1 (lb (c :: t)).size = lb t := by
  rw [lb_extract, lb_size]; simp
theorem Unlock_ev (s : List UInt8) (hs : s.length ≤ 140737488351232) : Ev (fun k => col_Unlock.f k (lb s)) (ulk s) := by
  unfold col_Unlock.f
  cases s with
  | nil => exact Ev.pos (lb_toList []) (Ev.val rfl)
  | cons c t =>
    have ht : t.length + 1 ≤ 140737488351232 := by simpa using hs
    refine Ev.neg (by rw [lb_toList]; simp) (Ev.pos (by rw [lb_size]; simp; omega) ?_)
    rw [ex_tail, bt_head]
    have hc := u8_lt c
    rw [w64 _ (by omega) (by omega)]
    refine Ev.bind (numbers_ev 2 t (by omega) (by omega)) ?_
    rw [ulk]
    cases e : nums 2 t with
    | none => exact Ev.neg (by simp [nres]) (Ev.val rfl)
    | some q =>
      obtain ⟨l, r⟩ := q
      obtain ⟨a, b, rfl, ha, hb, hr⟩ := nums2 e
      have hl : r.length ≤ t.length := by rw [hr]; simp; omega
      refine Ev.pos (by simp [nres]) (Ev.pos (by simp [nres]) (Ev.pos (by rw [lb_size]; simp) (Ev.pos (by simp [nres]) ?_)))
      refine Ev.bind (api_Lock_ev r (c :: t) a c.toNat b (by omega) ⟨by omega, by omega⟩ ⟨by omega, by omega⟩) ?_
      exact Ev.val rfl
theorem ulk_cases (s : List UInt8) : ulk s = no4 ∨ ∃ (p : List UInt8) (st kd at_ : Int), okL p st kd at_ ∧ 0 ≤ at_ ∧ s = lkB p st kd at_ ∧ p.length ≤ s.length ∧ ulk s = (lb p, st, kd, at_, 0) := by
  cases s with
  | nil => exact Or.inl rfl
  | cons c t =>
    rw [ulk]
    cases e : nums 2 t with
    | none => exact Or.inl rfl
    | some q =>
      obtain ⟨l, r⟩ := q
      obtain ⟨a, b, rfl, ha, hb, hr⟩ := nums2 e
      simp only
      by_cases h : okL r a c.toNat b ∧ lkB r a c.toNat b = c :: t
      · rw [if_pos h]
        exact Or.inr ⟨r, a, c.toNat, b, h.1, by omega, h.2.symm, by rw [hr]; simp; omega, rfl⟩
      · rw [if_neg h]; exact Or.inl rfl
theorem ulk_good {p : List UInt8} {st kd at_ : Int} (h : okL p st kd at_) (ha : 0 ≤ at_) : ulk (lkB p st kd at_) = (lb p, st, kd, at_, 0) := by
  obtain ⟨a, rfl⟩ := Int.eq_ofNat_of_zero_le (tm_u h.2.1).1
  obtain ⟨b, rfl⟩ := Int.eq_ofNat_of_zero_le ha
  have h2 := tm_u h.2.1
  have h4 := h.2.2.2
  have e0 : ∃ c : UInt8, ofI [kd % 256] = [c] ∧ (c.toNat : Int) = kd := by
    rcases h.2.2.1 with e | e <;> subst e <;> exact ⟨_, rfl, rfl⟩
  obtain ⟨c, e1, e2⟩ := e0
  have e3 : lkB p a kd b = c :: (short a ++ (short b ++ p)) := by
    unfold lkB sh; rw [e1]; simp
  have e4 : nums 2 (short a ++ (short b ++ p)) = some ([a, b], p) := by
    refine (nums_iff _ _ _ _).2 ⟨rfl, ?_, by simp⟩
    intro x hx
    have h5 := h2.2
    simp only [List.mem_cons, List.not_mem_nil, or_false] at hx
    rcases hx with rfl | rfl <;> omega
  rw [e3, ulk, e4]
  simp only
  rw [e2, if_pos ⟨h, e3⟩]
end Go.Proofs.Yteijlcnjnooiiaa.ColS
