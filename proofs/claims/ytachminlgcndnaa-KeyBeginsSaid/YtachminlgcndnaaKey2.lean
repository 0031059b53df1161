/- key: what is read. -/
import Derived.Test.YtachminlgcndnaaKey
set_option linter.unusedVariables false
set_option linter.unusedSimpArgs false
namespace Go.Proofs.Ytachminlgcndnaa.KeyS
open Go.RowKit Go.Proofs.Ytachminlgcndnaa.P Go.Proofs.Ytachminlgcndnaa.Th Go.Proofs.Ytachminlgcndnaa.NumS Go.Proofs.Ytachminlgcndnaa.KeyT Go.Proofs.YtachminlgcndnaaW.PrintWords Go.Proofs.YtachminlgcndnaaW.PrintLast Go.Proofs.YtachminlgcndnaaW.PrintMore

def uner (l : List UInt8) : ByteArray × ByteArray × Int := match une [] l with
  | some (u, r) => (lb u, lb r, 0)
  | none => (lb [], lb [], 2)
theorem uner_some {l u r : List UInt8} (h : une [] l = some (u, r)) : uner l = (lb u, lb r, 0) := by unfold uner; rw [h]
theorem uner_none {l : List UInt8} (h : une [] l = none) : uner l = (lb [], lb [], 2) := by unfold uner; rw [h]
theorem Unescape_f (l : List UInt8) (h : l.length ≤ 140737488351232) : key_Unescape.f (lb l) = some (uner l) := by
  unfold key_Unescape.f uner
  rw [lb_size, if_pos h, bl_lb]
  cases une [] l with
  | none => rfl
  | some p => rfl
theorem naive_cons {c : UInt8} (h : c ≠ 0) (l : List UInt8) : naive (c :: l) = c :: naive l := by
  cases l with
  | nil => rfl
  | cons d l => rw [naive, if_neg h]
/-- the inner loop: what is unescaped, then held against what is there -/
theorem run_l1 (l : List UInt8) (n : Nat) (R : ByteArray × ByteArray × Int) (hl : l.length ≤ 140737488351232) (hn : n ≤ l.length) (h2 : 2 ≤ n) :
    ∀ (m : Nat) (rest pre acc tail : List UInt8), rest.length ≤ m → l = pre ++ (rest ++ tail) → pre.length + rest.length = n - 2 → acc.length ≤ pre.length →
    Ev (fun k => (screeref02_Escape.f k (lb (acc ++ naive rest))).bind fun bt218 => (if bt218.2 = 0 then (if 0 ≤ (n : Int) then (if (n : Int) ≤ ((lb l).size : Int) then (if bt218.1.toList = ((lb l).extract 0 ((n : Int) : Int).toNat).toList then (some (lb (acc ++ naive rest), (lb l).extract ((n : Int) : Int).toNat (lb l).size, 0)) else (screeref02_Unescape.l0 k (lb l) (wrap64 ((n : Int) + 1)))) else (none)) else (none)) else (screeref02_Unescape.l0 k (lb l) (wrap64 ((n : Int) + 1))))) R →
    Ev (fun k => screeref02_Unescape.l1 k (lb l) (n : Int) (toI acc) (pre.length : Int)) R := by
  have hw : wrap64 ((n : Int) - 2) = ((n - 2 : Nat) : Int) := by rw [w64 _ (by omega) (by omega)]; omega
  have out : ∀ (acc : List UInt8) (x7 : Nat), n - 2 ≤ x7 → Ev (fun k => (screeref02_Escape.f k (lb acc)).bind fun bt218 => (if bt218.2 = 0 then (if 0 ≤ (n : Int) then (if (n : Int) ≤ ((lb l).size : Int) then (if bt218.1.toList = ((lb l).extract 0 ((n : Int) : Int).toNat).toList then (some (lb acc, (lb l).extract ((n : Int) : Int).toNat (lb l).size, 0)) else (screeref02_Unescape.l0 k (lb l) (wrap64 ((n : Int) + 1)))) else (none)) else (none)) else (screeref02_Unescape.l0 k (lb l) (wrap64 ((n : Int) + 1))))) R →
      Ev (fun k => screeref02_Unescape.l1 k (lb l) (n : Int) (toI acc) (x7 : Int)) R := by
    intro acc x7 hx h
    refine Ev.step (fun k => by rw [screeref02_Unescape.l1]) ?_
    rw [hw]
    refine Ev.neg (by omega) ?_
    rw [son, ofI_toI]
    exact h
  intro m
  induction m with
  | zero =>
    intro rest pre acc tail hm hlp hp ha h
    have : rest = [] := List.length_eq_zero_iff.1 (by omega)
    subst this
    refine out acc pre.length (by simp at hp; omega) ?_
    simpa [naive] using h
  | succ m ih =>
    intro rest pre acc tail hm hlp hp ha h
    cases rest with
    | nil =>
      refine out acc pre.length (by simp at hp; omega) ?_
      simpa [naive] using h
    | cons c rest =>
      simp only [List.length_cons] at hp hm
      refine Ev.step (fun k => by rw [screeref02_Unescape.l1]) ?_
      rw [hw]
      have hb : bt (lb l) (pre.length : Int) = (c.toNat : Int) := by rw [hlp]; exact bt_app pre c (rest ++ tail)
      refine Ev.pos (by omega) (Ev.pos (by omega) (Ev.pos (by rw [lb_size]; omega) (Ev.pos (by rw [toI_len]; omega) (Ev.just rfl ?_))))
      rw [hb]
      have hr : toI acc ++ [(c.toNat : Int)] = toI (acc ++ [c]) := by rw [toI_app]; rfl
      rw [hr]
      have e1 : wrap64 ((pre.length : Int) + 1) = (((pre ++ [c]).length : Nat) : Int) := by rw [w64 _ (by omega) (by omega)]; simp
      by_cases hc : c = 0
      · refine Ev.pos (by rw [hc]; rfl) ?_
        rw [e1]
        cases rest with
        | nil =>
          have e2 : wrap64 ((((pre ++ [c]).length : Nat) : Int) + 1) = ((pre.length + 2 : Nat) : Int) := by
            have : (pre ++ [c]).length = pre.length + 1 := by simp
            rw [this, w64 _ (by omega) (by omega)]; omega
          rw [e2]
          simp only [List.length_nil] at hp
          refine out (acc ++ [c]) _ (by omega) ?_
          simpa [naive] using h
        | cons d rest =>
          simp only [List.length_cons] at hp hm
          have e2 : wrap64 ((((pre ++ [c]).length : Nat) : Int) + 1) = (((pre ++ [c, d]).length : Nat) : Int) := by
            have h1 : (pre ++ [c]).length = pre.length + 1 := by simp
            have h2 : (pre ++ [c, d]).length = pre.length + 2 := by simp
            rw [h1, h2, w64 _ (by omega) (by omega)]; omega
          rw [e2]
          refine ih rest (pre ++ [c, d]) (acc ++ [c]) tail (by omega) (by rw [hlp]; simp) (by simp; omega) (by simp; omega) ?_
          have e3 : (acc ++ [c]) ++ naive rest = acc ++ naive (c :: d :: rest) := by rw [naive, if_pos hc, hc]; simp
          rw [e3]; exact h
      · refine Ev.neg (by have := u8_pos hc; omega) ?_
        rw [e1]
        refine ih rest (pre ++ [c]) (acc ++ [c]) tail (by omega) (by rw [hlp]; simp) (by simp; omega) (by simp; omega) ?_
        have e3 : (acc ++ [c]) ++ naive rest = acc ++ naive (c :: rest) := by rw [naive_cons hc]; simp
        rw [e3]; exact h
theorem rune_l0 (l : List UInt8) (hl : l.length ≤ 140737488351232) : ∀ (d n : Nat), 2 ≤ n → n + d = l.length + 1 → (∀ u r, une [] l = some (u, r) → n ≤ (E u).length) →
    Ev (fun k => screeref02_Unescape.l0 k (lb l) (n : Int)) (uner l) := by
  intro d
  induction d with
  | zero =>
    intro n h2 hn hu
    refine Ev.step (fun k => by rw [screeref02_Unescape.l0]) ?_
    have hno : une [] l = none := by
      cases h : une [] l with
      | none => rfl
      | some p =>
        obtain ⟨u, r⟩ := p
        have h1 := hu u r h
        have h3 := congrArg List.length ((une_iff l u r).1 h).2
        rw [List.length_append] at h3
        omega
    rw [uner_none hno]
    exact Ev.neg (by rw [lb_size]; omega) (Ev.now _)
  | succ d ih =>
    intro n h2 hn hu
    have hw2 : wrap64 ((n : Int) - 2) = ((n - 2 : Nat) : Int) := by rw [w64 _ (by omega) (by omega)]; omega
    have hw1 : wrap64 ((n : Int) - 1) = ((n - 1 : Nat) : Int) := by rw [w64 _ (by omega) (by omega)]; omega
    have hw3 : wrap64 ((n : Int) + 1) = ((n + 1 : Nat) : Int) := by rw [w64 _ (by omega) (by omega)]; omega
    have i2 : n - 2 < l.length := by omega
    have i1 : n - 1 < l.length := by omega
    have next : (∀ u r, une [] l = some (u, r) → (E u).length ≠ n) → Ev (fun k => screeref02_Unescape.l0 k (lb l) (wrap64 ((n : Int) + 1))) (uner l) := by
      intro hne
      rw [hw3]
      refine ih (n + 1) (by omega) (by omega) (fun u r h => ?_)
      have := hu u r h
      have := hne u r h
      omega
    -- where an escaped key ends, there the end's two bytes stand
    have ends : ∀ u r, une [] l = some (u, r) → (E u).length = n → l[n - 2] = 0 ∧ l[n - 1] = 1 := by
      intro u r h he
      have hlr := ((une_iff l u r).1 h).2
      have h3 : (E u).length = (esc u).length + 2 := E_len u
      have h4 : l = esc u ++ (0 :: 1 :: r) := by rw [hlr]; simp [E]
      have g2 : l[n - 2]? = some 0 := by
        rw [h4, List.getElem?_append_right (by omega)]
        have : n - 2 - (esc u).length = 0 := by omega
        rw [this]; rfl
      have g1 : l[n - 1]? = some 1 := by
        rw [h4, List.getElem?_append_right (by omega)]
        have : n - 1 - (esc u).length = 1 := by omega
        rw [this]; rfl
      rw [List.getElem?_eq_getElem i2] at g2
      rw [List.getElem?_eq_getElem i1] at g1
      exact ⟨Option.some.inj g2, Option.some.inj g1⟩
    refine Ev.step (fun k => by rw [screeref02_Unescape.l0]) ?_
    rw [hw2, hw1]
    refine Ev.pos (by rw [lb_size]; omega) (Ev.pos (by omega) (Ev.pos (by rw [lb_size]; omega) ?_))
    rw [bt_nat _ _ i2]
    have skip : (∀ u r, une [] l = some (u, r) → (E u).length ≠ n) → Ev (fun k => screeref02_Unescape.j1 k (lb l) (n : Int) true) (uner l) := by
      intro hne
      refine Ev.step (fun k => by rw [screeref02_Unescape.j1]) ?_
      exact Ev.pos rfl (next hne)
    by_cases hz : l[n - 2] = 0
    · refine Ev.pos (by rw [hz]; rfl) (Ev.pos (by omega) (Ev.pos (by rw [lb_size]; omega) ?_))
      rw [bt_nat _ _ i1]
      by_cases ho : l[n - 1] = 1
      · have hb : (((l[n - 1]).toNat : Int) != 1) = false := by rw [ho]; rfl
        rw [hb]
        refine Ev.step (fun k => by rw [screeref02_Unescape.j1]) ?_
        refine Ev.neg (by simp) ?_
        have hsplit : l = [] ++ (l.take (n - 2) ++ l.drop (n - 2)) := by simp
        refine run_l1 l n (uner l) hl (by omega) h2 (n - 2) (l.take (n - 2)) [] [] (l.drop (n - 2)) (by simp; omega) hsplit (by simp; omega) (by simp) ?_
        rw [List.nil_append]
        refine Ev.bind (REscape_ev _) ?_
        have htk : l.take n = l.take (n - 2) ++ [0, 1] := by
          have e1 : n = (n - 2) + 1 + 1 := by omega
          have i1' : n - 2 + 1 < l.length := by omega
          have g : l[n - 2 + 1] = 1 := by have : n - 2 + 1 = n - 1 := by omega
                                          simp only [this]; exact ho
          conv => lhs; rw [e1]
          rw [List.take_succ_eq_append_getElem i1', List.take_succ_eq_append_getElem i2, hz, g]
          simp
        by_cases hm : mayK (naive (l.take (n - 2))) = true
        · rw [escr_yes hm]
          refine Ev.pos rfl (Ev.pos (by omega) (Ev.pos (by rw [lb_size]; omega) ?_))
          simp only [Int.toNat_natCast, lb_size, lb_extract, lb_toList, List.drop_zero, List.take_length]
          by_cases he : E (naive (l.take (n - 2))) = l.take n
          · refine Ev.pos he (Ev.val ?_)
            have hu2 : une [] l = some (naive (l.take (n - 2)), l.drop n) := (une_iff _ _ _).2 ⟨hm, by rw [he, List.take_append_drop]⟩
            rw [uner_some hu2]
          · refine Ev.neg he (next ?_)
            intro u r h hen
            apply he
            have hlr := ((une_iff l u r).1 h).2
            have h5 : l.take n = E u := by rw [hlr, ← hen]; exact List.take_left
            have h6 : l.take (n - 2) = esc u := by
              rw [htk] at h5
              exact List.append_cancel_right h5
            rw [h6, naive_esc, h5]
        · rw [escr_no hm]
          refine Ev.neg (by decide) (next ?_)
          intro u r h hen
          apply hm
          have hlr := (une_iff l u r).1 h
          have h5 : l.take n = E u := by rw [hlr.2, ← hen]; exact List.take_left
          have h6 : l.take (n - 2) = esc u := by
            rw [htk] at h5
            exact List.append_cancel_right h5
          rw [h6, naive_esc]; exact hlr.1
      · have hb : (((l[n - 1]).toNat : Int) != 1) = true := by
          rw [bne_iff_ne]; intro e; apply ho; apply u8_ext; have : (l[n - 1]).toNat = 1 := by omega
          rw [this]; rfl
        rw [hb]
        exact skip (fun u r h he => ho (ends u r h he).2)
    · refine Ev.neg (by have := u8_pos hz; omega) ?_
      exact skip (fun u r h he => hz (ends u r h he).1)
theorem RUnescape_ev (l : List UInt8) (hl : l.length ≤ 140737488351232) : Ev (fun k => screeref02_Unescape.f k (lb l)) (uner l) := by
  unfold screeref02_Unescape.f
  have hE : ∀ u r, une [] l = some (u, r) → 2 ≤ (E u).length := fun u r _ => by have := E_len u; omega
  by_cases h : l.length + 1 < 2
  · have hno : une [] l = none := by
      have : l = [] := List.length_eq_zero_iff.1 (by omega)
      rw [this]; rfl
    refine Ev.step (fun k => by rw [screeref02_Unescape.l0]) ?_
    rw [uner_none hno]
    exact Ev.neg (by rw [lb_size]; omega) (Ev.now _)
  · exact rune_l0 l hl (l.length + 1 - 2) 2 (Nat.le_refl _) (by omega) hE
/-! ### a store's key, read -/
def rd : List UInt8 → Option (Nat × List UInt8 × Nat)
  | [] => none
  | c :: l => if 1 ≤ c.toNat ∧ c.toNat ≤ 4 then (match une [] l with
    | none => none
    | some (u, r) => if c.toNat = 1 then (if r = [] then some (1, u, 0) else none) else (if r.length = 8 ∧ 18446744073709551615 - be 0 r ≤ 1099511627776 then some (c.toNat, u, 18446744073709551615 - be 0 r) else none)) else none
theorem rd_iff (s : List UInt8) (c : Nat) (u : List UInt8) (t : Nat) : rd s = some (c, u, t) ↔ good (c : Int) u t ∧ s = kb c u t := by
  constructor
  · intro h
    cases s with
    | nil => cases h
    | cons x l =>
      rw [rd] at h
      by_cases hx : 1 ≤ x.toNat ∧ x.toNat ≤ 4
      · rw [if_pos hx] at h
        cases hu : une [] l with
        | none => rw [hu] at h; cases h
        | some p =>
          obtain ⟨v, r⟩ := p
          rw [hu] at h
          simp only at h
          obtain ⟨hm, hl⟩ := (une_iff _ _ _).1 hu
          by_cases h1 : x.toNat = 1
          · rw [if_pos h1] at h
            by_cases hr : r = []
            · rw [if_pos hr] at h
              simp only [Option.some.injEq, Prod.mk.injEq] at h
              obtain ⟨rfl, rfl, rfl⟩ := h
              refine ⟨⟨by decide, hm, by omega, fun _ => rfl⟩, ?_⟩
              have : x = UInt8.ofNat 1 := u8_ext h1
              rw [this, hl, hr]; rfl
            · rw [if_neg hr] at h; cases h
          · rw [if_neg h1] at h
            by_cases hr : r.length = 8 ∧ 18446744073709551615 - be 0 r ≤ 1099511627776
            · rw [if_pos hr] at h
              simp only [Option.some.injEq, Prod.mk.injEq] at h
              obtain ⟨rfl, rfl, rfl⟩ := h
              refine ⟨⟨⟨by omega, by omega⟩, hm, hr.2, fun e => absurd (by omega) h1⟩, ?_⟩
              unfold kb
              rw [if_neg h1, fl_be r hr.1, ← hl]
              congr 1
              exact u8_ext (by rw [u8_ofNat_toNat _ (by omega)])
            · rw [if_neg hr] at h; cases h
      · rw [if_neg hx] at h; cases h
  · rintro ⟨⟨hf, hm, ht, h0⟩, rfl⟩
    have hc : 1 ≤ c ∧ c ≤ 4 := by unfold fam at hf; omega
    have hcc : (UInt8.ofNat c).toNat = c := u8_ofNat_toNat _ (by omega)
    unfold kb
    rw [rd, hcc, if_pos hc]
    by_cases h1 : c = 1
    · have ht0 : t = 0 := h0 (by omega)
      rw [if_pos h1, List.append_nil]
      have : une [] (E u) = some (u, []) := (une_iff _ _ _).2 ⟨hm, by simp⟩
      rw [this]
      simp only
      simp [h1, ht0]
    · rw [if_neg h1]
      have : une [] (E u ++ fl t) = some (u, fl t) := (une_iff _ _ _).2 ⟨hm, rfl⟩
      rw [this]
      simp only
      rw [if_neg h1, be_fl t ht, if_pos ⟨fl_len t, ht⟩]
def rdr (s : List UInt8) : Int × ByteArray × Int × Int := match rd s with
  | some (c, u, t) => ((c : Int), lb u, (t : Int), 0)
  | none => (0, lb [], 0, 2)
theorem rdr_some {s : List UInt8} {c : Nat} {u : List UInt8} {t : Nat} (h : rd s = some (c, u, t)) : rdr s = ((c : Int), lb u, (t : Int), 0) := by unfold rdr; rw [h]
theorem rdr_none {s : List UInt8} (h : rd s = none) : rdr s = (0, lb [], 0, 2) := by unfold rdr; rw [h]
theorem Read_ev (s : List UInt8) (hs : s.length ≤ 140737488351232) : Ev (fun k => key_Read.f k (lb s)) (rdr s) := by
  unfold key_Read.f
  cases s with
  | nil =>
    refine Ev.pos (lb_toList []) ?_
    refine Ev.step (fun k => by rw [key_Read.j0]) ?_
    rw [rdr_none rfl]
    exact Ev.pos rfl (Ev.now _)
  | cons x l =>
    simp only [List.length_cons] at hs
    have hxl := u8_lt x
    have hb0 : bt (lb (x :: l)) 0 = (x.toNat : Int) := bt_nat (x :: l) 0 (by simp)
    have hw : wrap64 (x.toNat : Int) = (x.toNat : Int) := w64 _ (by omega) (by omega)
    refine Ev.neg (by rw [lb_toList]; simp) (Ev.pos (by rw [lb_size, List.length_cons]; omega) ?_)
    rw [hb0, hw, family_f]
    refine Ev.just rfl ?_
    refine Ev.step (fun k => by rw [key_Read.j0]) ?_
    by_cases hf : fam (x.toNat : Int)
    · refine Ev.neg (by simpa using hf) (Ev.pos (by rw [lb_size, List.length_cons]; omega) (Ev.pos (by rw [lb_size, List.length_cons]; omega) ?_))
      simp only [lb_extract, lb_size, List.take_length, List.drop_succ_cons, List.drop_zero, hb0, hw, lb_toList]
      refine Ev.just (Unescape_f l (by omega)) ?_
      have hfn : 1 ≤ x.toNat ∧ x.toNat ≤ 4 := by unfold fam at hf; omega
      cases hu : une [] l with
      | none =>
        rw [uner_none hu]
        have : rd (x :: l) = none := by rw [rd, if_pos hfn, hu]
        rw [rdr_none this]
        exact Ev.neg (by decide) (Ev.now _)
      | some p =>
        obtain ⟨u, r⟩ := p
        rw [uner_some hu]
        obtain ⟨hm, hl⟩ := (une_iff _ _ _).1 hu
        refine Ev.pos rfl ?_
        simp only [lb_toList]
        by_cases h1 : x.toNat = 1
        · refine Ev.pos (by omega) ?_
          by_cases hr : r = []
          · refine Ev.pos hr ?_
            have : rd (x :: l) = some (1, u, 0) := by rw [rd, if_pos hfn, hu]; simp only; rw [if_pos h1, if_pos hr]
            rw [rdr_some this, h1]
            exact Ev.now _
          · refine Ev.neg hr ?_
            have : rd (x :: l) = none := by rw [rd, if_pos hfn, hu]; simp only; rw [if_pos h1, if_neg hr]
            rw [rdr_none this]
            exact Ev.now _
        · refine Ev.neg (by omega) (Ev.bind (Unfall_ev r) ?_)
          by_cases h8 : r.length = 8
          · have hlt := be_lt8 r h8
            have hur : ufres r = (((18446744073709551615 - be 0 r : Nat) : Int), true) := by unfold ufres; rw [if_pos h8]
            rw [hur]
            refine Ev.bind (Make_ev _ u _ (by omega)) ?_
            refine Ev.pos rfl ?_
            by_cases hg : good (x.toNat : Int) u (18446744073709551615 - be 0 r)
            · rw [mkr_yes hg]
              refine Ev.pos rfl ?_
              have hk : kb x.toNat u (18446744073709551615 - be 0 r) = x :: l := by
                unfold kb
                rw [if_neg h1, fl_be r h8, ← hl]
                congr 1
                exact u8_ext (u8_ofNat_toNat _ (by omega))
              have hx2 : ((x.toNat : Int)).toNat = x.toNat := by omega
              have : rd (x :: l) = some (x.toNat, u, 18446744073709551615 - be 0 r) := (rd_iff _ _ _ _).2 ⟨hg, hk.symm⟩
              rw [rdr_some this]
              refine Ev.pos (by rw [lb_toList, hx2, hk]) (Ev.now _)
            · have hno := mkr_no hg
              have : rd (x :: l) = none := by
                rw [rd, if_pos hfn, hu]; simp only; rw [if_neg h1, if_neg]
                intro e
                exact hg ⟨hf, hm, e.2, fun e => absurd (by omega) h1⟩
              rw [rdr_none this]
              exact Ev.neg hno.2 (Ev.now _)
          · have hur : ufres r = (0, false) := by unfold ufres; rw [if_neg h8]
            rw [hur]
            have : rd (x :: l) = none := by rw [rd, if_pos hfn, hu]; simp only; rw [if_neg h1, if_neg (fun e => h8 e.1)]
            rw [rdr_none this]
            refine Ev.bind (Make_ev (x.toNat : Int) u 0 (by omega)) ?_
            exact Ev.neg (by simp) (Ev.now _)
    · have : rd (x :: l) = none := by rw [rd, if_neg]; unfold fam at hf; omega
      rw [rdr_none this]
      exact Ev.pos (by simpa using hf) (Ev.now _)
theorem RRead_ev (s : List UInt8) (hs : s.length ≤ 140737488351232) : Ev (fun k => screeref02_Read.f k (lb s)) (rdr s) := by
  unfold screeref02_Read.f
  cases s with
  | nil =>
    refine Ev.pos (by rw [lb_size]; rfl) ?_
    rw [rdr_none rfl]
    exact Ev.now _
  | cons x l =>
    simp only [List.length_cons] at hs
    have hxl := u8_lt x
    have hb0 : bt (lb (x :: l)) 0 = (x.toNat : Int) := bt_nat (x :: l) 0 (by simp)
    have hw : wrap64 (x.toNat : Int) = (x.toNat : Int) := w64 _ (by omega) (by omega)
    have hx2 : ((x.toNat : Int)).toNat = x.toNat := by omega
    refine Ev.neg (by rw [lb_size, List.length_cons]; omega) (Ev.pos (by rw [lb_size, List.length_cons]; omega) ?_)
    simp only [lb_extract, lb_size, List.take_length, List.drop_succ_cons, List.drop_zero, hb0, hw, lb_toList]
    refine Ev.bind (RUnescape_ev l (by omega)) ?_
    cases hu : une [] l with
    | none =>
      rw [uner_none hu]
      have : rd (x :: l) = none := by rw [rd, hu]; simp
      rw [rdr_none this]
      exact Ev.neg (by decide) (Ev.now _)
    | some p =>
      obtain ⟨u, r⟩ := p
      rw [uner_some hu]
      obtain ⟨hm, hl⟩ := (une_iff _ _ _).1 hu
      refine Ev.pos rfl (Ev.pos (by simp) ?_)
      -- in both ways: what is made of the parts, held against s
      have fin : ∀ (t : Nat) (w : Int), w = (t : Int) → t < 18446744073709551616 → (rd (x :: l) ≠ none → rd (x :: l) = some (x.toNat, u, t)) →
          Ev (fun k => (screeref02_Make.f k (x.toNat : Int) (lb u) w).bind fun bt => (if bt.2 = 0 then (if bt.1.toList = x :: l then (some ((x.toNat : Int), lb u, w, 0)) else (some (0, (⟨#[]⟩ : ByteArray), 0, 2))) else (some (0, (⟨#[]⟩ : ByteArray), 0, 2)))) (rdr (x :: l)) := by
        intro t w hwt ht hrd
        subst hwt
        refine Ev.bind (RMake_ev _ u t ht) ?_
        by_cases hg : good (x.toNat : Int) u t
        · rw [mkr_yes hg]
          refine Ev.pos rfl ?_
          rw [lb_toList, hx2]
          by_cases hk : kb x.toNat u t = x :: l
          · refine Ev.pos hk ?_
            rw [rdr_some ((rd_iff _ _ _ _).2 ⟨hg, hk.symm⟩)]
            exact Ev.now _
          · refine Ev.neg hk ?_
            have : rd (x :: l) = none := by
              cases h : rd (x :: l) with
              | none => rfl
              | some q =>
                have h2 := hrd (by rw [h]; simp)
                exact absurd ((rd_iff _ _ _ _).1 h2).2.symm hk
            rw [rdr_none this]
            exact Ev.now _
        · have hno := mkr_no hg
          have : rd (x :: l) = none := by
            cases h : rd (x :: l) with
            | none => rfl
            | some q =>
              have h2 := hrd (by rw [h]; simp)
              exact absurd ((rd_iff _ _ _ _).1 h2).1 hg
          rw [rdr_none this]
          exact Ev.neg hno.2 (Ev.now _)
      by_cases h1 : x.toNat = 1
      · refine Ev.pos (by omega) (fin 0 0 rfl (by omega) ?_)
        intro h
        rw [rd] at h ⊢
        rw [if_pos (by omega), hu] at h ⊢
        simp only at h ⊢
        rw [if_pos h1] at h ⊢
        by_cases hr : r = []
        · rw [if_pos hr, h1]
        · rw [if_neg hr] at h; exact absurd rfl h
      · refine Ev.neg (by omega) (Ev.bind (RUnfall_ev r) ?_)
        by_cases h8 : r.length = 8
        · have hlt := be_lt8 r h8
          have hur : ufres r = (((18446744073709551615 - be 0 r : Nat) : Int), true) := by unfold ufres; rw [if_pos h8]
          rw [hur]
          refine fin _ _ rfl (by omega) ?_
          intro h
          rw [rd] at h ⊢
          by_cases hf : 1 ≤ x.toNat ∧ x.toNat ≤ 4
          · rw [if_pos hf, hu] at h ⊢
            simp only at h ⊢
            rw [if_neg h1] at h ⊢
            by_cases hr : r.length = 8 ∧ 18446744073709551615 - be 0 r ≤ 1099511627776
            · rw [if_pos hr]
            · rw [if_neg hr] at h; exact absurd rfl h
          · rw [if_neg hf] at h; exact absurd rfl h
        · have hur : ufres r = (0, false) := by unfold ufres; rw [if_neg h8]
          rw [hur]
          refine fin 0 0 rfl (by omega) ?_
          intro h
          rw [rd] at h
          by_cases hf : 1 ≤ x.toNat ∧ x.toNat ≤ 4
          · rw [if_pos hf, hu] at h
            simp only at h
            rw [if_neg h1, if_neg (fun e => h8 e.1)] at h; exact absurd rfl h
          · rw [if_neg hf] at h; exact absurd rfl h
end Go.Proofs.Ytachminlgcndnaa.KeyS
