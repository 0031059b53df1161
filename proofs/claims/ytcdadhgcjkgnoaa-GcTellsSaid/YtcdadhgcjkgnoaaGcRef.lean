/- gc: what the reference's keys and values come to (out of the templates of those seats, by wip/gen/gc_tpl.py). -/
import Derived.Test.YtcdadhgcjkgnoaaPx0
import Derived.Test.YtcdadhgcjkgnoaaPx9
import Derived.Test.YtcdadhgcjkgnoaaPx10
import Derived.Test.YtcdadhgcjkgnoaaPx12
import Derived.Test.YtcdadhgcjkgnoaaPx13
import Derived.Test.YtcdadhgcjkgnoaaPx14
import Derived.Test.YtcdadhgcjkgnoaaPx15
import Derived.Test.YtcdadhgcjkgnoaaGcB
set_option linter.unusedVariables false
set_option linter.unusedSimpArgs false
namespace Go.Proofs.Ytcdadhgcjkgnoaa.NumS
open Go.RowKit Go.Proofs.Ytcdadhgcjkgnoaa.P Go.Proofs.Ytcdadhgcjkgnoaa.Th Go.Proofs.YtcdadhgcjkgnoaaW.PrintWords Go.Proofs.YtcdadhgcjkgnoaaW.PrintLast Go.Proofs.YtcdadhgcjkgnoaaW.PrintMore
/-! ### the reference's taking -/
theorem mulmod_add (a b x p : Nat) (h1 : a = x % 18446744073709551616) (h2 : b = p % 18446744073709551616) (c : Nat) :
    (a + c * b % 18446744073709551616) % 18446744073709551616 = (x + c * p) % 18446744073709551616 := by
  subst h1 h2
  rw [Nat.mul_mod_mod, ← Nat.add_mod]
theorem rtake_l0 : ∀ (rest pre : List UInt8) (x n p : Nat), (pre ++ rest).length ≤ 140737488351232 → n = x % 18446744073709551616 → p = 2 ^ (7 * pre.length) % 18446744073709551616 → tk (pre ++ rest) = tki pre.length x rest →
    Ev (fun k => screeref01_Take.l0 k (lb (pre ++ rest)) (n : Int) (p : Int) (pre.length : Int)) (tres (tk (pre ++ rest))) := by
  intro rest
  induction rest with
  | nil =>
    intro pre x n p hl hn hp ht
    refine Ev.step (fun k => by rw [screeref01_Take.l0]) ?_
    refine Ev.neg (by rw [lb_size]; simp) ?_
    refine Ev.step (fun k => by rw [screeref01_Take.j1]) ?_
    refine Ev.neg (by simp) (Ev.val ?_)
    rw [ht]; rfl
  | cons c rest ih =>
    intro pre x n p hl hn0 hp0 ht
    have hn := Aside0.mk hn0
    have hp := Aside0.mk hp0
    clear hn0 hp0
    have hlen : (pre ++ c :: rest).length = pre.length + 1 + rest.length := by simp; omega
    have hc := u8_lt c
    have hb : IntKind.u64.wrap (bt (lb (pre ++ c :: rest)) (pre.length : Int)) = ((c.toNat : Nat) : Int) := by
      rw [bt_app]; exact wu_nat _ (by omega)
    refine Ev.step (fun k => by rw [screeref01_Take.l0]) ?_
    refine Ev.pos (by rw [lb_size]; omega) ?_
    refine Ev.step (fun k => by rw [screeref01_Take.j1]) ?_
    by_cases h10 : pre.length < 10
    · refine Ev.pos (by rw [decide_eq_true_eq]; omega) (Ev.pos (by omega) (Ev.pos (by rw [lb_size]; omega) ?_))
      have e1 : wrap64 ((pre.length : Int) + 1) = ((pre.length + 1 : Nat) : Int) := by rw [w64 _ (by omega) (by omega)]; omega
      have eti : (((pre.length + 1 : Nat) : Int)).toNat = pre.length + 1 := by omega
      have hap : pre ++ c :: rest = (pre ++ [c]) ++ rest := by simp
      have etm : Int.tmod ((c.toNat : Nat) : Int) 128 = ((c.toNat % 128 : Nat) : Int) := by rw [Int.tmod_eq_emod_of_nonneg (by omega)]; omega
      have enew : IntKind.u64.wrap ((n : Int) + IntKind.u64.wrap (((c.toNat % 128 : Nat) : Int) * (p : Int))) = (((x + c.toNat % 128 * 2 ^ (7 * pre.length)) % 18446744073709551616 : Nat) : Int) := by
        rw [← mulmod_add n p x (2 ^ (7 * pre.length)) hn.out hp.out (c.toNat % 128), wu, wu, ← Int.natCast_mul]
        generalize c.toNat % 128 * p = q
        omega
      have eplace : IntKind.u64.wrap ((p : Int) * 128) = ((2 ^ (7 * (pre.length + 1)) % 18446744073709551616 : Nat) : Int) := by
        rw [wu, pow7, hp.out]
        generalize 2 ^ (7 * pre.length) = q
        omega
      rw [hb, etm, enew, e1, eplace]
      clear enew eplace hn hp
      by_cases h128 : c.toNat < 128
      · refine Ev.pos (by omega) ?_
        have hlt : (x + c.toNat % 128 * 2 ^ (7 * pre.length)) % 18446744073709551616 < 18446744073709551616 := Nat.mod_lt _ (by decide)
        have hm : c.toNat % 128 = c.toNat := Nat.mod_eq_of_lt h128
        refine Ev.bind (RShort_ev _ hlt) ?_
        refine Ev.pos (by omega) (Ev.pos (by rw [lb_size]; omega) ?_)
        rw [eti, lb_toList, lb_extract, lb_toList, lb_extract, lb_size, drop_app1]
        have htk : (List.take (pre.length + 1) (pre ++ c :: rest)).drop 0 = pre ++ [c] := by
          rw [List.drop_zero, hap, List.take_left' (by simp)]
        rw [htk]
        rw [tki_last _ _ _ _ h128] at ht
        rw [hm] at hlt ⊢
        by_cases hok : (pre.length = 0 ∨ c.toNat ≠ 0) ∧ x + c.toNat * 2 ^ (7 * pre.length) < 18446744073709551616
        · rw [if_pos hok] at ht
          have hmod : (x + c.toNat * 2 ^ (7 * pre.length)) % 18446744073709551616 = x + c.toNat * 2 ^ (7 * pre.length) := Nat.mod_eq_of_lt hok.2
          have hs := ((tk_iff _ _ _).1 ht).2
          rw [hap] at hs
          rw [hmod]
          refine Ev.pos (List.append_cancel_right hs).symm (Ev.val ?_)
          rw [ht]; rfl
        · rw [if_neg hok] at ht
          refine Ev.neg (fun e => ?_) (Ev.val ?_)
          · have := (tk_iff (pre ++ c :: rest) rest _).2 ⟨hlt, by rw [e]; exact hap⟩
            rw [ht] at this; cases this
          · rw [ht]; rfl
      · refine Ev.neg (by omega) ?_
        have := ih (pre ++ [c]) (x + c.toNat % 128 * 2 ^ (7 * pre.length)) _ _ (by simpa using hl) rfl rfl (by
          have h2 := tki_step pre.length x c rest h128
          rw [h2, hap] at ht
          simpa using ht)
        simpa using this
    · refine Ev.neg (by rw [decide_eq_true_eq]; omega) (Ev.val ?_)
      rw [ht, tki_big _ _ _ _ (by omega)]; rfl
theorem RTake_ev (l : List UInt8) (h : l.length ≤ 140737488351232) : Ev (fun k => screeref01_Take.f k (lb l)) (tres (tk l)) := by
  have := rtake_l0 l [] 0 0 1 (by simpa using h) rfl rfl (by rw [List.length_nil, tki_zero]; rfl)
  simp only [List.nil_append, List.length_nil] at this
  exact this
end Go.Proofs.Ytcdadhgcjkgnoaa.NumS
namespace Go.Proofs.Ytcdadhgcjkgnoaa.NumS
open Go.RowKit Go.Proofs.Ytcdadhgcjkgnoaa.P Go.Proofs.Ytcdadhgcjkgnoaa.Th Go.Proofs.YtcdadhgcjkgnoaaW.PrintWords Go.Proofs.YtcdadhgcjkgnoaaW.PrintLast Go.Proofs.YtcdadhgcjkgnoaaW.PrintMore
theorem runlong_l0 : ∀ (rest pre : List UInt8), pre.length + rest.length = 8 →
    Ev (fun k => screeref01_Unlong.l0 k (lb (pre ++ rest)) ((be 0 pre : Nat) : Int) (pre.length : Int)) (((be 0 (pre ++ rest) : Nat) : Int), true) := by
  intro rest
  induction rest with
  | nil =>
    intro pre h
    refine Ev.step (fun k => by rw [screeref01_Unlong.l0]) ?_
    refine Ev.neg (by simp at h; omega) (Ev.val ?_)
    simp
  | cons c rest ih =>
    intro pre h
    have h' : pre.length + (rest.length + 1) = 8 := by simpa using h
    have hc := u8_lt c
    have hlt := be_lt pre 0
    have hp : 256 ^ pre.length ≤ 256 ^ 7 := Nat.pow_le_pow_right (by decide) (by omega)
    refine Ev.step (fun k => by rw [screeref01_Unlong.l0]) ?_
    refine Ev.pos (by omega) (Ev.pos (by omega) (Ev.pos (by rw [lb_size]; simp; omega) ?_))
    rw [bt_app, wu_nat _ (by omega)]
    have e1 : wrap64 ((pre.length : Int) + 1) = ((pre.length + 1 : Nat) : Int) := by rw [w64 _ (by omega) (by omega)]; omega
    have e2 : IntKind.u64.wrap (((be 0 pre : Nat) : Int) * 256) = ((be 0 pre * 256 : Nat) : Int) := by
      rw [wu_in _ (by omega) (by omega)]; omega
    have e3 : IntKind.u64.wrap (((be 0 pre * 256 : Nat) : Int) + ((c.toNat : Nat) : Int)) = ((be 0 pre * 256 + c.toNat : Nat) : Int) := by
      rw [wu_in _ (by omega) (by omega)]; omega
    rw [e1, e2, e3]
    have := ih (pre ++ [c]) (by simp; omega)
    rw [be_app, be_cons, be_nil] at this
    simpa using this
theorem RUnlong_ev (l : List UInt8) : Ev (fun k => screeref01_Unlong.f k (lb l)) (ures l) := by
  unfold ures screeref01_Unlong.f
  by_cases h : l.length = 8
  · rw [if_pos h]
    refine Ev.pos (by rw [lb_size]; omega) ?_
    exact runlong_l0 l [] (by simpa using h)
  · rw [if_neg h]
    exact Ev.neg (by rw [lb_size]; omega) (Ev.now _)
theorem RUnfall_ev (l : List UInt8) : Ev (fun k => screeref01_Unfall.f k (lb l)) (ufres l) := by
  refine Ev.bind (RUnlong_ev l) ?_
  unfold ures ufres
  by_cases h : l.length = 8
  · rw [if_pos h, if_pos h]
    refine Ev.pos rfl (Ev.just (Turned_f _ (be_lt8 l h)) (Ev.now _))
  · rw [if_neg h, if_neg h]
    exact Ev.neg (by simp) (Ev.now _)
end Go.Proofs.Ytcdadhgcjkgnoaa.NumS
namespace Go.Proofs.Ytcdadhgcjkgnoaa.KeyS
open Go.RowKit Go.Proofs.Ytcdadhgcjkgnoaa.P Go.Proofs.Ytcdadhgcjkgnoaa.Th Go.Proofs.Ytcdadhgcjkgnoaa.NumS Go.Proofs.Ytcdadhgcjkgnoaa.KeyT Go.Proofs.YtcdadhgcjkgnoaaW.PrintWords Go.Proofs.YtcdadhgcjkgnoaaW.PrintLast Go.Proofs.YtcdadhgcjkgnoaaW.PrintMore
/-- the inner loop: what is unescaped, then held against what is there -/
theorem run_l1 (l : List UInt8) (n : Nat) (R : ByteArray × ByteArray × Int) (hl : l.length ≤ 140737488351232) (hn : n ≤ l.length) (h2 : 2 ≤ n) :
    ∀ (m : Nat) (rest pre acc tail : List UInt8), rest.length ≤ m → l = pre ++ (rest ++ tail) → pre.length + rest.length = n - 2 → acc.length ≤ pre.length →
    Ev (fun k => (screeref02_Escape.f k (lb (acc ++ naive rest))).bind fun bt218 => (if bt218.2 = 0 then (if 0 ≤ (n : Int) then (if (n : Int) ≤ ((lb l).size : Int) then (if bt218.1.toList = ((lb l).extract 0 ((n : Int) : Int).toNat).toList then (some (lb (acc ++ naive rest), (lb l).extract ((n : Int) : Int).toNat (lb l).size, 0)) else (screeref02_Unescape.l0 k (lb l) (wrap64 ((n : Int) + 1)))) else (none)) else (none)) else (screeref02_Unescape.l0 k (lb l) (wrap64 ((n : Int) + 1))))) R →
    Ev (fun k => screeref02_Unescape.l1 k (lb l) (n : Int) (toI acc) (pre.length : Int)) R := by
  have hw : wrap64 ((n : Int) - 2) = ((n - 2 : Nat) : Int) := by rw [w64 _ (by omega) (by omega)]; omega
  have out : ∀ (acc : List UInt8) (x7 : Nat), n - 2 ≤ x7 → Ev (fun k => (screeref02_Escape.f k (lb acc)).bind fun bt218 => (if bt218.2 = 0 then (if 0 ≤ (n : Int) then (if (n : Int) ≤ ((lb l).size : Int) then (if bt218.1.toList = ((lb l).extract 0 ((n : Int) : Int).toNat).toList then (some (lb acc, (lb l).extract ((n : Int) : Int).toNat (lb l).size, 0)) else (screeref02_Unescape.l0 k (lb l) (wrap64 ((n : Int) + 1)))) else (none)) else (none)) else (screeref02_Unescape.l0 k (lb l) (wrap64 ((n : Int) + 1))))) R →
      Ev (fun k => screeref02_Unescape.l1 k (lb l) (n : Int) (toI acc) (x7 : Int)) R := by
    intro acc x7 hx h
    refine Ev.step (fun k => by rw [screeref02_Unescape.l1]) ?_
    rw [hw]
    refine Ev.neg (by omega) ?_
    rw [son, ofI_toI]
    exact h
  intro m
  induction m with
  | zero =>
    intro rest pre acc tail hm hlp hp ha h
    have : rest = [] := List.length_eq_zero_iff.1 (by omega)
    subst this
    refine out acc pre.length (by simp at hp; omega) ?_
    simpa [naive] using h
  | succ m ih =>
    intro rest pre acc tail hm hlp hp ha h
    cases rest with
    | nil =>
      refine out acc pre.length (by simp at hp; omega) ?_
      simpa [naive] using h
    | cons c rest =>
      simp only [List.length_cons] at hp hm
      refine Ev.step (fun k => by rw [screeref02_Unescape.l1]) ?_
      rw [hw]
      have hb : bt (lb l) (pre.length : Int) = (c.toNat : Int) := by rw [hlp]; exact bt_app pre c (rest ++ tail)
      refine Ev.pos (by omega) (Ev.pos (by omega) (Ev.pos (by rw [lb_size]; omega) (Ev.pos (by rw [toI_len]; omega) (Ev.just rfl ?_))))
      rw [hb]
      have hr : toI acc ++ [(c.toNat : Int)] = toI (acc ++ [c]) := by rw [toI_app]; rfl
      rw [hr]
      have e1 : wrap64 ((pre.length : Int) + 1) = (((pre ++ [c]).length : Nat) : Int) := by rw [w64 _ (by omega) (by omega)]; simp
      by_cases hc : c = 0
      · refine Ev.pos (by rw [hc]; rfl) ?_
        rw [e1]
        cases rest with
        | nil =>
          have e2 : wrap64 ((((pre ++ [c]).length : Nat) : Int) + 1) = ((pre.length + 2 : Nat) : Int) := by
            have : (pre ++ [c]).length = pre.length + 1 := by simp
            rw [this, w64 _ (by omega) (by omega)]; omega
          rw [e2]
          simp only [List.length_nil] at hp
          refine out (acc ++ [c]) _ (by omega) ?_
          simpa [naive] using h
        | cons d rest =>
          simp only [List.length_cons] at hp hm
          have e2 : wrap64 ((((pre ++ [c]).length : Nat) : Int) + 1) = (((pre ++ [c, d]).length : Nat) : Int) := by
            have h1 : (pre ++ [c]).length = pre.length + 1 := by simp
            have h2 : (pre ++ [c, d]).length = pre.length + 2 := by simp
            rw [h1, h2, w64 _ (by omega) (by omega)]; omega
          rw [e2]
          refine ih rest (pre ++ [c, d]) (acc ++ [c]) tail (by omega) (by rw [hlp]; simp) (by simp; omega) (by simp; omega) ?_
          have e3 : (acc ++ [c]) ++ naive rest = acc ++ naive (c :: d :: rest) := by rw [naive, if_pos hc, hc]; simp
          rw [e3]; exact h
      · refine Ev.neg (by have := u8_pos hc; omega) ?_
        rw [e1]
        refine ih rest (pre ++ [c]) (acc ++ [c]) tail (by omega) (by rw [hlp]; simp) (by simp; omega) (by simp; omega) ?_
        have e3 : (acc ++ [c]) ++ naive rest = acc ++ naive (c :: rest) := by rw [naive_cons hc]; simp
        rw [e3]; exact h
theorem rune_l0 (l : List UInt8) (hl : l.length ≤ 140737488351232) : ∀ (d n : Nat), 2 ≤ n → n + d = l.length + 1 → (∀ u r, une [] l = some (u, r) → n ≤ (E u).length) →
    Ev (fun k => screeref02_Unescape.l0 k (lb l) (n : Int)) (uner l) := by
  intro d
  induction d with
  | zero =>
    intro n h2 hn hu
    refine Ev.step (fun k => by rw [screeref02_Unescape.l0]) ?_
    have hno : une [] l = none := by
      cases h : une [] l with
      | none => rfl
      | some p =>
        obtain ⟨u, r⟩ := p
        have h1 := hu u r h
        have h3 := congrArg List.length ((une_iff l u r).1 h).2
        rw [List.length_append] at h3
        omega
    rw [uner_none hno]
    exact Ev.neg (by rw [lb_size]; omega) (Ev.now _)
  | succ d ih =>
    intro n h2 hn hu
    have hw2 : wrap64 ((n : Int) - 2) = ((n - 2 : Nat) : Int) := by rw [w64 _ (by omega) (by omega)]; omega
    have hw1 : wrap64 ((n : Int) - 1) = ((n - 1 : Nat) : Int) := by rw [w64 _ (by omega) (by omega)]; omega
    have hw3 : wrap64 ((n : Int) + 1) = ((n + 1 : Nat) : Int) := by rw [w64 _ (by omega) (by omega)]; omega
    have i2 : n - 2 < l.length := by omega
    have i1 : n - 1 < l.length := by omega
    have next : (∀ u r, une [] l = some (u, r) → (E u).length ≠ n) → Ev (fun k => screeref02_Unescape.l0 k (lb l) (wrap64 ((n : Int) + 1))) (uner l) := by
      intro hne
      rw [hw3]
      refine ih (n + 1) (by omega) (by omega) (fun u r h => ?_)
      have := hu u r h
      have := hne u r h
      omega
    -- where an escaped key ends, there the end's two bytes stand
    have ends : ∀ u r, une [] l = some (u, r) → (E u).length = n → l[n - 2] = 0 ∧ l[n - 1] = 1 := by
      intro u r h he
      have hlr := ((une_iff l u r).1 h).2
      have h3 : (E u).length = (esc u).length + 2 := E_len u
      have h4 : l = esc u ++ (0 :: 1 :: r) := by rw [hlr]; simp [E]
      have g2 : l[n - 2]? = some 0 := by
        rw [h4, List.getElem?_append_right (by omega)]
        have : n - 2 - (esc u).length = 0 := by omega
        rw [this]; rfl
      have g1 : l[n - 1]? = some 1 := by
        rw [h4, List.getElem?_append_right (by omega)]
        have : n - 1 - (esc u).length = 1 := by omega
        rw [this]; rfl
      rw [List.getElem?_eq_getElem i2] at g2
      rw [List.getElem?_eq_getElem i1] at g1
      exact ⟨Option.some.inj g2, Option.some.inj g1⟩
    refine Ev.step (fun k => by rw [screeref02_Unescape.l0]) ?_
    rw [hw2, hw1]
    refine Ev.pos (by rw [lb_size]; omega) (Ev.pos (by omega) (Ev.pos (by rw [lb_size]; omega) ?_))
    rw [bt_nat _ _ i2]
    have skip : (∀ u r, une [] l = some (u, r) → (E u).length ≠ n) → Ev (fun k => screeref02_Unescape.j1 k (lb l) (n : Int) true) (uner l) := by
      intro hne
      refine Ev.step (fun k => by rw [screeref02_Unescape.j1]) ?_
      exact Ev.pos rfl (next hne)
    by_cases hz : l[n - 2] = 0
    · refine Ev.pos (by rw [hz]; rfl) (Ev.pos (by omega) (Ev.pos (by rw [lb_size]; omega) ?_))
      rw [bt_nat _ _ i1]
      by_cases ho : l[n - 1] = 1
      · have hb : (((l[n - 1]).toNat : Int) != 1) = false := by rw [ho]; rfl
        rw [hb]
        refine Ev.step (fun k => by rw [screeref02_Unescape.j1]) ?_
        refine Ev.neg (by simp) ?_
        have hsplit : l = [] ++ (l.take (n - 2) ++ l.drop (n - 2)) := by simp
        refine run_l1 l n (uner l) hl (by omega) h2 (n - 2) (l.take (n - 2)) [] [] (l.drop (n - 2)) (by simp; omega) hsplit (by simp; omega) (by simp) ?_
        rw [List.nil_append]
        refine Ev.bind (REscape_ev _) ?_
        have htk : l.take n = l.take (n - 2) ++ [0, 1] := by
          have e1 : n = (n - 2) + 1 + 1 := by omega
          have i1' : n - 2 + 1 < l.length := by omega
          have g : l[n - 2 + 1] = 1 := by have : n - 2 + 1 = n - 1 := by omega
                                          simp only [this]; exact ho
          conv => lhs; rw [e1]
          rw [List.take_succ_eq_append_getElem i1', List.take_succ_eq_append_getElem i2, hz, g]
          simp
        by_cases hm : mayK (naive (l.take (n - 2))) = true
        · rw [escr_yes hm]
          refine Ev.pos rfl (Ev.pos (by omega) (Ev.pos (by rw [lb_size]; omega) ?_))
          simp only [Int.toNat_natCast, lb_size, lb_extract, lb_toList, List.drop_zero, List.take_length]
          by_cases he : E (naive (l.take (n - 2))) = l.take n
          · refine Ev.pos he (Ev.val ?_)
            have hu2 : une [] l = some (naive (l.take (n - 2)), l.drop n) := (une_iff _ _ _).2 ⟨hm, by rw [he, List.take_append_drop]⟩
            rw [uner_some hu2]
          · refine Ev.neg he (next ?_)
            intro u r h hen
            apply he
            have hlr := ((une_iff l u r).1 h).2
            have h5 : l.take n = E u := by rw [hlr, ← hen]; exact List.take_left
            have h6 : l.take (n - 2) = esc u := by
              rw [htk] at h5
              exact List.append_cancel_right h5
            rw [h6, naive_esc, h5]
        · rw [escr_no hm]
          refine Ev.neg (by decide) (next ?_)
          intro u r h hen
          apply hm
          have hlr := (une_iff l u r).1 h
          have h5 : l.take n = E u := by rw [hlr.2, ← hen]; exact List.take_left
          have h6 : l.take (n - 2) = esc u := by
            rw [htk] at h5
            exact List.append_cancel_right h5
          rw [h6, naive_esc]; exact hlr.1
      · have hb : (((l[n - 1]).toNat : Int) != 1) = true := by
          rw [bne_iff_ne]; intro e; apply ho; apply u8_ext; have : (l[n - 1]).toNat = 1 := by omega
          rw [this]; rfl
        rw [hb]
        exact skip (fun u r h he => ho (ends u r h he).2)
    · refine Ev.neg (by have := u8_pos hz; omega) ?_
      exact skip (fun u r h he => hz (ends u r h he).1)
theorem RUnescape_ev (l : List UInt8) (hl : l.length ≤ 140737488351232) : Ev (fun k => screeref02_Unescape.f k (lb l)) (uner l) := by
  unfold screeref02_Unescape.f
  have hE : ∀ u r, une [] l = some (u, r) → 2 ≤ (E u).length := fun u r _ => by have := E_len u; omega
  by_cases h : l.length + 1 < 2
  · have hno : une [] l = none := by
      have : l = [] := List.length_eq_zero_iff.1 (by omega)
      rw [this]; rfl
    refine Ev.step (fun k => by rw [screeref02_Unescape.l0]) ?_
    rw [uner_none hno]
    exact Ev.neg (by rw [lb_size]; omega) (Ev.now _)
  · exact rune_l0 l hl (l.length + 1 - 2) 2 (Nat.le_refl _) (by omega) hE
theorem RRead_ev (s : List UInt8) (hs : s.length ≤ 140737488351232) : Ev (fun k => screeref02_Read.f k (lb s)) (rdr s) := by
  unfold screeref02_Read.f
  cases s with
  | nil =>
    refine Ev.pos (by rw [lb_size]; rfl) ?_
    rw [rdr_none rfl]
    exact Ev.now _
  | cons x l =>
    simp only [List.length_cons] at hs
    have hxl := u8_lt x
    have hb0 : bt (lb (x :: l)) 0 = (x.toNat : Int) := bt_nat (x :: l) 0 (by simp)
    have hw : wrap64 (x.toNat : Int) = (x.toNat : Int) := w64 _ (by omega) (by omega)
    have hx2 : ((x.toNat : Int)).toNat = x.toNat := by omega
    refine Ev.neg (by rw [lb_size, List.length_cons]; omega) (Ev.pos (by rw [lb_size, List.length_cons]; omega) ?_)
    simp only [lb_extract, lb_size, List.take_length, List.drop_succ_cons, List.drop_zero, hb0, hw, lb_toList]
    refine Ev.bind (RUnescape_ev l (by omega)) ?_
    cases hu : une [] l with
    | none =>
      rw [uner_none hu]
      have : rd (x :: l) = none := by rw [rd, hu]; simp
      rw [rdr_none this]
      exact Ev.neg (by decide) (Ev.now _)
    | some p =>
      obtain ⟨u, r⟩ := p
      rw [uner_some hu]
      obtain ⟨hm, hl⟩ := (une_iff _ _ _).1 hu
      refine Ev.pos rfl (Ev.pos (by simp) ?_)
      -- in both ways: what is made of the parts, held against s
      have fin : ∀ (t : Nat) (w : Int), w = (t : Int) → t < 18446744073709551616 → (rd (x :: l) ≠ none → rd (x :: l) = some (x.toNat, u, t)) →
          Ev (fun k => (screeref02_Make.f k (x.toNat : Int) (lb u) w).bind fun bt => (if bt.2 = 0 then (if bt.1.toList = x :: l then (some ((x.toNat : Int), lb u, w, 0)) else (some (0, (⟨#[]⟩ : ByteArray), 0, 2))) else (some (0, (⟨#[]⟩ : ByteArray), 0, 2)))) (rdr (x :: l)) := by
        intro t w hwt ht hrd
        subst hwt
        refine Ev.bind (RMake_ev _ u t ht) ?_
        by_cases hg : good (x.toNat : Int) u t
        · rw [mkr_yes hg]
          refine Ev.pos rfl ?_
          rw [lb_toList, hx2]
          by_cases hk : kb x.toNat u t = x :: l
          · refine Ev.pos hk ?_
            rw [rdr_some ((rd_iff _ _ _ _).2 ⟨hg, hk.symm⟩)]
            exact Ev.now _
          · refine Ev.neg hk ?_
            have : rd (x :: l) = none := by
              cases h : rd (x :: l) with
              | none => rfl
              | some q =>
                have h2 := hrd (by rw [h]; simp)
                exact absurd ((rd_iff _ _ _ _).1 h2).2.symm hk
            rw [rdr_none this]
            exact Ev.now _
        · have hno := mkr_no hg
          have : rd (x :: l) = none := by
            cases h : rd (x :: l) with
            | none => rfl
            | some q =>
              have h2 := hrd (by rw [h]; simp)
              exact absurd ((rd_iff _ _ _ _).1 h2).1 hg
          rw [rdr_none this]
          exact Ev.neg hno.2 (Ev.now _)
      by_cases h1 : x.toNat = 1
      · refine Ev.pos (by omega) (fin 0 0 rfl (by omega) ?_)
        intro h
        rw [rd] at h ⊢
        rw [if_pos (by omega), hu] at h ⊢
        simp only at h ⊢
        rw [if_pos h1] at h ⊢
        by_cases hr : r = []
        · rw [if_pos hr, h1]
        · rw [if_neg hr] at h; exact absurd rfl h
      · refine Ev.neg (by omega) (Ev.bind (RUnfall_ev r) ?_)
        by_cases h8 : r.length = 8
        · have hlt := be_lt8 r h8
          have hur : ufres r = (((18446744073709551615 - be 0 r : Nat) : Int), true) := by unfold ufres; rw [if_pos h8]
          rw [hur]
          refine fin _ _ rfl (by omega) ?_
          intro h
          rw [rd] at h ⊢
          by_cases hf : 1 ≤ x.toNat ∧ x.toNat ≤ 4
          · rw [if_pos hf, hu] at h ⊢
            simp only at h ⊢
            rw [if_neg h1] at h ⊢
            by_cases hr : r.length = 8 ∧ 18446744073709551615 - be 0 r ≤ 1099511627776
            · rw [if_pos hr]
            · rw [if_neg hr] at h; exact absurd rfl h
          · rw [if_neg hf] at h; exact absurd rfl h
        · have hur : ufres r = (0, false) := by unfold ufres; rw [if_neg h8]
          rw [hur]
          refine fin 0 0 rfl (by omega) ?_
          intro h
          rw [rd] at h
          by_cases hf : 1 ≤ x.toNat ∧ x.toNat ≤ 4
          · rw [if_pos hf, hu] at h
            simp only at h
            rw [if_neg h1, if_neg (fun e => h8 e.1)] at h; exact absurd rfl h
          · rw [if_neg hf] at h; exact absurd rfl h
end Go.Proofs.Ytcdadhgcjkgnoaa.KeyS
namespace Go.Proofs.Ytcdadhgcjkgnoaa.ColS
open Go.RowKit Go.Proofs.Ytcdadhgcjkgnoaa.P Go.Proofs.Ytcdadhgcjkgnoaa.Th Go.Proofs.Ytcdadhgcjkgnoaa.NumS Go.Proofs.Ytcdadhgcjkgnoaa.KeyT Go.Proofs.YtcdadhgcjkgnoaaW.PrintWords Go.Proofs.YtcdadhgcjkgnoaaW.PrintLast Go.Proofs.YtcdadhgcjkgnoaaW.PrintMore
theorem RMay_f (u : List UInt8) : screeref02_May.f (lb u) = some (mayK u) := by
  unfold screeref02_May.f mayK
  rw [lb_size]
  by_cases h : (u.length : Int) ≥ 1
  · rw [if_pos h]; congr 1; rw [Bool.eq_iff_iff]; simp only [decide_eq_true_eq]; omega
  · rw [if_neg h]; congr 1; symm; rw [decide_eq_false_iff_not]; omega
theorem rlj_bad (p : ByteArray) (st kd at_ : Int) : Ev (fun k => screeref15_Lock.j0 k true p st kd at_) (lb [], 2) := by
  refine Ev.step (fun k => by rw [screeref15_Lock.j0]) ?_
  exact Ev.pos rfl (Ev.val rfl)
theorem rlj_good (p : List UInt8) (st kd at_ : Int) (hp : p.length ≤ 140737488351232) (hs : u64 st) (ha : u64 at_) :
    Ev (fun k => screeref15_Lock.j0 k false (lb p) st kd at_) (lb (lkB p st kd at_), 0) := by
  refine Ev.step (fun k => by rw [screeref15_Lock.j0]) ?_
  have l1 := sh_len hs
  have l2 := sh_len ha
  refine Ev.neg (by simp) (Ev.just rfl (Ev.bind (RSh_ev hs) ?_))
  rw [son]
  refine Ev.pos (by rw [lb_size, lb_size, ofI_len]; simp; omega) (Ev.bind (RSh_ev ha) ?_)
  rw [lb_append]
  refine Ev.pos (by rw [lb_size, lb_size, List.length_append, ofI_len]; simp; omega) ?_
  rw [lb_append]
  refine Ev.pos (by rw [lb_size, lb_size, List.length_append, List.length_append, ofI_len]; simp; omega) ?_
  rw [lb_append]
  exact Ev.val rfl
theorem RLock_ev (p : List UInt8) (st kd at_ : Int) (hp : p.length ≤ 140737488351232) (hs : u64 st) (ha : u64 at_) :
    Ev (fun k => screeref15_Lock.f k (lb p) st kd at_) (lkr p st kd at_) := by
  unfold screeref15_Lock.f
  refine Ev.just (RMay_f p) ?_
  by_cases h1 : mayK p = true
  · refine Ev.pos h1 (Ev.just (rtime_f st) ?_)
    by_cases h2 : tm st = true
    · refine Ev.pos h2 ?_
      by_cases h3 : kd < 1
      · rw [lkr_no (fun e => by have := e.2.2.1; omega)]
        exact Ev.pos h3 (rlj_bad _ _ _ _)
      · refine Ev.neg h3 ?_
        by_cases h4 : kd > 2
        · rw [lkr_no (fun e => by have := e.2.2.1; omega)]
          exact Ev.pos h4 (rlj_bad _ _ _ _)
        · refine Ev.neg h4 ?_
          by_cases h5 : at_ > 1099511627776
          · rw [decide_eq_true h5, lkr_no (fun e => by have := e.2.2.2; omega)]
            exact rlj_bad _ _ _ _
          · rw [decide_eq_false h5, lkr_yes ⟨h1, h2, by omega, by omega⟩]
            exact rlj_good p st kd at_ hp hs ha
    · rw [lkr_no (fun e => h2 e.2.1)]
      exact Ev.neg h2 (rlj_bad _ _ _ _)
  · rw [lkr_no (fun e => h1 e.1)]
    exact Ev.neg h1 (rlj_bad _ _ _ _)
end Go.Proofs.Ytcdadhgcjkgnoaa.ColS
namespace Go.Proofs.Ytcdadhgcjkgnoaa.ColS
open Go.RowKit Go.Proofs.Ytcdadhgcjkgnoaa.P Go.Proofs.Ytcdadhgcjkgnoaa.Th Go.Proofs.Ytcdadhgcjkgnoaa.NumS Go.Proofs.Ytcdadhgcjkgnoaa.KeyT Go.Proofs.YtcdadhgcjkgnoaaW.PrintWords Go.Proofs.YtcdadhgcjkgnoaaW.PrintLast Go.Proofs.YtcdadhgcjkgnoaaW.PrintMore
/-! ### the reference's reading -/
def rn (s : List UInt8) (b : Bool) : Nat × List UInt8 × Bool := match tk s with
  | none => (0, s, true)
  | some (n, r) => if b = true then (0, s, true) else (n, r, false)
theorem RNum_ev (s : List UInt8) (b : Bool) (hs : s.length ≤ 140737488351232) : Ev (fun k => screeref12_In_Num.f k (lb s) b) (((rn s b).1 : Int), lb (rn s b).2.1, (rn s b).2.2) := by
  unfold screeref12_In_Num.f rn
  refine Ev.bind (RTake_ev s hs) ?_
  cases e : tk s with
  | none => exact Ev.neg (by simp [tres]) (Ev.val rfl)
  | some q =>
    obtain ⟨n, r⟩ := q
    refine Ev.pos (by simp [tres]) ?_
    cases b with
    | true => exact Ev.pos rfl (Ev.val rfl)
    | false => exact Ev.neg (by simp) (Ev.val rfl)
theorem rn_true (s : List UInt8) : rn s true = (0, s, true) := by
  unfold rn
  cases e : tk s with
  | none => rfl
  | some q => rfl
theorem rn_none {s : List UInt8} (h : tk s = none) (b : Bool) : rn s b = (0, s, true) := by unfold rn; rw [h]
theorem rn_some {s r : List UInt8} {n : Nat} (h : tk s = some (n, r)) : rn s false = (n, r, false) := by unfold rn; rw [h]; rfl
theorem nums2_eq (t : List UInt8) : nums 2 t = match tk t with
    | none => none
    | some (a, r) => match tk r with
      | none => none
      | some (b, r2) => some ([a, b], r2) := by
  rw [nums]
  cases e : tk t with
  | none => rfl
  | some q =>
    obtain ⟨a, r⟩ := q
    simp only
    rw [nums]
    cases e2 : tk r with
    | none => rfl
    | some q2 => rfl
theorem tk_len {s r : List UInt8} {n : Nat} (h : tk s = some (n, r)) : r.length ≤ s.length ∧ n < 18446744073709551616 := by
  have := (tk_iff _ _ _).1 h
  exact ⟨by rw [this.2]; simp, this.1⟩
theorem RUnlock_ev (s : List UInt8) (hs : s.length ≤ 140737488351232) : Ev (fun k => screeref15_Unlock.f k (lb s)) (ulk s) := by
  unfold screeref15_Unlock.f
  cases s with
  | nil => exact Ev.pos rfl (Ev.val rfl)
  | cons c t =>
    have ht : t.length + 1 ≤ 140737488351232 := by simpa using hs
    have hc := u8_lt c
    refine Ev.neg (by rw [lb_size]; simp) ?_
    rw [ex_tail, bt_head]
    refine Ev.bind (RNum_ev t false (by omega)) ?_
    rw [ulk, nums2_eq]
    cases e : tk t with
    | none =>
      rw [rn_none e]
      refine Ev.bind (RNum_ev t true (by omega)) ?_
      rw [rn_true]
      refine Ev.bind (RLock_ev t 0 c.toNat 0 (by omega) ⟨by omega, by omega⟩ ⟨by omega, by omega⟩) ?_
      exact Ev.pos (Or.inl rfl) (Ev.val rfl)
    | some q =>
      obtain ⟨a, r⟩ := q
      have h1 := tk_len e
      rw [rn_some e]
      refine Ev.bind (RNum_ev r false (by omega)) ?_
      cases e2 : tk r with
      | none =>
        rw [rn_none e2]
        refine Ev.bind (RLock_ev r a c.toNat 0 (by omega) ⟨by omega, by omega⟩ ⟨by omega, by omega⟩) ?_
        simp only [e2]
        exact Ev.pos (by simp) (Ev.val rfl)
      | some q2 =>
        obtain ⟨b, r2⟩ := q2
        have h2 := tk_len e2
        rw [rn_some e2]
        simp only [e2]
        refine Ev.bind (RLock_ev r2 a c.toNat b (by omega) ⟨by omega, by omega⟩ ⟨by omega, by omega⟩) ?_
        by_cases h3 : okL r2 a c.toNat b
        · rw [lkr_yes h3]
          by_cases h4 : lkB r2 a c.toNat b = c :: t
          · refine Ev.eq ?_ (if_pos ⟨h3, h4⟩).symm
            exact Ev.neg (by simp [lb_toList, h4]) (Ev.val rfl)
          · refine Ev.eq ?_ (if_neg (fun e => h4 e.2)).symm
            exact Ev.pos (by simp [lb_toList, h4]) (Ev.val rfl)
        · rw [lkr_no h3]
          refine Ev.eq ?_ (if_neg (fun e => h3 e.1)).symm
          exact Ev.pos (by simp) (Ev.val rfl)
theorem nums1_eq (t : List UInt8) : nums 1 t = match tk t with
    | none => none
    | some (a, r) => some ([a], r) := by
  rw [nums]
  cases e : tk t with
  | none => rfl
  | some q => rfl
theorem RUnwrite_ev (s : List UInt8) (hs : s.length ≤ 140737488351232) : Ev (fun k => screeref15_Unwrite.f k (lb s)) (uwr s) := by
  unfold screeref15_Unwrite.f
  cases s with
  | nil => exact Ev.pos rfl (Ev.val rfl)
  | cons c t =>
    have ht : t.length + 1 ≤ 140737488351232 := by simpa using hs
    have hc := u8_lt c
    refine Ev.neg (by rw [lb_size]; simp) ?_
    rw [ex_tail, bt_head]
    refine Ev.bind (RNum_ev t false (by omega)) ?_
    rw [uwr, nums1_eq]
    cases e : tk t with
    | none =>
      rw [rn_none e]
      refine Ev.bind (RWrite_ev 0 c.toNat) ?_
      exact Ev.pos (Or.inl rfl) (Ev.val rfl)
    | some q =>
      obtain ⟨a, r⟩ := q
      rw [rn_some e]
      simp only [e]
      refine Ev.bind (RWrite_ev a c.toNat) ?_
      by_cases h3 : okW a c.toNat
      · rw [wrr_yes h3]
        by_cases h4 : wrB a c.toNat = c :: t
        · refine Ev.eq ?_ (if_pos ⟨h3, h4⟩).symm
          exact Ev.neg (by simp [lb_toList, h4]) (Ev.val rfl)
        · refine Ev.eq ?_ (if_neg (fun e => h4 e.2)).symm
          exact Ev.pos (by simp [lb_toList, h4]) (Ev.val rfl)
      · rw [wrr_no h3]
        refine Ev.eq ?_ (if_neg (fun e => h3 e.1)).symm
        exact Ev.pos (by simp) (Ev.val rfl)
end Go.Proofs.Ytcdadhgcjkgnoaa.ColS
