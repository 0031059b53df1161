/- What the reference's taking comes to (screeref01.Take): apart from NumA, for seats that print no call of it. -/
import Derived.Test.YteijlcnjnooiiaaPx0
import Derived.Test.YteijlcnjnooiiaaPx13
import Derived.Test.YteijlcnjnooiiaaNumR
set_option linter.unusedVariables false
set_option linter.unusedSimpArgs false
namespace Go.Proofs.Yteijlcnjnooiiaa.NumS
open Go.RowKit Go.Proofs.Yteijlcnjnooiiaa.P Go.Proofs.Yteijlcnjnooiiaa.Th Go.Proofs.YteijlcnjnooiiaaW.PrintWords Go.Proofs.YteijlcnjnooiiaaW.PrintLast Go.Proofs.YteijlcnjnooiiaaW.PrintMore

/-! ### the reference's taking -/
theorem mulmod_add (a b x p : Nat) (h1 : a = x % 18446744073709551616) (h2 : b = p % 18446744073709551616) (c : Nat) :
    (a + c * b % 18446744073709551616) % 18446744073709551616 = (x + c * p) % 18446744073709551616 := by
  subst h1 h2
  rw [Nat.mul_mod_mod, ← Nat.add_mod]
theorem rtake_l0 : ∀ (rest pre : List UInt8) (x n p : Nat), (pre ++ rest).length ≤ 140737488351232 → n = x % 18446744073709551616 → p = 2 ^ (7 * pre.length) % 18446744073709551616 → tk (pre ++ rest) = tki pre.length x rest →
    Ev (fun k => screeref01_Take.l0 k (lb (pre ++ rest)) (n : Int) (p : Int) (pre.length : Int)) (tres (tk (pre ++ rest))) := by
  intro rest
  induction rest with
  | nil =>
    intro pre x n p hl hn hp ht
    refine Ev.step (fun k => by rw [screeref01_Take.l0]) ?_
    refine Ev.neg (by rw [lb_size]; simp) ?_
    refine Ev.step (fun k => by rw [screeref01_Take.j1]) ?_
    refine Ev.neg (by simp) (Ev.val ?_)
    rw [ht]; rfl
  | cons c rest ih =>
    intro pre x n p hl hn0 hp0 ht
    have hn := Aside0.mk hn0
    have hp := Aside0.mk hp0
    clear hn0 hp0
    have hlen : (pre ++ c :: rest).length = pre.length + 1 + rest.length := by simp; omega
    have hc := u8_lt c
    have hb : IntKind.u64.wrap (bt (lb (pre ++ c :: rest)) (pre.length : Int)) = ((c.toNat : Nat) : Int) := by
      rw [bt_app]; exact wu_nat _ (by omega)
    refine Ev.step (fun k => by rw [screeref01_Take.l0]) ?_
    refine Ev.pos (by rw [lb_size]; omega) ?_
    refine Ev.step (fun k => by rw [screeref01_Take.j1]) ?_
    by_cases h10 : pre.length < 10
    · refine Ev.pos (by rw [decide_eq_true_eq]; omega) (Ev.pos (by omega) (Ev.pos (by rw [lb_size]; omega) ?_))
      have e1 : wrap64 ((pre.length : Int) + 1) = ((pre.length + 1 : Nat) : Int) := by rw [w64 _ (by omega) (by omega)]; omega
      have eti : (((pre.length + 1 : Nat) : Int)).toNat = pre.length + 1 := by omega
      have hap : pre ++ c :: rest = (pre ++ [c]) ++ rest := by simp
      have etm : Int.tmod ((c.toNat : Nat) : Int) 128 = ((c.toNat % 128 : Nat) : Int) := by rw [Int.tmod_eq_emod_of_nonneg (by omega)]; omega
      have enew : IntKind.u64.wrap ((n : Int) + IntKind.u64.wrap (((c.toNat % 128 : Nat) : Int) * (p : Int))) = (((x + c.toNat % 128 * 2 ^ (7 * pre.length)) % 18446744073709551616 : Nat) : Int) := by
        rw [← mulmod_add n p x (2 ^ (7 * pre.length)) hn.out hp.out (c.toNat % 128), wu, wu, ← Int.natCast_mul]
        generalize c.toNat % 128 * p = q
        omega
      have eplace : IntKind.u64.wrap ((p : Int) * 128) = ((2 ^ (7 * (pre.length + 1)) % 18446744073709551616 : Nat) : Int) := by
        rw [wu, pow7, hp.out]
        generalize 2 ^ (7 * pre.length) = q
        omega
      rw [hb, etm, enew, e1, eplace]
      clear enew eplace hn hp
      by_cases h128 : c.toNat < 128
      · refine Ev.pos (by omega) ?_
        have hlt : (x + c.toNat % 128 * 2 ^ (7 * pre.length)) % 18446744073709551616 < 18446744073709551616 := Nat.mod_lt _ (by decide)
        have hm : c.toNat % 128 = c.toNat := Nat.mod_eq_of_lt h128
        refine Ev.bind (RShort_ev _ hlt) ?_
        refine Ev.pos (by omega) (Ev.pos (by rw [lb_size]; omega) ?_)
        rw [eti, lb_toList, lb_extract, lb_toList, lb_extract, lb_size, drop_app1]
        have htk : (List.take (pre.length + 1) (pre ++ c :: rest)).drop 0 = pre ++ [c] := by
          rw [List.drop_zero, hap, List.take_left' (by simp)]
        rw [htk]
        rw [tki_last _ _ _ _ h128] at ht
        rw [hm] at hlt ⊢
        by_cases hok : (pre.length = 0 ∨ c.toNat ≠ 0) ∧ x + c.toNat * 2 ^ (7 * pre.length) < 18446744073709551616
        · rw [if_pos hok] at ht
          have hmod : (x + c.toNat * 2 ^ (7 * pre.length)) % 18446744073709551616 = x + c.toNat * 2 ^ (7 * pre.length) := Nat.mod_eq_of_lt hok.2
          have hs := ((tk_iff _ _ _).1 ht).2
          rw [hap] at hs
          rw [hmod]
          refine Ev.pos (List.append_cancel_right hs).symm (Ev.val ?_)
          rw [ht]; rfl
        · rw [if_neg hok] at ht
          refine Ev.neg (fun e => ?_) (Ev.val ?_)
          · have := (tk_iff (pre ++ c :: rest) rest _).2 ⟨hlt, by rw [e]; exact hap⟩
            rw [ht] at this; cases this
          · rw [ht]; rfl
      · refine Ev.neg (by omega) ?_
        have := ih (pre ++ [c]) (x + c.toNat % 128 * 2 ^ (7 * pre.length)) _ _ (by simpa using hl) rfl rfl (by
          have h2 := tki_step pre.length x c rest h128
          rw [h2, hap] at ht
          simpa using ht)
        simpa using this
    · refine Ev.neg (by rw [decide_eq_true_eq]; omega) (Ev.val ?_)
      rw [ht, tki_big _ _ _ _ (by omega)]; rfl
theorem RTake_ev (l : List UInt8) (h : l.length ≤ 140737488351232) : Ev (fun k => screeref01_Take.f k (lb l)) (tres (tk l)) := by
  have := rtake_l0 l [] 0 0 1 (by simpa using h) rfl rfl (by rw [List.length_nil, tki_zero]; rfl)
  simp only [List.nil_append, List.length_nil] at this
  exact this

/-! ### long bytes -/

end Go.Proofs.Yteijlcnjnooiiaa.NumS
