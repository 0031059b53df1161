/- What the reference's Short comes to (screeref01.Short): apart from NumA, for seats that print no call of it. -/
import Derived.Test.YteijlcnjnooiiaaPx0
import Derived.Test.YteijlcnjnooiiaaPx11
import Derived.Test.YteijlcnjnooiiaaNumA
set_option linter.unusedVariables false
set_option linter.unusedSimpArgs false
namespace Go.Proofs.Yteijlcnjnooiiaa.NumS
open Go.RowKit Go.Proofs.Yteijlcnjnooiiaa.P Go.Proofs.Yteijlcnjnooiiaa.Th Go.Proofs.YteijlcnjnooiiaaW.PrintWords Go.Proofs.YteijlcnjnooiiaaW.PrintLast Go.Proofs.YteijlcnjnooiiaaW.PrintMore

theorem rshort_l0 (m : Nat) : ∀ (n : Nat) (acc : List Int), n < 128 ^ (m + 1) → n < 18446744073709551616 → acc.length + m + 1 < 140737488355328 →
    Ev (fun k => screeref01_Short.l0 k (n : Int) acc) (lb (ofI acc ++ short n)) := by
  induction m with
  | zero =>
    intro n acc h hn hl
    refine Ev.step (fun k => by rw [screeref01_Short.l0]) ?_
    refine Ev.neg (by omega) (Ev.pos (by omega) (Ev.val ?_))
    rw [son, ofI_app, ofI_mod, short_lt n (by omega)]
  | succ m ih =>
    intro n acc h hn hl
    refine Ev.step (fun k => by rw [screeref01_Short.l0]) ?_
    rcases Nat.lt_or_ge n 128 with h1 | h1
    · refine Ev.neg (by omega) (Ev.pos (by omega) (Ev.val ?_))
      rw [son, ofI_app, ofI_mod, short_lt n h1]
    · refine Ev.pos (by omega) (Ev.pos (by omega) ?_)
      have t1 : Int.tdiv (n : Int) 128 = ((n / 128 : Nat) : Int) := by rw [Int.tdiv_eq_ediv_of_nonneg (by omega)]; omega
      have t2 : Int.tmod (n : Int) 128 = ((n % 128 : Nat) : Int) := by rw [Int.tmod_eq_emod_of_nonneg (by omega)]; omega
      have e1 : IntKind.u64.wrap (Int.tdiv (n : Int) 128) = ((n / 128 : Nat) : Int) := by rw [t1]; exact wu_nat _ (by omega)
      have e2 : IntKind.u64.wrap (Int.tmod (n : Int) 128 + 128) % 256 = ((n % 128 + 128 : Nat) : Int) := by
        rw [t2, wu_in _ (by omega) (by omega)]; omega
      rw [e1, e2]
      have := ih (n / 128) (acc ++ [((n % 128 + 128 : Nat) : Int)]) (by rw [Nat.div_lt_iff_lt_mul (by decide)]; rw [Nat.pow_succ] at h; exact h) (by omega) (by simp; omega)
      refine Ev.eq this ?_
      rw [ofI_app, ofI_one, short_ge n h1]; simp
theorem RShort_ev (n : Nat) (h : n < 18446744073709551616) : Ev (fun k => screeref01_Short.f k (n : Int)) (lb (short n)) :=
  rshort_l0 9 n [] (Nat.lt_of_lt_of_le h (by decide)) h (by simp)

end Go.Proofs.Yteijlcnjnooiiaa.NumS
