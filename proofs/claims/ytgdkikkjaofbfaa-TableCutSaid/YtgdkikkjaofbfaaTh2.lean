/- Bytes as lists, numbers as bytes: more plain laws, with no program in sight. -/
import Derived.Test.YtgdkikkjaofbfaaTh
set_option linter.unusedVariables false
set_option linter.unusedSimpArgs false
namespace Go.Proofs.Ytgdkikkjaofbfaa.Th
open Go.RowKit Go.Proofs.YtgdkikkjaofbfaaW.PrintWords Go.Proofs.YtgdkikkjaofbfaaW.PrintLast Go.Proofs.YtgdkikkjaofbfaaW.PrintMore

theorem ofI_mod (n : Nat) : ofI [(n : Int) % 256] = [UInt8.ofNat n] := by
  have : ((n : Int) % 256).toNat = n % 256 := by omega
  simp [ofI, this]
  apply u8_ext; simp
theorem ofI_one (n : Nat) : ofI [(n : Int)] = [UInt8.ofNat n] := by simp [ofI]
theorem mn_nat (a b : Nat) : mn (a : Int) (b : Int) = ((min a b : Nat) : Int) := by unfold mn; split <;> omega
theorem mx_nat (a b : Nat) : mx (a : Int) (b : Int) = ((max a b : Nat) : Int) := by unfold mx; split <;> omega
theorem toI_app (a b : List UInt8) : toI (a ++ b) = toI a ++ toI b := by simp [toI]
theorem toI_len (a : List UInt8) : (toI a).length = a.length := by simp [toI]
theorem ofI_cast (c : UInt8) : ofI [(c.toNat : Int)] = [c] := by simp [ofI]
theorem lb_emp2 : (lb []).toList = [] := lb_toList []
theorem take_both {a b : List UInt8} (h : a.take (min a.length b.length) = b.take (min a.length b.length)) : ∃ r s, a ++ r = b ++ s := by
  rcases Nat.le_total a.length b.length with hl | hl
  · rw [Nat.min_eq_left hl, List.take_length] at h
    refine ⟨b.drop a.length, [], ?_⟩
    have := List.take_append_drop a.length b
    rw [← h] at this
    simpa using this
  · rw [Nat.min_eq_right hl, List.take_length] at h
    refine ⟨[], a.drop b.length, ?_⟩
    have := List.take_append_drop b.length a
    rw [h] at this
    simpa using this.symm
end Go.Proofs.Ytgdkikkjaofbfaa.Th
