/- Bytes as lists, numbers as bytes: more plain laws, with no program in sight. -/
import Derived.Test.YtgdkikkjaofbfaaTh
set_option linter.unusedVariables false
set_option linter.unusedSimpArgs false
namespace Go.Proofs.Ytgdkikkjaofbfaa.Th
open Go.RowKit Go.Proofs.YtgdkikkjaofbfaaW.PrintWords Go.Proofs.YtgdkikkjaofbfaaW.PrintLast Go.Proofs.YtgdkikkjaofbfaaW.PrintMore

theorem ofI_mod (n : Nat) : ofI [(n : Int) % 256] = [UInt8.ofNat n] := by
  have : ((n : Int) % 256).toNat = n % 256 := by omega
  simp [ofI, this]
  apply u8_ext; simp
theorem ofI_one (n : Nat) : ofI [(n : Int)] = [UInt8.ofNat n] := by simp [ofI]
theorem mn_nat (a b : Nat) : mn (a : Int) (b : Int) = ((min a b : Nat) : Int) := by unfold mn; split <;> omega
end Go.Proofs.Ytgdkikkjaofbfaa.Th
