/- strings.Builder at this translation: String. -/
import Derived.Test.YtgdkikkjaofbfaaBuf
set_option linter.unusedVariables false
set_option linter.unusedSimpArgs false
namespace Go.Proofs.Ytgdkikkjaofbfaa.Buf
open Go.RowKit
theorem read (B b : Nat) (l : List UInt8) (w : World) (h : Has B b l w) :
    Calls Try.prog 33 #[.pointer (some ⟨b, 0, none⟩)] w fun e w' => e = .returned (.string ⟨l.toArray⟩) ∧ Has B b l w' ∧ Below B w w' ∧ Kept b w w' :=
  Try.Builder_String_any_k B b l w h (has_size h)
end Go.Proofs.Ytgdkikkjaofbfaa.Buf
