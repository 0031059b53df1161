/- strings.Builder at this translation: Len. -/
import Derived.Test.YtgdkikkjaofbfaaBuf
set_option linter.unusedVariables false
set_option linter.unusedSimpArgs false
namespace Go.Proofs.Ytgdkikkjaofbfaa.Buf
open Go.RowKit
theorem len (B b : Nat) (l : List UInt8) (w : World) (h : Has B b l w) :
    Calls Try.prog 56 #[.pointer (some ⟨b, 0, none⟩)] w fun e w' => e = .returned (.int .i64 l.length) ∧ w' = w := by
  obtain ⟨p, hB, v, hbk, hown, hne⟩ : ∃ p, Lib.BuilderAtF 58 5 B b p (Lib.byteCells l) w := by
    rcases h with h | h
    · exact ⟨_, h⟩
    · exact ⟨_, h⟩
  rw [Lib.byteCells_length] at hown
  obtain ⟨ao, cap, rfl⟩ : ∃ ao cap, v = .slice ao l.length cap := by
    rcases hown.2 with ⟨q, h0⟩ | ⟨g, cap, cur, fz, q, _⟩
    · exact ⟨_, _, by rw [q, h0]⟩
    · exact ⟨_, _, q⟩
  have k1 : w.cell? ⟨b, 1, none⟩ = some (.slice ao l.length cap) := (Lib.cell_of_heap hbk 1).trans rfl
  go_enter Try.func56, Try.ntmps56
  go_wp2
  go_ret
  exact ⟨rfl, rfl⟩
end Go.Proofs.Ytgdkikkjaofbfaa.Buf
