/- strings.Builder at this translation, read or not: what copyCheck comes to. -/
import Derived.Test.YtgdkikkjaofbfaaProg
import Derived.Lib.Builder
import Derived.Lib.FrozenHead
import Derived.Lib.OthersKept
import Derived.Shelf.Strings.Builder1
import Derived.Shelf.Strings.BuilderK
import Derived.WalkKit
import Derived.OwnWalk
import Derived.Test.YtgdkikkjaofbfaaSh
set_option linter.unusedVariables false
set_option linter.unusedSimpArgs false
namespace Go.Proofs.Ytgdkikkjaofbfaa.Buf
open Go.RowKit
theorem szB : (Try.prog.info? 58).map (·.size) = some 2 := by kernel_rfl
set_option maxHeartbeats 1000000 in
set_option maxRecDepth 100000 in
theorem check_fresh (b : Nat) (w : World) (h0 : w.cell? ⟨b, 0, none⟩ = some (.pointer none)) (hsh : w.shape? b = some (58, 2)) (hfz : w.frozen? ⟨b, 0, none⟩ = false) :
    Calls Try.prog 60 #[.pointer (some ⟨b, 0, none⟩)] w fun e w' => e = .returned (.tuple #[]) ∧ w' = w.setCell ⟨b, 0, none⟩ (.pointer (some ⟨b, 0, none⟩)) := by
  obtain ⟨j, hj, hjs⟩ := Option.map_eq_some_iff.1 szB
  go_enter Try.func60, Try.ntmps60
  go_wp2
  rw [Lib.run_to_unsafe w ⟨b, 0, none⟩ Try.underlying56 Try.underlying120 hj (by rw [hjs]; decide) hsh (Nat.zero_lt_succ 1)]
  simp only [Result.andThen]
  rw [Oper.upon_value]
  go_wp2
  rw [run_callFunc_extern Try.func84 (by kernel_rfl) (by kernel_rfl) (by kernel_rfl) (e := Extern.AbiNoEscape.same) (by kernel_rfl)]
  rw [Lib.run_noEscape]
  simp only [Result.andThen]
  rw [Oper.upon_value]
  go_wp2
  rw [Lib.run_from_unsafe w ⟨b, 0, none⟩ Try.underlying120 Try.underlying56 hj hsh (by kernel_rfl)]
  simp only [Result.andThen]
  rw [Oper.upon_value]
  go_wp2
  go_end0
  exact ⟨rfl, rfl⟩
set_option maxHeartbeats 1000000 in
set_option maxRecDepth 100000 in
theorem check_used (b : Nat) (w : World) (h0 : w.cell? ⟨b, 0, none⟩ = some (.pointer (some ⟨b, 0, none⟩))) :
    Calls Try.prog 60 #[.pointer (some ⟨b, 0, none⟩)] w fun e w' => e = .returned (.tuple #[]) ∧ w' = w := by
  obtain ⟨j, hj, hjs⟩ := Option.map_eq_some_iff.1 szB
  go_enter Try.func60, Try.ntmps60
  go_wp2
  rw [Lib.run_neq_ptr_same w _ Try.underlying56 hj]
  go_wp2
  go_end0
  exact ⟨rfl, rfl⟩
abbrev HasC (B b : Nat) (bs : List Value) (w : World) : Prop := Lib.IsBuilderF 58 5 B b bs w
abbrev UsedC (B b : Nat) (bs : List Value) (w : World) : Prop := Lib.BuilderAtF 58 5 B b (.pointer (some ⟨b, 0, none⟩)) bs w
/-- Every block but the builder's own and the rows of bytes stands. -/
abbrev Kept (b : Nat) (w w' : World) : Prop := Lib.OthersKept 5 (some b) w w'
/-- A builder that holds the bytes l. -/
abbrev Has (B b : Nat) (l : List UInt8) (w : World) : Prop := HasC B b (Lib.byteCells l) w
theorem check (B b : Nat) (bs : List Value) (w : World) (h : HasC B b bs w) :
    Calls Try.prog 60 #[.pointer (some ⟨b, 0, none⟩)] w fun e w' => e = .returned (.tuple #[]) ∧ UsedC B b bs w' ∧ Below B w w' ∧ Kept b w w' :=
  h.elim
    (fun h => (check_fresh b w h.cell0 h.shape h.frozen0).mono fun e w' hh => ⟨hh.1, hh.2 ▸ h.used _, hh.2 ▸ (Below.refl B w).setCell (p := ⟨b, 0, none⟩) h.1 _, hh.2 ▸ (Lib.OthersKept.refl _ _ w).setCell ⟨b, 0, none⟩ rfl _⟩)
    (fun h => (check_used b w h.cell0).mono fun e w' hh => ⟨hh.1, hh.2 ▸ h, hh.2 ▸ Below.refl B w, by rw [hh.2]; exact Lib.OthersKept.refl _ _ w⟩)
theorem infoByte : (Try.prog.info? 5).map (fun i => (i.zero, i.size, i.bytes)) = some (some (.int .u8 0), 1, 1) := by kernel_rfl
theorem neB : 58 ≠ 5 := by decide
theorem own_below {B : Nat} {e : TypeId} {k : Nat} {v : Value} {n : Nat} {xs : List Value} {w w' : World} (h : w.ownsRowF B e k v n xs) (hb : Below w.heap.size w w') : w'.ownsRowF B e k v n xs := by
  refine ⟨h.1, ?_⟩
  rcases h.2 with h2 | ⟨g, cap, cur, fz, e1, hB, hg, rest⟩
  · exact .inl h2
  · refine .inr ⟨g, cap, cur, fz, e1, hB, ?_, rest⟩
    have hl : g < w.heap.size := by
      rcases Nat.lt_or_ge g w.heap.size with h' | h'
      · exact h'
      · simp [Array.getElem?_eq_none h'] at hg
    exact (hb.block g hl).trans hg
theorem at_below {B b : Nat} {p : Value} {bs : List Value} {w w' : World} (h : Lib.BuilderAtF 58 5 B b p bs w) (hb : Below w.heap.size w w') : Lib.BuilderAtF 58 5 B b p bs w' := by
  have hl := h.lt
  obtain ⟨hB, v, hv, ho, hn⟩ := h
  exact ⟨hB, v, (hb.block b hl).trans hv, own_below ho hb, hn⟩
theorem has_below {B b : Nat} {l : List UInt8} {w w' : World} (h : Has B b l w) (hb : Below w.heap.size w w') : Has B b l w' :=
  h.imp (fun h => at_below h hb) (fun h => at_below h hb)
theorem has_size {B b : Nat} {bs : List Value} {w : World} (h : HasC B b bs w) : B ≤ w.heap.size := by
  rcases h with h | h <;> exact Nat.le_of_lt (Nat.lt_of_le_of_lt h.1 h.lt)
theorem has_lt {B b : Nat} {bs : List Value} {w : World} (h : HasC B b bs w) : b < w.heap.size := by
  rcases h with h | h <;> exact h.lt
theorem fresh (w : World) : Has w.heap.size w.heap.size [] (w.alloc (.cells #[.pointer none, .slice none 0 0] 58)) := Lib.IsBuilderF.of (Lib.fresh_isBuilder _ _ w)
theorem kept_below {b : Nat} {w w' : World} (hb : Below w.heap.size w w') : Kept b w w' := fun k o hk _ _ => (hb.block k (Array.getElem?_eq_some_iff.1 hk).1).trans hk
theorem cells_str (l : List UInt8) (s : ByteArray) : Lib.byteCells l ++ Lib.strCells s = Lib.byteCells (l ++ s.data.toList) := by
  rw [Lib.strCells_eq, Lib.byteCells_append]
theorem cells_one (l : List UInt8) (c : UInt8) : Lib.byteCells l ++ [.int .u8 (c.toNat : Int)] = Lib.byteCells (l ++ [c]) := by
  rw [Lib.byteCells_append]; rfl
theorem B_ge {b : Nat} {l : List UInt8} {B B' : Nat} {w : World} (h : Has B b l w) (hB : B' ≤ B) : Has B' b l w := by
  have mk : ∀ p, Lib.BuilderAtF 58 5 B b p (Lib.byteCells l) w → Lib.BuilderAtF 58 5 B' b p (Lib.byteCells l) w := by
    rintro p ⟨h1, v, hv, ⟨ho1, ho2⟩, hn⟩
    refine ⟨by omega, v, hv, ⟨ho1, ?_⟩, hn⟩
    rcases ho2 with h2 | ⟨g, cap, cur, fz, e1, hB2, rest⟩
    · exact .inl h2
    · exact .inr ⟨g, cap, cur, fz, e1, by omega, rest⟩
  exact h.imp (mk _) (mk _)
end Go.Proofs.Ytgdkikkjaofbfaa.Buf
