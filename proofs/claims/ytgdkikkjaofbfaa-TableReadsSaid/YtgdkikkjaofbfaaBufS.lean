/- strings.Builder at this translation: WriteString. -/
import Derived.Test.YtgdkikkjaofbfaaBuf
set_option linter.unusedVariables false
set_option linter.unusedSimpArgs false
namespace Go.Proofs.Ytgdkikkjaofbfaa.Buf
open Go.RowKit
set_option maxHeartbeats 2000000 in
set_option maxRecDepth 100000 in
theorem writeC (B b : Nat) (bs : List Value) (s : ByteArray) (w : World) (h : HasC B b bs w) (hlen : bs.length + s.size ≤ 140737488355328) :
    Calls Try.prog 31 #[.pointer (some ⟨b, 0, none⟩), .string s] w fun e w' => e = .returned (.tuple #[.int .i64 s.size, .nilIface]) ∧ UsedC B b (bs ++ Lib.strCells s) w' ∧ Below B w w' ∧ Kept b w w' := by
  have hBw := has_size h
  obtain ⟨bi, bi0, bi1, bi2, bi3⟩ := info_parts infoByte
  go_enter Try.func31, Try.ntmps31
  go_wp2_with (go_at_call 60; refine (check B b bs _ h).mono ?_)
  rintro e w1 ⟨rfl, ⟨hB, v, hb, ho, hv⟩, hbl, hk1⟩
  have hs := hbl.size
  have hl : b < w1.heap.size := Lib.BuilderAtF.lt ⟨hB, v, hb, ho, hv⟩
  have k0 : w1.cell? ⟨b, 0, none⟩ = some (.pointer (some ⟨b, 0, none⟩)) := (Lib.cell_of_heap hb 0).trans rfl
  have k1 : w1.cell? ⟨b, 1, none⟩ = some v := (Lib.cell_of_heap hb 1).trans rfl
  go_wp2_with (at_builtin; refine Lib.wpList_append_own_stringF _ rfl _ _ 54 9 rfl B 5 bi Try.underlying54 Try.underlying9 bi0 bi1 bi2 bi3 _ _ _ rfl ho s rfl (by unfold maxLen; omega) (by omega) (by omega) ?_)
  intro v2 w2 ho2 hg _
  have hb2 : w2.heap[b]? = some (.cells #[.pointer (some ⟨b, 0, none⟩), v] 58 (0, 0)) := (hg.block b hl fun e => hv e.symm).trans hb
  have k0' : w2.cell? ⟨b, 0, none⟩ = some (.pointer (some ⟨b, 0, none⟩)) := (Lib.cell_of_heap hb2 0).trans rfl
  have k1' : w2.cell? ⟨b, 1, none⟩ = some v := (Lib.cell_of_heap hb2 1).trans rfl
  have fz : w2.frozen? ⟨b, 1, none⟩ = false := Lib.frozen_of_heap hb2 1
  have hform : ∃ p n c, v2 = .slice p n c := by
    rcases ho2.2 with ⟨q, _⟩ | ⟨_, _, _, _, q, _⟩ <;> exact ⟨_, _, _, q⟩
  obtain ⟨p2, n2, c2, rfl⟩ := hform
  go_wp2
  go_ret2
  refine ⟨rfl, Lib.BuilderAtF.put hB hb2 (bs' := bs ++ Lib.strCells s) (by simpa [Lib.strCells_length] using ho2) neB, ?_, (hk1.grown hg (Lib.ownsRowF_kind ho)).setCell ⟨b, 1, none⟩ rfl _⟩
  exact (hbl.grown hg (by omega) (fun k hk => (ho.lt k hk).1)).setCell (p := ⟨b, 1, none⟩) hB _
theorem wrote (B b : Nat) (l : List UInt8) (s : ByteArray) (w : World) (h : Has B b l w) (hlen : l.length + s.size ≤ 140737488355328) :
    Calls Try.prog 31 #[.pointer (some ⟨b, 0, none⟩), .string s] w fun e w' => e = .returned (.tuple #[.int .i64 s.size, .nilIface]) ∧ Has B b (l ++ s.data.toList) w' ∧ Below B w w' ∧ Kept b w w' :=
  (writeC B b _ s w h (by rw [Lib.byteCells_length]; exact hlen)).mono fun e w' hh => ⟨hh.1, by have := hh.2.1; rw [cells_str] at this; exact .inr this, hh.2.2⟩
end Go.Proofs.Ytgdkikkjaofbfaa.Buf
