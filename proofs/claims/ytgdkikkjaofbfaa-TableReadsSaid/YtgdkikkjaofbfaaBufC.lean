/- strings.Builder at this translation: WriteByte. -/
import Derived.Test.YtgdkikkjaofbfaaBuf
set_option linter.unusedVariables false
set_option linter.unusedSimpArgs false
namespace Go.Proofs.Ytgdkikkjaofbfaa.Buf
open Go.RowKit
set_option maxHeartbeats 2000000 in
set_option maxRecDepth 100000 in
theorem writeB (B b : Nat) (bs : List Value) (c : Int) (w : World) (h : HasC B b bs w) (hlen : bs.length + 1 ≤ 140737488355328) :
    Calls Try.prog 83 #[.pointer (some ⟨b, 0, none⟩), .int .u8 c] w fun e w' => e = .returned .nilIface ∧ UsedC B b (bs ++ [.int .u8 c]) w' ∧ Below B w w' ∧ Kept b w w' := by
  have hBw := has_size h
  obtain ⟨bi, bi0, bi1, bi2, bi3⟩ := info_parts infoByte
  go_enter Try.func83, Try.ntmps83
  go_wp2_with (go_at_call 60; refine (check B b bs _ h).mono ?_)
  rintro e w1 ⟨rfl, ⟨hB, v, hb, ho, hv⟩, hbl, hk1⟩
  have hs := hbl.size
  have hl : b < w1.heap.size := Lib.BuilderAtF.lt ⟨hB, v, hb, ho, hv⟩
  have k0 : w1.cell? ⟨b, 0, none⟩ = some (.pointer (some ⟨b, 0, none⟩)) := (Lib.cell_of_heap hb 0).trans rfl
  have k1 : w1.cell? ⟨b, 1, none⟩ = some v := (Lib.cell_of_heap hb 1).trans rfl
  go_wp2_with (at_builtin; refine wpList_append_ownF _ rfl _ _ 54 rfl B 5 bi (.int .u8 0) 1 1 Try.underlying54 bi0 bi1 bi2 bi3 rfl (by decide) _ _ _ rfl (ho.alloc _) ⟨w1.heap.size, 0, none⟩ 1 1 [.int .u8 c] rfl rfl ?c1 ?c2 ?c3 ?c4 ?c5 ?_)
  case c1 =>
    intro j u hj
    match j, hj with
    | 0, hj => simp at hj; subst hj; simp [Addr.add]
  case c2 => intro u hu; simp at hu; subst hu; rfl
  case c3 => unfold maxLen; omega
  case c4 => omega
  case c5 => simp; omega
  intro v2 w2 ho2 hg _
  have hb2 : w2.heap[b]? = some (.cells #[.pointer (some ⟨b, 0, none⟩), v] 58 (0, 0)) := by
    rw [hg.block b (by simp; omega) (fun e => hv e.symm), Lib.alloc_old w1 _ b hl]
    exact hb
  have k0' : w2.cell? ⟨b, 0, none⟩ = some (.pointer (some ⟨b, 0, none⟩)) := (Lib.cell_of_heap hb2 0).trans rfl
  have k1' : w2.cell? ⟨b, 1, none⟩ = some v := (Lib.cell_of_heap hb2 1).trans rfl
  have fz : w2.frozen? ⟨b, 1, none⟩ = false := Lib.frozen_of_heap hb2 1
  obtain ⟨g, cap, rfl⟩ : ∃ g cap, v2 = .slice (some ⟨g, 0, none⟩) (bs.length + 1) cap := by
    rcases ho2.2 with ⟨_, h0⟩ | ⟨g, cap, cur, fz, hv, _⟩
    · omega
    · exact ⟨g, cap, hv⟩
  go_wp2
  go_ret
  refine ⟨rfl, Lib.BuilderAtF.put hB hb2 (bs' := bs ++ [.int .u8 c]) (by simpa using ho2) neB, ?_, ((hk1.alloc _).grown hg (Lib.ownsRowF_kind (ho.alloc _))).setCell ⟨b, 1, none⟩ rfl _⟩
  exact ((hbl.alloc (by omega) _).grown hg (by simp; omega) (fun k hk => (ho.lt k hk).1)).setCell (p := ⟨b, 1, none⟩) hB _
theorem wroteByte (B b : Nat) (l : List UInt8) (c : UInt8) (w : World) (h : Has B b l w) (hlen : l.length + 1 ≤ 140737488355328) :
    Calls Try.prog 83 #[.pointer (some ⟨b, 0, none⟩), .int .u8 (c.toNat : Int)] w fun e w' => e = .returned .nilIface ∧ Has B b (l ++ [c]) w' ∧ Below B w w' ∧ Kept b w w' :=
  (writeB B b _ _ w h (by rw [Lib.byteCells_length]; exact hlen)).mono fun e w' hh => ⟨hh.1, by have := hh.2.1; rw [cells_one] at this; exact .inr this, hh.2.2⟩
theorem wroteInt (B b : Nat) (l : List UInt8) (n : Int) (c : UInt8) (hn : (c.toNat : Int) = n) (w : World) (h : Has B b l w) (hlen : l.length + 1 ≤ 140737488355328) :
    Calls Try.prog 83 #[.pointer (some ⟨b, 0, none⟩), .int .u8 n] w fun e w' => e = .returned .nilIface ∧ Has B b (l ++ [c]) w' ∧ Below B w w' ∧ Kept b w w' := by
  subst hn; exact wroteByte B b l c w h hlen
end Go.Proofs.Ytgdkikkjaofbfaa.Buf
