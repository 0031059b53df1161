/- strings.Builder at this translation: what copyCheck, WriteString, WriteByte, Len and String come to, of a builder that the call itself has made. -/
import Derived.Test.YtkdecekmnbbbhaaProg
import Derived.Lib.Builder
import Derived.Shelf.Strings.Builder1
import Derived.WalkKit
import Derived.OwnWalk
import Derived.Test.YtkdecekmnbbbhaaSh
set_option linter.unusedVariables false
set_option linter.unusedSimpArgs false
namespace Go.Proofs.Ytkdecekmnbbbhaa.Bld
open Go.RowKit
theorem szB : (Try.prog.info? 48).map (·.size) = some 2 := by kernel_rfl
set_option maxHeartbeats 1000000 in
set_option maxRecDepth 100000 in
theorem check_fresh (b : Nat) (w : World) (h0 : w.cell? ⟨b, 0, none⟩ = some (.pointer none)) (hsh : w.shape? b = some (48, 2)) (hfz : w.frozen? ⟨b, 0, none⟩ = false) :
    Calls Try.prog 28 #[.pointer (some ⟨b, 0, none⟩)] w fun e w' => e = .returned (.tuple #[]) ∧ w' = w.setCell ⟨b, 0, none⟩ (.pointer (some ⟨b, 0, none⟩)) := by
  obtain ⟨j, hj, hjs⟩ := Option.map_eq_some_iff.1 szB
  go_enter Try.func28, Try.ntmps28
  go_wp2
  rw [Lib.run_to_unsafe w ⟨b, 0, none⟩ Try.underlying46 Try.underlying57 hj (by rw [hjs]; decide) hsh (Nat.zero_lt_succ 1)]
  simp only [Result.andThen]
  rw [Oper.upon_value]
  go_wp2
  rw [run_callFunc_extern Try.func29 (by kernel_rfl) (by kernel_rfl) (by kernel_rfl) (e := Extern.AbiNoEscape.same) (by kernel_rfl)]
  rw [Lib.run_noEscape]
  simp only [Result.andThen]
  rw [Oper.upon_value]
  go_wp2
  rw [Lib.run_from_unsafe w ⟨b, 0, none⟩ Try.underlying57 Try.underlying46 hj hsh (by kernel_rfl)]
  simp only [Result.andThen]
  rw [Oper.upon_value]
  go_wp2
  go_end0
  exact ⟨rfl, rfl⟩
set_option maxHeartbeats 1000000 in
set_option maxRecDepth 100000 in
theorem check_used (b : Nat) (w : World) (h0 : w.cell? ⟨b, 0, none⟩ = some (.pointer (some ⟨b, 0, none⟩))) :
    Calls Try.prog 28 #[.pointer (some ⟨b, 0, none⟩)] w fun e w' => e = .returned (.tuple #[]) ∧ w' = w := by
  obtain ⟨j, hj, hjs⟩ := Option.map_eq_some_iff.1 szB
  go_enter Try.func28, Try.ntmps28
  go_wp2
  rw [Lib.run_neq_ptr_same w _ Try.underlying46 hj]
  go_wp2
  go_end0
  exact ⟨rfl, rfl⟩
abbrev Has (B b : Nat) (bs : List Value) (w : World) : Prop := Lib.IsBuilder 48 5 B b bs w
abbrev Used (B b : Nat) (bs : List Value) (w : World) : Prop := Lib.BuilderAt 48 5 B b (.pointer (some ⟨b, 0, none⟩)) bs w
theorem check (B b : Nat) (bs : List Value) (w : World) (h : Has B b bs w) :
    Calls Try.prog 28 #[.pointer (some ⟨b, 0, none⟩)] w fun e w' => e = .returned (.tuple #[]) ∧ Used B b bs w' ∧ Below B w w' :=
  h.elim
    (fun h => (check_fresh b w h.cell0 h.shape h.frozen0).mono fun e w' hh => ⟨hh.1, hh.2 ▸ h.used _, hh.2 ▸ (Below.refl B w).setCell (p := ⟨b, 0, none⟩) h.1 _⟩)
    (fun h => (check_used b w h.cell0).mono fun e w' hh => ⟨hh.1, hh.2 ▸ h, hh.2 ▸ Below.refl B w⟩)
theorem infoByte : (Try.prog.info? 5).map (fun i => (i.zero, i.size, i.bytes)) = some (some (.int .u8 0), 1, 1) := by kernel_rfl
theorem neB : 48 ≠ 5 := by decide
set_option maxHeartbeats 2000000 in
set_option maxRecDepth 100000 in
theorem write (B b : Nat) (bs : List Value) (s : ByteArray) (w : World) (h : Has B b bs w) (hlen : bs.length + s.size ≤ 140737488355328) (hBw : B ≤ w.heap.size) :
    Calls Try.prog 24 #[.pointer (some ⟨b, 0, none⟩), .string s] w fun e w' => e = .returned (.tuple #[.int .i64 s.size, .nilIface]) ∧ Used B b (bs ++ Lib.strCells s) w' ∧ Below B w w' := by
  obtain ⟨bi, bi0, bi1, bi2, bi3⟩ := info_parts infoByte
  go_enter Try.func24, Try.ntmps24
  go_wp2_with (go_at_call 28; refine (check B b bs _ h).mono ?_)
  rintro e w1 ⟨rfl, ⟨hB, v, hb, ho, hv⟩, hbl⟩
  have hs := hbl.size
  have hl : b < w1.heap.size := Lib.BuilderAt.lt ⟨hB, v, hb, ho, hv⟩
  have k0 : w1.cell? ⟨b, 0, none⟩ = some (.pointer (some ⟨b, 0, none⟩)) := (Lib.cell_of_heap hb 0).trans rfl
  have k1 : w1.cell? ⟨b, 1, none⟩ = some v := (Lib.cell_of_heap hb 1).trans rfl
  go_wp2_with (at_builtin; refine Lib.wpList_append_own_string _ rfl _ _ 39 9 rfl B 5 bi Try.underlying39 Try.underlying9 bi0 bi1 bi2 bi3 _ _ _ rfl ho s rfl (by unfold maxLen; omega) (by omega) (by omega) ?_)
  intro v2 w2 ho2 hg _
  have hb2 : w2.heap[b]? = some (.cells #[.pointer (some ⟨b, 0, none⟩), v] 48 (0, 0)) := (hg.block b hl fun e => hv e.symm).trans hb
  have k0' : w2.cell? ⟨b, 0, none⟩ = some (.pointer (some ⟨b, 0, none⟩)) := (Lib.cell_of_heap hb2 0).trans rfl
  have k1' : w2.cell? ⟨b, 1, none⟩ = some v := (Lib.cell_of_heap hb2 1).trans rfl
  have fz : w2.frozen? ⟨b, 1, none⟩ = false := Lib.frozen_of_heap hb2 1
  have hform : ∃ p n c, v2 = .slice p n c := by
    rcases ho2.2 with ⟨q, _⟩ | ⟨_, _, _, q, _⟩ <;> exact ⟨_, _, _, q⟩
  obtain ⟨p2, n2, c2, rfl⟩ := hform
  go_wp2
  go_ret2
  refine ⟨rfl, Lib.BuilderAt.put hB hb2 (bs' := bs ++ Lib.strCells s) (by simpa [Lib.strCells_length] using ho2) neB, ?_⟩
  exact (hbl.grown hg (by omega) (fun k hk => (ho.lt k hk).1)).setCell (p := ⟨b, 1, none⟩) hB _
theorem own_below {B : Nat} {e : TypeId} {k : Nat} {v : Value} {n : Nat} {xs : List Value} {w w' : World} (h : w.ownsRow B e k v n xs) (hb : Below w.heap.size w w') : w'.ownsRow B e k v n xs := by
  refine ⟨h.1, ?_⟩
  rcases h.2 with h2 | ⟨g, cap, cur, e1, hB, hg, rest⟩
  · exact .inl h2
  · refine .inr ⟨g, cap, cur, e1, hB, ?_, rest⟩
    have hl : g < w.heap.size := by
      rcases Nat.lt_or_ge g w.heap.size with h' | h'
      · exact h'
      · simp [Array.getElem?_eq_none h'] at hg
    exact (hb.block g hl).trans hg
theorem at_below {B b : Nat} {p : Value} {bs : List Value} {w w' : World} (h : Lib.BuilderAt 48 5 B b p bs w) (hb : Below w.heap.size w w') : Lib.BuilderAt 48 5 B b p bs w' := by
  have hl := h.lt
  obtain ⟨hB, v, hv, ho, hn⟩ := h
  exact ⟨hB, v, (hb.block b hl).trans hv, own_below ho hb, hn⟩
theorem has_below {B b : Nat} {bs : List Value} {w w' : World} (h : Has B b bs w) (hb : Below w.heap.size w w') : Has B b bs w' :=
  h.imp (fun h => at_below h hb) (fun h => at_below h hb)
theorem has_drewN {B b : Nat} {bs : List Value} {w : World} (h : Has B b bs w) : Has B b bs w.drew := h
theorem has_size {B b : Nat} {bs : List Value} {w : World} (h : Has B b bs w) : B ≤ w.heap.size := by
  rcases h with h | h <;> exact Nat.le_of_lt (Nat.lt_of_le_of_lt h.1 h.lt)
theorem cells_app (a b : ByteArray) : Lib.strCells (a ++ b) = Lib.strCells a ++ Lib.strCells b := by
  simp [Lib.strCells, ByteArray.data_append]
theorem read (B b : Nat) (s : ByteArray) (w : World) (h : Has B b (Lib.strCells s) w) :
    Calls Try.prog 25 #[.pointer (some ⟨b, 0, none⟩)] w fun e w' => e = .returned (.string s) ∧ Below B w w' :=
  Try.Builder_String_any B b s.data.toList w h (has_size h)
theorem wrote (B b : Nat) (a s : ByteArray) (w : World) (h : Has B b (Lib.strCells a) w) (hlen : a.size + s.size ≤ 140737488355328) :
    Calls Try.prog 24 #[.pointer (some ⟨b, 0, none⟩), .string s] w fun e w' => e = .returned (.tuple #[.int .i64 s.size, .nilIface]) ∧ Has B b (Lib.strCells (a ++ s)) w' ∧ Below B w w' :=
  (write B b _ s w h (by rw [Lib.strCells_length]; exact hlen) (has_size h)).mono fun e w' hh => ⟨hh.1, by rw [cells_app]; exact .inr hh.2.1, hh.2.2⟩
end Go.Proofs.Ytkdecekmnbbbhaa.Bld
