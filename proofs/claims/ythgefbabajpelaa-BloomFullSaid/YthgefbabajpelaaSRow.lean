/- The row that []byte(s) lays: its bytes can be read and stored; behind its last cell one place is marked. -/
import Derived.Test.YthgefbabajpelaaWWords
import Derived.Test.YthgefbabajpelaaWMore
import Derived.Lib.ConvBytes
import Derived.Laws.BytesArg
import Derived.Below
set_option linter.unusedVariables false
set_option linter.unusedSimpArgs false
namespace Go.Proofs.Ythgefbabajpelaa.SR
open Go.RowKit Go.Proofs.YthgefbabajpelaaW.PrintWords Go.Proofs.YthgefbabajpelaaW.PrintLast Go.Proofs.YthgefbabajpelaaW.PrintMore

/-- Row g holds the bytes xs (numbers), and can be stored to. -/
def SRow (w : World) (g : Nat) (e : TypeId) (xs : List Int) : Prop :=
  ∃ cs : Array Value, w.heap[g]? = some (.cells cs e (cs.size, cs.size + 1)) ∧ xs.length ≤ cs.size ∧ ∀ (i : Nat) (x : Int), xs[i]? = some x → cs[i]? = some (Value.int .u8 x)
theorem SRow.lt {w : World} {g : Nat} {e : TypeId} {xs : List Int} (h : SRow w g e xs) : g < w.heap.size := by
  obtain ⟨cs, hg, _⟩ := h
  rcases Nat.lt_or_ge g w.heap.size with h' | h'
  · exact h'
  · simp [Array.getElem?_eq_none h'] at hg
theorem SRow.below {w w' : World} {g : Nat} {e : TypeId} {xs : List Int} (h : SRow w g e xs) (hb : Below w.heap.size w w') : SRow w' g e xs := by
  have hl := h.lt
  obtain ⟨cs, hg, hh⟩ := h
  exact ⟨cs, (hb.block g hl).trans hg, hh⟩
theorem SRow.made (w : World) (e : TypeId) (s : ByteArray) : SRow (Lib.bytesWorld w e s) w.heap.size e (bytesOf s) := by
  refine ⟨_, Lib.bytesWorld_at_new w e s, ?_, ?_⟩
  · unfold Lib.bytesCells bytesOf
    rw [Array.size_append, Array.size_map, List.length_map, Array.length_toList]
    omega
  · intro i x hx
    simp only [bytesOf, List.getElem?_map, Option.map_eq_some_iff] at hx
    obtain ⟨b, hb, rfl⟩ := hx
    have hi : i < s.data.size := by
      rw [Array.getElem?_toList] at hb
      exact (Array.getElem?_eq_some_iff.1 hb).1
    have hb2 : s.data[i]? = some b := by rw [Array.getElem?_toList] at hb; exact hb
    unfold Lib.bytesCells
    rw [Array.getElem?_append_left (by simpa using hi), Array.getElem?_map, hb2]
    rfl
theorem made_below (w : World) (e : TypeId) (s : ByteArray) : Below w.heap.size w (Lib.bytesWorld w e s) := by
  refine ⟨rfl, rfl, rfl, by rw [Lib.bytesWorld_size]; omega, fun k hk => Lib.bytesWorld_at_old w e s k hk⟩
theorem SRow.cell {w : World} {g : Nat} {e : TypeId} {xs : List Int} (h : SRow w g e xs) (i : Nat) (x : Int) (hx : xs[i]? = some x) : w.cell? ⟨g, i, none⟩ = some (.int .u8 x) := by
  obtain ⟨cs, hg, _, hc⟩ := h
  simp [World.cell?, hg, hc i x hx]
theorem SRow.frozen {w : World} {g : Nat} {e : TypeId} {xs : List Int} (h : SRow w g e xs) (i : Nat) (hi : i < xs.length) : w.frozen? ⟨g, i, none⟩ = false := by
  obtain ⟨cs, hg, hl, _⟩ := h
  simp [World.frozen?, hg]
  omega
theorem SRow.set {w : World} {g : Nat} {e : TypeId} {xs : List Int} (h : SRow w g e xs) (i : Nat) (v : Int) (hi : i < xs.length) : SRow (w.setCell ⟨g, i, none⟩ (.int .u8 v)) g e (xs.set i v) := by
  obtain ⟨cs, hg, hl, hc⟩ := h
  refine ⟨cs.setIfInBounds i (.int .u8 v), ?_, by simpa using hl, ?_⟩
  · simp [World.setCell, Array.getElem?_modify, hg]
  · intro j x hj
    rw [List.getElem?_set] at hj
    rw [Array.getElem?_setIfInBounds]
    by_cases h : i = j
    · subst h
      simp only [if_true, hi] at hj
      rw [if_pos rfl, if_pos (by omega)]
      simp at hj
      rw [hj]
    · rw [if_neg h] at hj ⊢
      exact hc j x hj
theorem SRow.drew {w : World} {g : Nat} {e : TypeId} {xs : List Int} (h : SRow w g e xs) : SRow w.drew g e xs := h
theorem set_below {B : Nat} {w0 w : World} {g i : Nat} {v : Value} (h : Below B w0 w) (hB : B ≤ g) : Below B w0 (w.setCell ⟨g, i, none⟩ v) := h.setCell (p := ⟨g, i, none⟩) hB v
theorem SRow.str {P : Program} {w : World} {g : Nat} {e : TypeId} {xs : List Int} (h : SRow w g e xs) (src : TypeId) (hs : P.underlying src = some (.slice e)) (he : P.underlying e = some (.int .u8)) (cap : Nat) (dst : TypeId) (hd : P.underlying dst = some .string) :
    (convert src dst (.slice (some ⟨g, 0, none⟩) xs.length cap)).run P w = .ok (.string (strOfNums xs)) w :=
  run_convert_bytes_arg (P := P) w src e hs he g 0 xs.length cap xs rfl (fun i hi => by
    rw [Nat.zero_add]
    refine h.cell i _ ?_
    simp [List.getD, List.getElem?_eq_getElem hi]) dst hd
end Go.Proofs.Ythgefbabajpelaa.SR
