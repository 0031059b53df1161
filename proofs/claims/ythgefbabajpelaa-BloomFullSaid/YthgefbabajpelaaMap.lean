/- Maps that a call makes: a set of whole numbers, told by a list without doubles. -/
import Derived.Test.YthgefbabajpelaaWWords
import Derived.Maps.Own
import Derived.Maps.OwnSet
import Derived.Below
set_option linter.unusedVariables false
set_option linter.unusedSimpArgs false
namespace Go.Proofs.Ythgefbabajpelaa.Mp
open Go Go.RowKit

theorem grown_below {w w1 : World} {b B : Nat} (h : w.grownBy w1 (some b)) (hB : B ≤ w.heap.size) (hb : B ≤ b) : Below B w w1 :=
  (Below.refl B w).grown h hB (fun k hk => by cases hk; exact hb)
theorem below_grown {w w1 : World} (h : Below w.heap.size w w1) (row : Option Nat) : w.grownBy w1 row := ⟨h.os, h.tape, h.output, h.size, fun i hi _ => h.block i hi⟩
theorem cell_same {w w' : World} {g i : Nat} (h : w'.heap[g]? = w.heap[g]?) : w'.cell? ⟨g, i, none⟩ = w.cell? ⟨g, i, none⟩ := by unfold World.cell?; simp only [h]
theorem lt_same {w w' : World} {g : Nat} (h : w'.heap[g]? = w.heap[g]?) (hl : g < w.heap.size) : g < w'.heap.size := by
  rw [Array.getElem?_eq_getElem hl] at h
  exact (Array.getElem?_eq_some_iff.1 h).1
theorem wf_int {x : Int} (h0 : -9223372036854775808 ≤ x) (h1 : x < 9223372036854775808) : (Lit.int .i64 x).wf = true := by
  have e0 : IntKind.i64.min = -9223372036854775808 := by decide
  have e1 : IntKind.i64.max = 9223372036854775807 := by decide
  simp only [Lit.wf, Bool.and_eq_true, decide_eq_true_eq, e0, e1]
  omega
def ins (L : List Int) (x : Int) : List Int := if x ∈ L then L else x :: L
theorem mem_ins (L : List Int) (x y : Int) : y ∈ ins L x ↔ y ∈ L ∨ y = x := by
  unfold ins
  split
  · rename_i h
    constructor
    · exact Or.inl
    · rintro (h1 | rfl)
      · exact h1
      · exact h
  · rw [List.mem_cons]; exact Or.comm
theorem tight {P : Program} {k : TypeId} {R : Value → Option (DataW Unit × List MemPlace)} {w : World} {b n : Nat} {D : DataW Unit} (h : w.ownsMap P k R b n D) : w.ownsMap P k R b (Maps.size D) D := by
  obtain ⟨es, clock, hb, F, hs, rfl⟩ := h
  refine ⟨es, clock, hb, F, ?_, rfl⟩
  show es.size ≤ ((es.toList.map _).foldr DataW.insert []).length
  rw [length_sorted]; simp
/-- Block b is a map whose keys are the numbers in L, each once. -/
def ISet (P : Program) (k e : TypeId) (w : World) (b : Nat) (L : List Int) : Prop :=
  ∃ D : DataW Unit, w.ownsMap P k (plainElem P e) b L.length D ∧ (∀ a, Maps.has D (.int .i64 a) = decide (a ∈ L)) ∧ Maps.size D = L.length
theorem ISet.made (P : Program) (k e : TypeId) (w : World) : ISet P k e (w.alloc (.map #[] 0)) w.heap.size [] :=
  ⟨.map [], World.ownsMap_made w P k _, fun a => by simp [Maps.has], rfl⟩
theorem ISet.lt {P : Program} {k e : TypeId} {w : World} {b : Nat} {L : List Int} (h : ISet P k e w b L) : b < w.heap.size := by
  obtain ⟨D, h1, _⟩ := h
  exact h1.lt
theorem ISet.below {P : Program} {k e : TypeId} {w w1 : World} {b : Nat} {L : List Int} (h : ISet P k e w b L) (hb : Below w.heap.size w w1) : ISet P k e w1 b L := by
  obtain ⟨D, h1, h2, h3⟩ := h
  exact ⟨D, h1.kept (below_grown hb none) (by simp), h2, h3⟩
theorem ISet.put {P : Program} {k e : TypeId} {w w1 : World} {b : Nat} {L : List Int} {D : DataW Unit} {x : Int} {d : DataW Unit} (K : Maps.Keyed P k) (h1 : w.ownsMap P k (plainElem P e) b L.length D) (h2 : ∀ a, Maps.has D (.int .i64 a) = decide (a ∈ L)) (h3 : Maps.size D = L.length)
    (h : w1.ownsMap P k (plainElem P e) b (L.length + 1) (D.put (.int .i64 x) d)) : ISet P k e w1 b (ins L x) := by
  have ht := h1.tidy K
  have hk : WideAt.IsKeyLit (.int .i64 x) := trivial
  have hsz : Maps.size (D.put (.int .i64 x) d) = (ins L x).length := by
    rw [Maps.size_put ht, h2 x, h3]
    unfold ins
    by_cases hx : x ∈ L
    · simp [hx]
    · simp [hx]
  refine ⟨D.put (.int .i64 x) d, ?_, ?_, hsz⟩
  · rw [← hsz]; exact tight h
  · intro a
    by_cases ha : a = x
    · subst ha
      rw [Maps.has_put_same ht.isMap hk, decide_eq_true ((mem_ins L a a).2 (Or.inr rfl))]
    · rw [Maps.has_put_other (fun e => ha (by cases e; rfl)), h2 a, Bool.eq_iff_iff, decide_eq_true_eq, decide_eq_true_eq, mem_ins]
      exact ⟨Or.inl, fun h => h.resolve_right ha⟩
end Go.Proofs.Ythgefbabajpelaa.Mp
