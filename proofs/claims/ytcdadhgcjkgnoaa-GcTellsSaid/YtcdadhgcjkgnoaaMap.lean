/- Maps that a call makes: a set of whole numbers, told by a list without doubles. -/
import Derived.Test.YtcdadhgcjkgnoaaWWords
import Derived.Maps.Own
import Derived.Maps.OwnSet
import Derived.Below
set_option linter.unusedVariables false
set_option linter.unusedSimpArgs false
namespace Go.Proofs.Ytcdadhgcjkgnoaa.Mp
open Go Go.RowKit

theorem grown_below {w w1 : World} {b B : Nat} (h : w.grownBy w1 (some b)) (hB : B ≤ w.heap.size) (hb : B ≤ b) : Below B w w1 :=
  (Below.refl B w).grown h hB (fun k hk => by cases hk; exact hb)
theorem below_grown {w w1 : World} (h : Below w.heap.size w w1) (row : Option Nat) : w.grownBy w1 row := ⟨h.os, h.tape, h.output, h.size, fun i hi _ => h.block i hi⟩
theorem cell_same {w w' : World} {g i : Nat} (h : w'.heap[g]? = w.heap[g]?) : w'.cell? ⟨g, i, none⟩ = w.cell? ⟨g, i, none⟩ := by unfold World.cell?; simp only [h]
theorem lt_same {w w' : World} {g : Nat} (h : w'.heap[g]? = w.heap[g]?) (hl : g < w.heap.size) : g < w'.heap.size := by
  rw [Array.getElem?_eq_getElem hl] at h
  exact (Array.getElem?_eq_some_iff.1 h).1
theorem wf_int {x : Int} (h0 : -9223372036854775808 ≤ x) (h1 : x < 9223372036854775808) : (Lit.int .i64 x).wf = true := by
  have e0 : IntKind.i64.min = -9223372036854775808 := by decide
  have e1 : IntKind.i64.max = 9223372036854775807 := by decide
  simp only [Lit.wf, Bool.and_eq_true, decide_eq_true_eq, e0, e1]
  omega
def ins (L : List Int) (x : Int) : List Int := if x ∈ L then L else x :: L
theorem mem_ins (L : List Int) (x y : Int) : y ∈ ins L x ↔ y ∈ L ∨ y = x := by
  unfold ins
  split
  · rename_i h
    constructor
    · exact Or.inl
    · rintro (h1 | rfl)
      · exact h1
      · exact h
  · rw [List.mem_cons]; exact Or.comm
theorem tight {P : Program} {k : TypeId} {R : Value → Option (DataW Unit × List MemPlace)} {w : World} {b n : Nat} {D : DataW Unit} (h : w.ownsMap P k R b n D) : w.ownsMap P k R b (Maps.size D) D := by
  obtain ⟨es, clock, hb, F, hs, rfl⟩ := h
  refine ⟨es, clock, hb, F, ?_, rfl⟩
  show es.size ≤ ((es.toList.map _).foldr DataW.insert []).length
  rw [length_sorted]; simp
/-- Block b is a map whose keys are the numbers in L, each once. -/
def ISet (P : Program) (k e : TypeId) (w : World) (b : Nat) (L : List Int) : Prop :=
  ∃ D : DataW Unit, w.ownsMap P k (plainElem P e) b L.length D ∧ (∀ a, Maps.has D (.int .i64 a) = decide (a ∈ L)) ∧ Maps.size D = L.length
theorem ISet.made (P : Program) (k e : TypeId) (w : World) : ISet P k e (w.alloc (.map #[] 0)) w.heap.size [] :=
  ⟨.map [], World.ownsMap_made w P k _, fun a => by simp [Maps.has], rfl⟩
theorem ISet.lt {P : Program} {k e : TypeId} {w : World} {b : Nat} {L : List Int} (h : ISet P k e w b L) : b < w.heap.size := by
  obtain ⟨D, h1, _⟩ := h
  exact h1.lt
theorem ISet.below {P : Program} {k e : TypeId} {w w1 : World} {b : Nat} {L : List Int} (h : ISet P k e w b L) (hb : Below w.heap.size w w1) : ISet P k e w1 b L := by
  obtain ⟨D, h1, h2, h3⟩ := h
  exact ⟨D, h1.kept (below_grown hb none) (by simp), h2, h3⟩
theorem ISet.put {P : Program} {k e : TypeId} {w w1 : World} {b : Nat} {L : List Int} {D : DataW Unit} {x : Int} {d : DataW Unit} (K : Maps.Keyed P k) (h1 : w.ownsMap P k (plainElem P e) b L.length D) (h2 : ∀ a, Maps.has D (.int .i64 a) = decide (a ∈ L)) (h3 : Maps.size D = L.length)
    (h : w1.ownsMap P k (plainElem P e) b (L.length + 1) (D.put (.int .i64 x) d)) : ISet P k e w1 b (ins L x) := by
  have ht := h1.tidy K
  have hk : WideAt.IsKeyLit (.int .i64 x) := trivial
  have hsz : Maps.size (D.put (.int .i64 x) d) = (ins L x).length := by
    rw [Maps.size_put ht, h2 x, h3]
    unfold ins
    by_cases hx : x ∈ L
    · simp [hx]
    · simp [hx]
  refine ⟨D.put (.int .i64 x) d, ?_, ?_, hsz⟩
  · rw [← hsz]; exact tight h
  · intro a
    by_cases ha : a = x
    · subst ha
      rw [Maps.has_put_same ht.isMap hk, decide_eq_true ((mem_ins L a a).2 (Or.inr rfl))]
    · rw [Maps.has_put_other (fun e => ha (by cases e; rfl)), h2 a, Bool.eq_iff_iff, decide_eq_true_eq, decide_eq_true_eq, mem_ins]
      exact ⟨Or.inl, fun h => h.resolve_right ha⟩
/-! ### a set of things of whatever kind, told by a list (with doubles); asked by 'm[k]' alone -/
section
variable {α : Type} [DecidableEq α]
/-- Block b is a map to bools: true just at the keys in L. -/
def SMap (P : Program) (k e : TypeId) (enc : α → Value) (w : World) (b : Nat) (L : List α) : Prop :=
  ∃ D : DataW Unit, w.ownsMap P k (plainElem P e) b L.length D ∧ ∀ a kl, keyOf P k (enc a) = some kl → D.atKey kl (.lit (.bool false)) = .lit (.bool (decide (a ∈ L)))
variable {P : Program} {k e : TypeId} {enc : α → Value} {w w1 : World} {b : Nat} {L : List α}
theorem SMap.made (P : Program) (k e : TypeId) (enc : α → Value) (w : World) : SMap P k e enc (w.alloc (.map #[] 0)) w.heap.size [] :=
  ⟨.map [], World.ownsMap_made w P k _, fun a kl _ => by simp; rfl⟩
theorem SMap.lt (h : SMap P k e enc w b L) : b < w.heap.size := by
  obtain ⟨D, h1, _⟩ := h
  exact h1.lt
theorem SMap.kept {row : Option Nat} (h : SMap P k e enc w b L) (hg : w.grownBy w1 row) (hne : some b ≠ row) : SMap P k e enc w1 b L := by
  obtain ⟨D, h1, h2⟩ := h
  exact ⟨D, h1.kept hg hne, h2⟩
theorem SMap.below (h : SMap P k e enc w b L) (hb : Below w.heap.size w w1) : SMap P k e enc w1 b L := h.kept (below_grown hb none) (by simp)
theorem SMap.alloc (h : SMap P k e enc w b L) (o : Obj) : SMap P k e enc (w.alloc o) b L := h.kept (World.grownBy_alloc w o none) (by simp)
theorem SMap.far (h : SMap P k e enc w b L) {p : Addr} (hp : b ≠ p.block) (u : Value) : SMap P k e enc (w.setCell p u) b L := by
  obtain ⟨D, h1, h2⟩ := h
  exact ⟨D, h1.setCell hp u, h2⟩
theorem SMap.put {t : TypeId} {a : α} {kl : Lit} (h : SMap P k e enc w b L) (K : Maps.Keyed P k) (henc : ∀ x y, enc x = enc y → x = y) (ht : P.underlying t = some (.map k e)) (he : P.underlying e = some .bool) (hn : L.length < maxLen) (hkey : keyOf P k (enc a) = some kl) :
    ∃ w', (Instr.mapUpdate t (.map (some b)) (enc a) (.bool true)).run P w = .ok () w' ∧ SMap P k e enc w' b (a :: L) ∧ w.grownBy w' (some b) := by
  obtain ⟨D, h1, h2⟩ := h
  obtain ⟨w', hrun, hown, hg⟩ := h1.update K ht hn hkey (plainElem_bool he true)
  refine ⟨w', hrun, ⟨_, hown, fun x kx hx => ?_⟩, hg⟩
  by_cases hxa : x = a
  · subst hxa
    rw [hkey] at hx
    cases hx
    rw [Maps.atKey_put_same h1.isMap (K.key hkey)]
    simp
  · have hne : kx ≠ kl := fun e => by
      subst e
      exact hxa (henc _ _ (K.inj hx hkey))
    rw [Maps.atKey_put_other hne, h2 x kx hx]
    simp [hxa]
theorem SMap.look {t : TypeId} {a : α} {kl : Lit} (h : SMap P k e enc w b L) (K : Maps.Keyed P k) (ht : P.underlying t = some (.map k e)) (he : P.underlying e = some .bool) (hz : (zeroValue e).run P w = .ok (.bool false) w) (hkey : keyOf P k (enc a) = some kl) :
    (Instr.lookup t (.map (some b)) (enc a) false).run P w = .ok (.bool (decide (a ∈ L))) w := by
  obtain ⟨D, h1, h2⟩ := h
  obtain ⟨v, ps, hrun, hv⟩ := h1.lookup K ht hz (plainElem_bool he false) hkey
  rw [h2 a kl hkey] at hv
  have : v = .bool (decide (a ∈ L)) := by
    unfold plainElem at hv
    rw [he] at hv
    cases v <;> simp at hv
    rw [hv.1]
  rw [hrun, this]
end
end Go.Proofs.Ytcdadhgcjkgnoaa.Mp
