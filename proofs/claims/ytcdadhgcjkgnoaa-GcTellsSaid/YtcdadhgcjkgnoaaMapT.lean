/- A map of texts by numbers that a call makes. -/
import Derived.Test.YtcdadhgcjkgnoaaMap
set_option linter.unusedVariables false
set_option linter.unusedSimpArgs false
namespace Go.Proofs.Ytcdadhgcjkgnoaa.Mp
open Go Go.RowKit
/-! ### a map of texts by numbers, told by a list of pairs (the last one of a number first) -/
section
def tget (M : List (Int × List UInt8)) (x : Int) : Option (List UInt8) := (M.find? (fun p => decide (p.1 = x))).map (·.2)
theorem tget_cons (M : List (Int × List UInt8)) (x y : Int) (v : List UInt8) : tget ((x, v) :: M) y = if x = y then some v else tget M y := by
  unfold tget
  rw [List.find?_cons]
  by_cases h : x = y <;> simp [h]
/-- Block b is a map from numbers to texts. -/
def TMap (P : Program) (k e : TypeId) (w : World) (b : Nat) (M : List (Int × List UInt8)) : Prop :=
  ∃ D : DataW Unit, w.ownsMap P k (plainElem P e) b M.length D ∧ ∀ x, (Lit.int .u64 x).wf = true → Maps.has D (.int .u64 x) = (tget M x).isSome ∧ D.atKey (.int .u64 x) (.lit (.string [])) = .lit (.string ((tget M x).getD []))
variable {P : Program} {k e : TypeId} {w w1 : World} {b : Nat} {M : List (Int × List UInt8)}
theorem TMap.made (P : Program) (k e : TypeId) (w : World) : TMap P k e (w.alloc (.map #[] 0)) w.heap.size [] :=
  ⟨.map [], World.ownsMap_made w P k _, fun x _ => ⟨rfl, rfl⟩⟩
theorem TMap.lt (h : TMap P k e w b M) : b < w.heap.size := by
  obtain ⟨D, h1, _⟩ := h
  exact h1.lt
theorem TMap.kept {row : Option Nat} (h : TMap P k e w b M) (hg : w.grownBy w1 row) (hne : some b ≠ row) : TMap P k e w1 b M := by
  obtain ⟨D, h1, h2⟩ := h
  exact ⟨D, h1.kept hg hne, h2⟩
theorem TMap.below (h : TMap P k e w b M) (hb : Below w.heap.size w w1) : TMap P k e w1 b M := h.kept (below_grown hb none) (by simp)
theorem TMap.alloc (h : TMap P k e w b M) (o : Obj) : TMap P k e (w.alloc o) b M := h.kept (World.grownBy_alloc w o none) (by simp)
theorem TMap.far (h : TMap P k e w b M) {p : Addr} (hp : b ≠ p.block) (u : Value) : TMap P k e (w.setCell p u) b M := by
  obtain ⟨D, h1, h2⟩ := h
  exact ⟨D, h1.setCell hp u, h2⟩
theorem TMap.put {t : TypeId} {x : Int} {v : ByteArray} (h : TMap P k e w b M) (hk : P.underlying k = some (.int .u64)) (ht : P.underlying t = some (.map k e)) (he : P.underlying e = some .string) (hn : M.length < maxLen) (hx : (Lit.int .u64 x).wf = true) (hv : v.size ≤ maxLen) :
    ∃ w', (Instr.mapUpdate t (.map (some b)) (.int .u64 x) (.string v)).run P w = .ok () w' ∧ TMap P k e w' b ((x, v.data.toList) :: M) ∧ w.grownBy w' (some b) := by
  obtain ⟨D, h1, h2⟩ := h
  have K : Maps.Keyed P k := Maps.int_keyed hk
  obtain ⟨w', hrun, hown, hg⟩ := h1.update K ht hn (Maps.keyOf_int_mk hk hx) (plainElem_string he hv)
  refine ⟨w', hrun, ⟨_, hown, fun y hy => ?_⟩, hg⟩
  rw [tget_cons]
  by_cases hxy : x = y
  · subst hxy
    have hk2 : WideAt.IsKeyLit (Lit.int .u64 x) := trivial
    rw [Maps.has_put_same h1.isMap hk2, Maps.atKey_put_same h1.isMap hk2, if_pos rfl]
    exact ⟨rfl, rfl⟩
  · have hne : Lit.int .u64 y ≠ Lit.int .u64 x := fun e => hxy (by injection e with _ e2; exact e2.symm)
    rw [Maps.has_put_other hne, Maps.atKey_put_other hne, if_neg hxy]
    exact h2 y hy
theorem TMap.look {t : TypeId} {x : Int} (h : TMap P k e w b M) (hk : P.underlying k = some (.int .u64)) (ht : P.underlying t = some (.map k e)) (he : P.underlying e = some .string) (hz : (zeroValue e).run P w = .ok (.string ⟨#[]⟩) w) (hx : (Lit.int .u64 x).wf = true) :
    (Instr.lookup t (.map (some b)) (.int .u64 x) true).run P w = .ok (.tuple #[.string ⟨((tget M x).getD []).toArray⟩, .bool (tget M x).isSome]) w := by
  obtain ⟨D, h1, h2⟩ := h
  obtain ⟨v, ps, hrun, hv⟩ := h1.look_ok (Maps.int_keyed hk) ht hz (plainElem_string (s := ⟨#[]⟩) he (by unfold maxLen; decide)) (Maps.keyOf_int_mk hk hx)
  obtain ⟨h3, h4⟩ := h2 x hx
  have h5 : (⟨#[]⟩ : ByteArray).data.toList = [] := rfl
  rw [h5, h4] at hv
  rw [h3] at hrun
  have : v = .string ⟨((tget M x).getD []).toArray⟩ := by
    unfold plainElem at hv
    rw [he] at hv
    cases v <;> simp at hv
    rw [← hv.2.1]
  rw [hrun, this]
end
end Go.Proofs.Ytcdadhgcjkgnoaa.Mp
