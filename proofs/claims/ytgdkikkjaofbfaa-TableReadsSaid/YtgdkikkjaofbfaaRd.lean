/- What is read at a type is a value of a kind of the print: whole numbers, bools, strings, slices of them, structs of them, slices of structs. No condition. -/
import Derived.Test.YtgdkikkjaofbfaaWWords
import Derived.SizedLaws
import Derived.ChangeSlices
import Derived.Deep.Slices
import Derived.Lib.SmallJoins
import Derived.WideShapes
namespace Go.Proofs.Ytgdkikkjaofbfaa.Rd
open Go.ChangeShapes Go.WideShapes Go.Proofs.YtgdkikkjaofbfaaW.PrintWords
set_option linter.unusedVariables false

/-- What is read at type t is of kind k, and Q holds of it. -/
def Rd (P : Program) (t : TypeId) {α : Type} (k : Kd α) (Q : α → Prop) : Prop :=
  ∀ (H : Type) (enc : TypeId × Value → H) (w : World) (base : Nat) (spare : Nat → Bool) (held : Bool) (fuel : Nat) (cs : List Value) (d : DataW H) (ps : List MemPlace),
    DataW.trod enc P w base spare held fuel t cs = some (d, ps) → (∀ n ∈ d.weights P t, n ≤ 140737488351232) → ∃ x, k.K w x cs ∧ Q x
theorem rd_int {P : Program} {t : TypeId} {k : IntKind} (hu : P.underlying t = some (.int k)) : Rd P t (Kd.int k) (fun n => (Lit.int k n).wf = true) := by
  intro H enc w base spare held fuel cs d ps h _
  obtain ⟨n, rfl, _, hw⟩ := DataW.trod_int hu h
  exact ⟨n, rfl, hw⟩
theorem rd_bool {P : Program} {t : TypeId} (hu : P.underlying t = some .bool) : Rd P t Kd.bool (fun _ => True) := by
  intro H enc w base spare held fuel cs d ps h _
  obtain ⟨n, rfl, _⟩ := DataW.trod_bool hu h
  exact ⟨n, rfl, trivial⟩
theorem rd_string {P : Program} {t : TypeId} (hu : P.underlying t = some .string) : Rd P t Kd.string (fun s => s.size ≤ 140737488351232) := by
  intro H enc w base spare held fuel cs d ps h hw
  obtain ⟨s, rfl, hx, _⟩ := DataW.trod_string hu h
  obtain ⟨rfl, rfl⟩ := Prod.mk.inj hx
  refine ⟨s, rfl, ?_⟩
  have := hw s.data.toList.length (by simp [DataW.weights])
  rwa [Array.length_toList] at this
theorem mem_all {H : Type} {P : Program} {e : TypeId} {n : Nat} : ∀ {l : List (DataW H)} {d : DataW H}, d ∈ l → n ∈ d.weights P e → n ∈ DataW.weightsAll P e l
  | [], d, h, _ => by cases h
  | d0 :: r, d, h, hn => by
    rw [DataW.weightsAll, List.mem_append]
    rcases List.mem_cons.1 h with rfl | h
    · exact .inl hn
    · exact .inr (mem_all h hn)
theorem rd_slice {P : Program} {t e : TypeId} {α : Type} {k : Kd α} {Q : α → Prop} (hu : P.underlying t = some (.slice e)) (hc : P.cellsOf e = k.sz) {B : Nat} (hB : P.bytesOf e = B) (hr : Rd P e k Q) :
    Rd P t (Kd.slice e k) (fun xs => (∀ x ∈ xs, Q x) ∧ xs.length * B ≤ 140737488351232) := by
  intro H enc w base spare held fuel cs d ps h hw
  rcases Deep.open_slice hu h with ⟨rfl, hx⟩ | ⟨a, len, cap, m, n, D, Pl, rfl, hb, hl, hm, hmm, hx, hi⟩
  · exact ⟨[], ⟨none, 0, rfl, by simp, rfl, by simp, fun h => absurd h (by simp)⟩, by simp, by simp⟩
  · obtain ⟨rfl, rfl⟩ := Prod.mk.inj hx
    have hlm : len ≤ m := by rw [hmm]; split <;> omega
    have each : ∀ i, i < len → ∃ x : α, ∃ cs', w.cells? base (a.add (i * P.cellsOf e)) (P.cellsOf e) = some cs' ∧ k.K w x cs' ∧ Q x := by
      intro i hil
      obtain ⟨cs', h1, h2⟩ := hi i (by omega)
      obtain ⟨x, hK, hQ⟩ := hr H enc w base spare held n cs' (D i) (Pl i) h2 (fun q hq => hw q (by
        simp only [DataW.weights, hu, List.mem_cons, List.mem_append]
        exact .inr (.inl (mem_all (List.mem_map.2 ⟨i, List.mem_range.2 hil, rfl⟩) hq))))
      exact ⟨x, cs', h1, hK, hQ⟩
    have hw0 : (len + (m - len)) * P.bytesOf e ≤ 140737488351232 := hw _ (by simp [DataW.weights, hu])
    rw [hB] at hw0
    have build : ∀ j, j ≤ len → ∃ xs : List α, xs.length = j ∧ ∀ i x, xs[i]? = some x → (∃ cs', w.cells? base (a.add (i * P.cellsOf e)) (P.cellsOf e) = some cs' ∧ k.K w x cs') ∧ Q x := by
      intro j
      induction j with
      | zero => intro _; exact ⟨[], rfl, fun i x h => by simp at h⟩
      | succ j ih =>
        intro hj
        obtain ⟨xs, hxl, hxs⟩ := ih (by omega)
        obtain ⟨x, cs', h1, h2, h3⟩ := each j (by omega)
        refine ⟨xs ++ [x], by simp [hxl], fun i y hy => ?_⟩
        rcases Nat.lt_or_ge i xs.length with hlt | hge
        · rw [List.getElem?_append_left hlt] at hy
          exact hxs i y hy
        · rw [List.getElem?_append_right hge] at hy
          have hi0 : i - xs.length = 0 := by
            rcases Nat.eq_zero_or_pos (i - xs.length) with h0 | h0
            · exact h0
            · rw [List.getElem?_eq_none (by simp; omega)] at hy; cases hy
          rw [hi0] at hy
          simp only [List.getElem?_cons_zero, Option.some.injEq] at hy
          subst hy
          have hij : i = j := by omega
          rw [hij]
          exact ⟨⟨cs', h1, h2⟩, h3⟩
    obtain ⟨xs, hxl, hxs⟩ := build len (Nat.le_refl _)
    subst hxl
    simp only [maxLen] at hm
    refine ⟨xs, ⟨some a, cap, rfl, hl, rfl, by omega, fun _ => ⟨a, rfl, fun j p hj => ?_⟩⟩, fun x hx => ?_, ?_⟩
    · obtain ⟨⟨cs', h1, h2⟩, _⟩ := hxs j p hj
      obtain ⟨_, hlen, hcell⟩ := World.cells?_some h1
      refine ⟨cs', k.K_len h2, h2, fun i u hu => ?_⟩
      have hlt : i < cs'.length := (List.getElem?_eq_some_iff.1 hu).1
      have := hcell i (by omega)
      rw [hu, Deep.add_add, hc] at this
      exact this
    · obtain ⟨i, hi⟩ := List.getElem?_of_mem hx
      exact (hxs i x hi).2
    · exact Nat.le_trans (Nat.mul_le_mul_right _ (by omega)) hw0
/-- The fields of a struct, each of one cell, one behind the other. -/
def RdF (P : Program) (fs : List Field) {α : Type} (k : Kd α) (Q : α → Prop) : Prop :=
  ∀ (H : Type) (enc : TypeId × Value → H) (w : World) (base : Nat) (spare : Nat → Bool) (held : Bool) (n : Nat) (cs : List Value) (xs : List (DataW H × List MemPlace)),
    cs.length = fs.length → xs.length = fs.length → (∀ (i : Nat) (f : Field), fs[i]? = some f → DataW.trod enc P w base spare held n f.type ((cs.drop i).take 1) = xs[i]?) → (∀ q ∈ DataW.weightsEach P (fs.map (·.type)) (xs.map (·.1)), q ≤ 140737488351232) → ∃ x, k.K w x cs ∧ Q x
theorem rdf_one {P : Program} {f : Field} {α : Type} {k : Kd α} {Q : α → Prop} (h : Rd P f.type k Q) : RdF P [f] k Q := by
  intro H enc w base spare held n cs xs hl hx hf hw
  obtain ⟨c, rfl⟩ : ∃ c, cs = [c] := by match cs, hl with | [c], _ => exact ⟨c, rfl⟩
  obtain ⟨y, rfl⟩ : ∃ y, xs = [y] := by match xs, hx with | [y], _ => exact ⟨y, rfl⟩
  exact h H enc w base spare held n [c] y.1 y.2 (by have := hf 0 f rfl; simpa using this) (fun q hq => hw q (by simp [DataW.weightsEach]; exact hq))
theorem rdf_cons {P : Program} {f : Field} {fs : List Field} {α β : Type} {a : Kd α} {b : Kd β} {Qa : α → Prop} {Qb : β → Prop} (h : Rd P f.type a Qa) (hs : RdF P fs b Qb) : RdF P (f :: fs) (Kd.pair a b) (fun x => Qa x.1 ∧ Qb x.2) := by
  intro H enc w base spare held n cs xs hl hx hf hw
  obtain ⟨c, cs', rfl⟩ : ∃ c cs', cs = c :: cs' := by match cs, hl with | c :: cs', _ => exact ⟨c, cs', rfl⟩
  obtain ⟨y, xs', rfl⟩ : ∃ y xs', xs = y :: xs' := by match xs, hx with | y :: xs', _ => exact ⟨y, xs', rfl⟩
  obtain ⟨x, hK, hQ⟩ := h H enc w base spare held n [c] y.1 y.2 (by have := hf 0 f rfl; simpa using this) (fun q hq => hw q (by simp only [List.map_cons, DataW.weightsEach, List.mem_append]; exact .inl hq))
  obtain ⟨z, hK2, hQ2⟩ := hs H enc w base spare held n cs' xs' (by simpa using hl) (by simpa using hx) (fun i g hg => by have := hf (i + 1) g (by simpa using hg); simpa using this) (fun q hq => hw q (by simp only [List.map_cons, DataW.weightsEach, List.mem_append]; exact .inr hq))
  exact ⟨(x, z), ⟨[c], cs', rfl, hK, hK2⟩, hQ, hQ2⟩
theorem rd_struct {P : Program} {t : TypeId} {fs : Array Field} {α β : Type} {k : Kd α} {Q : α → Prop} (f : β → α) (g : α → β) (hfg : ∀ x, f (g x) = x) (hu : P.underlying t = some (.struct fs)) (hone : Deep.oneCellFields P fs = true) (hC : P.cellsOf t = fs.size) (h : RdF P fs.toList k Q) :
    Rd P t (Kd.iso k f) (fun y => Q (f y)) := by
  intro H enc w base spare held fuel cs d ps ht hw
  obtain ⟨xs, n, _, hx, hlen, hxl, hf⟩ := DataW.trod_struct hu ht
  obtain ⟨rfl, rfl⟩ := Prod.mk.inj hx
  obtain ⟨x, hK, hQ⟩ := h H enc w base spare held n cs xs (by rw [hlen, hC]; simp) (by rw [hxl]; simp) (fun i fd hi => by
    have hi' : fs[i]? = some fd := by simpa using hi
    obtain ⟨o, c⟩ := Deep.hone_of hone i fd hi'
    have := hf i fd hi'
    rw [o, c] at this
    exact this) (fun q hq => hw q (by simp only [DataW.weights, hu]; exact hq))
  exact ⟨g x, by show k.K w (f (g x)) cs; rw [hfg]; exact hK, by show Q (f (g x)); rw [hfg]; exact hQ⟩
/-- What the weights of all arguments say of one. -/
theorem weigh {H : Type} {P : Program} {ts : List TypeId} {ds : List (DataW H)} {j : Nat} {t : TypeId} {d : DataW H} (hsz : (DataW.weightsEach P ts ds).all (· ≤ reachBytes) = true) (ht : ts[j]? = some t) (hd : ds[j]? = some d) : ∀ n ∈ d.weights P t, n ≤ 140737488351232 := by
  intro n hn
  have := List.all_eq_true.1 hsz _ (DataW.weights_mem_each ht hd n hn)
  have h2 : n ≤ reachBytes := by simpa only [decide_eq_true_eq] using this
  exact h2
/-- An argument that is a slice. -/
theorem arg_slice {P : Program} {t e : TypeId} {α : Type} {k : Kd α} {Q : List α → Prop} (hr : Rd P t (Kd.slice e k) Q) {H : Type} {enc : TypeId × Value → H} {w : World} {base : Nat} {spare : Nat → Bool} {held : Bool} {a : Option Addr} {len cap : Nat} {d : DataW H} {ps : List MemPlace}
    (h : DataW.Trod enc P w base spare held t (.slice a len cap) d ps) (hw : ∀ n ∈ d.weights P t, n ≤ 140737488351232) : ∃ xs : List α, len = xs.length ∧ xs.length ≤ cap ∧ k.C w a xs.length xs ∧ Q xs := by
  obtain ⟨fuel, hf⟩ := h
  obtain ⟨xs, ⟨A, c, he, hl, hC⟩, hQ⟩ := hr H enc w base spare held fuel _ d ps hf hw
  simp only [Value.cells, List.cons.injEq, and_true, Value.slice.injEq] at he
  obtain ⟨rfl, rfl, rfl⟩ := he
  exact ⟨xs, rfl, hl, hC, hQ⟩
/-- A slice's places, in what is read of it. -/
theorem arg_len {P : Program} {t e : TypeId} (hu : P.underlying t = some (.slice e)) {H : Type} {enc : TypeId × Value → H} {w : World} {base : Nat} {spare : Nat → Bool} {held : Bool} {a : Option Addr} {len cap : Nat} {d : DataW H} {ps : List MemPlace}
    (h : DataW.Trod enc P w base spare held t (.slice a len cap) d ps) : len = 0 ∨ ∃ el sp, d = .slice el sp ∧ el.length = len := by
  obtain ⟨fuel, hf⟩ := h
  rcases Deep.open_slice hu hf with ⟨he, hx⟩ | ⟨a', len', cap', m, n, D, Pl, he, hb, hl, hm, hmm, hx, hi⟩
  · simp only [Value.cells, List.cons.injEq, and_true, Value.slice.injEq] at he
    exact .inl he.2.1
  · simp only [Value.cells, List.cons.injEq, and_true, Value.slice.injEq] at he
    obtain ⟨rfl, rfl, rfl⟩ := he
    obtain ⟨rfl, rfl⟩ := Prod.mk.inj hx
    refine .inr ⟨_, _, rfl, ?_⟩
    simp
/-- An argument that is a struct. -/
theorem arg_struct {P : Program} {t : TypeId} {α : Type} {k : Kd α} {Q : α → Prop} (hr : Rd P t k Q) {H : Type} {enc : TypeId × Value → H} {w : World} {base : Nat} {spare : Nat → Bool} {held : Bool} {cs : Array Value} {d : DataW H} {ps : List MemPlace}
    (h : DataW.Trod enc P w base spare held t (.agg cs) d ps) (hw : ∀ n ∈ d.weights P t, n ≤ 140737488351232) : ∃ x : α, k.K w x cs.toList ∧ Q x := by
  obtain ⟨fuel, hf⟩ := h
  exact hr H enc w base spare held fuel _ d ps hf hw
end Go.Proofs.Ytgdkikkjaofbfaa.Rd
