/- block: a row's bytes. -/
import Derived.Test.YtcogolbgfkikfaaPx0
import Derived.Test.YtcogolbgfkikfaaPx3
import Derived.Test.YtcogolbgfkikfaaPx4
import Derived.Test.YtcogolbgfkikfaaBlk
import Derived.Test.YtcogolbgfkikfaaNumU
set_option linter.unusedVariables false
set_option linter.unusedSimpArgs false
namespace Go.Proofs.Ytcogolbgfkikfaa.BlkS
open Go.RowKit Go.Proofs.Ytcogolbgfkikfaa.P Go.Proofs.Ytcogolbgfkikfaa.Th Go.Proofs.Ytcogolbgfkikfaa.NumS Go.Proofs.YtcogolbgfkikfaaW.PrintWords Go.Proofs.YtcogolbgfkikfaaW.PrintLast Go.Proofs.YtcogolbgfkikfaaW.PrintMore

def u64 (n : Int) : Prop := 0 ≤ n ∧ n < 18446744073709551616
def sh (n : Int) : List UInt8 := short n.toNat
theorem Sh_ev {n : Int} (h : u64 n) : Ev (fun k => num_Short.f k n) (lb (sh n)) := by
  obtain ⟨m, rfl⟩ := Int.eq_ofNat_of_zero_le h.1
  exact Short_ev m (by have := h.2; omega)
theorem sh_len {n : Int} (h : u64 n) : (sh n).length ≤ 10 := short_len10 _ (by have := h.1; have := h.2; omega)
theorem okE_iff {x : ES} (h : okE x = true) : 1 ≤ (bl x.f0).length ∧ (bl x.f0).length ≤ 100 ∧ (bl x.f3).length ≤ 100 ∧ (x.f2 = true → bl x.f3 = []) ∧ 1 ≤ x.f1 ∧ x.f1 ≤ 1099511627776 := of_decide_eq_true h
theorem okE_u {x : ES} (h : okE x = true) : u64 x.f1 := by have := okE_iff h; exact ⟨by omega, by omega⟩

/-- An entry's bytes, of whose key n bytes are shared. -/
def entB (n : Nat) (x : ES) : List UInt8 := short n ++ (short ((bl x.f0).length - n) ++ ((bl x.f0).drop n ++ (sh x.f1 ++ ((if x.f2 = true then (1 : UInt8) else 0) :: (short (bl x.f3).length ++ bl x.f3)))))
def shB (i : Nat) (p : List UInt8) (x : ES) : Nat := if i % 4 = 0 then 0 else comm p (bl x.f0)
def bodyB : Nat → List UInt8 → List ES → List UInt8
  | _, _, [] => []
  | i, p, x :: l => entB (shB i p x) x ++ bodyB (i + 1) (bl x.f0) l
def startsB : Nat → Nat → List UInt8 → List ES → List Nat
  | _, _, _, [] => []
  | i, j, p, x :: l => (if i % 4 = 0 then [j] else []) ++ startsB (i + 1) (j + (entB (shB i p x) x).length) (bl x.f0) l
def encB (l : List ES) : List UInt8 := bodyB 0 [] l ++ (startsB 0 0 [] l).flatMap long ++ long l.length
def encr (l : List ES) : ByteArray × Int := if rowB l = true then (lb (encB l), 0) else (lb [], 2)
theorem shB_le (i : Nat) (p : List UInt8) (x : ES) : shB i p x ≤ (bl x.f0).length := by
  unfold shB; split
  · omega
  · exact (comm_le _ _).2
theorem entB_len {n : Nat} {x : ES} (h : okE x = true) (hn : n ≤ (bl x.f0).length) : (entB n x).length ≤ 300 := by
  have h1 := okE_iff h
  have h2 := short_len10 n (by omega)
  have h3 := short_len10 ((bl x.f0).length - n) (by omega)
  have h4 := sh_len (okE_u h)
  have h5 := short_len10 (bl x.f3).length (by omega)
  unfold entB
  simp only [List.length_append, List.length_drop, List.length_cons]
  omega
theorem wr_some (acc : List UInt8) (s : List UInt8) (h1 : acc.length ≤ 1000000) (h2 : s.length ≤ 1000000) : block_Encode.wr acc (lb s) = some (acc ++ s) := by
  unfold block_Encode.wr
  rw [if_pos (by rw [lb_size]; omega), bl_lb]
theorem ent_ev (acc : List UInt8) (n : Nat) (x : ES) (h : okE x = true) (hn : n ≤ (bl x.f0).length) (ha : acc.length ≤ 100000) : Ev (fun k => block_Encode.ent k acc (n : Int) x) (acc ++ entB n x) := by
  have h1 := okE_iff h
  have l2 := short_len10 n (by omega)
  have l3 := short_len10 ((bl x.f0).length - n) (by omega)
  have l4 := sh_len (okE_u h)
  have l5 := short_len10 (bl x.f3).length (by omega)
  have e1 : IntKind.u64.wrap (n : Int) = (n : Int) := wu_nat n (by omega)
  have e2 : IntKind.u64.wrap (wrap64 (((bl x.f0).length : Int) - (n : Int))) = (((bl x.f0).length - n : Nat) : Int) := by
    rw [w64 _ (by omega) (by omega), wu_in _ (by omega) (by omega)]; omega
  have e3 : IntKind.u64.wrap ((bl x.f3).length : Int) = ((bl x.f3).length : Int) := wu_nat _ (by omega)
  unfold block_Encode.ent
  rw [size_bl x.f0, size_bl x.f3, e1, e2, e3]
  refine Ev.bind (Short_ev n (by omega)) (Ev.just (wr_some _ _ (by omega) (by omega)) ?_)
  refine Ev.bind (Short_ev _ (by omega)) (Ev.just (wr_some _ _ (by simp only [List.length_append]; omega) (by omega)) ?_)
  refine Ev.pos (by omega) (Ev.pos (by omega) ?_)
  have e4 : x.f0.extract ((n : Int)).toNat (bl x.f0).length = lb ((bl x.f0).drop n) := by
    conv => lhs; rw [← lb_bl x.f0]
    rw [lb_extract, bl_lb, List.take_length, Int.toNat_natCast]
  rw [e4]
  refine Ev.just (wr_some _ _ (by simp only [List.length_append]; omega) (by simp only [List.length_drop]; omega)) ?_
  refine Ev.bind (Sh_ev (okE_u h)) (Ev.just (wr_some _ _ (by simp only [List.length_append, List.length_drop]; omega) (by omega)) ?_)
  refine Ev.just (a := _ ++ [if x.f2 = true then (1 : UInt8) else 0]) (by unfold block_Encode.wb; rw [if_pos (by simp only [List.length_append, List.length_drop]; omega)]) ?_
  refine Ev.bind (Short_ev _ (by omega)) (Ev.just (wr_some _ _ (by simp only [List.length_append, List.length_drop, List.length_singleton]; omega) (by omega)) ?_)
  refine Ev.val ?_
  have := wr_some (acc ++ short n ++ short ((bl x.f0).length - n) ++ (bl x.f0).drop n ++ sh x.f1 ++ [if x.f2 = true then (1 : UInt8) else 0] ++ short (bl x.f3).length) (bl x.f3) (by simp only [List.length_append, List.length_drop, List.length_singleton]; omega) (by omega)
  rw [lb_bl] at this
  rw [this]
  simp [entB]
def prev (L : List ES) : Nat → List UInt8
  | 0 => []
  | i + 1 => match L[i]? with | some x => bl x.f0 | none => []
theorem prev_succ {L : List ES} {i : Nat} (h : i < L.length) : prev L (i + 1) = bl L[i].f0 := by simp only [prev, List.getElem?_eq_getElem h]
theorem go_ev (L : List ES) (hall : ∀ x ∈ L, okE x = true) (hL : L.length ≤ 32) : ∀ (n i : Nat) (acc : List UInt8) (st : List Int), i + n = L.length → acc.length ≤ 300 * i →
    Ev (fun k => block_Encode.go k L i (L.drop i) acc st) (acc ++ bodyB i (prev L i) (L.drop i), st ++ (startsB i acc.length (prev L i) (L.drop i)).map Int.ofNat) := by
  intro n
  induction n with
  | zero =>
    intro i acc st hi ha
    rw [List.drop_eq_nil_of_le (by omega)]
    exact Ev.val (by simp [block_Encode.go, bodyB, startsB])
  | succ n ih =>
    intro i acc st hi ha
    have h1 : i < L.length := by omega
    have hx := hall L[i] (List.getElem_mem h1)
    rw [List.drop_eq_getElem_cons h1]
    simp only [block_Encode.go, bodyB, startsB]
    by_cases h4 : i % 4 = 0
    · have e : shB i (prev L i) L[i] = 0 := by unfold shB; rw [if_pos h4]
      rw [e, if_pos h4]
      refine Ev.pos h4 (Ev.bind (ent_ev acc 0 L[i] hx (by omega) (by omega)) ?_)
      have hl := entB_len (n := 0) hx (by omega)
      refine Ev.eq (ih (i + 1) _ _ (by omega) (by simp only [List.length_append]; omega)) ?_
      rw [prev_succ h1]
      simp
    · have e : shB i (prev L i) L[i] = comm (prev L i) (bl L[i].f0) := by unfold shB; rw [if_neg h4]
      obtain ⟨j, rfl⟩ : ∃ j, i = j + 1 := ⟨i - 1, by omega⟩
      have h2 : j < L.length := by omega
      have hp := okE_iff (hall L[j] (List.getElem_mem h2))
      have hc := comm_le (bl L[j].f0) (bl L[j + 1].f0)
      rw [prev_succ h2] at e
      rw [prev_succ h2, e, if_neg h4]
      refine Ev.neg h4 ?_
      have er : rd_T35 L (((j + 1 : Nat) : Int) - 1) = L[j] := by
        rw [show (((j + 1 : Nat) : Int) - 1) = (j : Int) by omega]; exact rdE h2
      rw [er]
      have hs := Shared_ev (bl L[j].f0) (bl L[j + 1].f0) (by omega)
      rw [lb_bl, lb_bl] at hs
      refine Ev.bind hs (Ev.bind (ent_ev acc _ L[j + 1] hx hc.2 (by omega)) ?_)
      have hl := entB_len (n := comm (bl L[j].f0) (bl L[j + 1].f0)) hx hc.2
      refine Ev.eq (ih (j + 1 + 1) _ _ (by omega) (by simp only [List.length_append]; omega)) ?_
      rw [prev_succ h1]
      simp
theorem body_len (l : List ES) : ∀ (i : Nat) (p : List UInt8), (∀ x ∈ l, okE x = true) → (bodyB i p l).length ≤ 300 * l.length := by
  induction l with
  | nil => intro i p _; simp [bodyB]
  | cons x l ih =>
    intro i p h
    have h1 := entB_len (h x (by simp)) (shB_le i p x)
    have h2 := ih (i + 1) (bl x.f0) (fun y hy => h y (by simp [hy]))
    simp only [bodyB, List.length_append, List.length_cons]
    omega
theorem starts_le (l : List ES) : ∀ (i j : Nat) (p : List UInt8), (∀ x ∈ l, okE x = true) → ∀ a ∈ startsB i j p l, a ≤ j + 300 * l.length := by
  induction l with
  | nil => intro i j p _ a ha; simp [startsB] at ha
  | cons x l ih =>
    intro i j p h a ha
    have h1 := entB_len (h x (by simp)) (shB_le i p x)
    simp only [startsB, List.mem_append] at ha
    simp only [List.length_cons]
    rcases ha with ha | ha
    · split at ha
      · simp only [List.mem_singleton] at ha; omega
      · simp at ha
    · have := ih (i + 1) _ (bl x.f0) (fun y hy => h y (by simp [hy])) a ha
      omega
theorem starts_len (l : List ES) : ∀ (i j : Nat) (p : List UInt8), (startsB i j p l).length ≤ l.length := by
  induction l with
  | nil => intro i j p; simp [startsB]
  | cons x l ih =>
    intro i j p
    have := ih (i + 1) (j + (entB (shB i p x) x).length) (bl x.f0)
    simp only [startsB, List.length_append, List.length_cons]
    split <;> simp <;> omega
theorem longs_len (st : List Nat) : (st.flatMap long).length = 8 * st.length := by
  induction st with
  | nil => rfl
  | cons a l ih => simp only [List.flatMap_cons, List.length_append, List.length_cons, long_len, ih]; omega
theorem tl_f : ∀ (st : List Nat) (acc : List UInt8), (∀ a ∈ st, a < 18446744073709551616) → acc.length + 8 * st.length ≤ 1000000 → block_Encode.tl (st.map Int.ofNat) acc = some (acc ++ st.flatMap long) := by
  intro st
  induction st with
  | nil => intro acc _ _; simp [block_Encode.tl]
  | cons a l ih =>
    intro acc h ha
    have h1 := h a (by simp)
    simp only [List.length_cons] at ha
    simp only [List.map_cons, block_Encode.tl]
    rw [show (Int.ofNat a) = (a : Int) from rfl, wu_nat a h1, Long_f]
    simp only [Option.bind_some]
    rw [wr_some _ _ (by omega) (by rw [long_len]; omega)]
    simp only [Option.bind_some]
    rw [ih _ (fun b hb => h b (by simp [hb])) (by rw [List.length_append, long_len]; omega)]
    simp
theorem Encode_ev (l : List ES) (hl : l.length ≤ 1000000) : Ev (fun k => block_Encode.f k l) (encr l) := by
  unfold block_Encode.f
  refine Ev.bind (row_ev l hl) ?_
  unfold encr
  cases h : rowB l
  · exact Ev.neg (by simp) (Ev.val rfl)
  · have h1 := rowB_len h
    have hall := rowB_all h
    refine Ev.pos rfl (Ev.pos hl ?_)
    have hg := go_ev l hall h1.2 l.length 0 [] [] (by omega) (by simp)
    refine Ev.bind (a := (bodyB 0 [] l, (startsB 0 0 [] l).map Int.ofNat)) (Ev.eq hg (by simp [prev])) ?_
    have hb := body_len l 0 [] hall
    have hs := starts_len l 0 0 []
    have hle := starts_le l 0 0 [] hall
    refine Ev.just (tl_f (startsB 0 0 [] l) (bodyB 0 [] l) (fun a ha => by have := hle a ha; omega) (by omega)) ?_
    refine Ev.just (a := lb (long l.length)) (by rw [wu_nat _ (by omega), Long_f]) ?_
    refine Ev.just (wr_some _ _ (by rw [List.length_append, longs_len]; omega) (by rw [long_len]; omega)) (Ev.val rfl)
theorem encB_len {l : List ES} (h : rowB l = true) : (encB l).length ≤ 10000 := by
  have h1 := rowB_len h
  have hb := body_len l 0 [] (rowB_all h)
  have hs := starts_len l 0 0 []
  unfold encB
  rw [List.length_append, List.length_append, longs_len, long_len]
  omega
end Go.Proofs.Ytcogolbgfkikfaa.BlkS
