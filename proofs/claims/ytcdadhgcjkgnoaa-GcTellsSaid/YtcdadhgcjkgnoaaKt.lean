/- gc: the keys of its maps. -/
import Derived.Test.YtcdadhgcjkgnoaaProg
import Derived.StringKeys
import Derived.KernelRfl
import Derived.Maps.OwnSet
import Derived.DeepKeys4
import Derived.Test.YtcdadhgcjkgnoaaMap
import Derived.Test.YtcdadhgcjkgnoaaTh
set_option linter.unusedVariables false
namespace Go.Proofs.Ytcdadhgcjkgnoaa.Kt
open Go
theorem keyT : Try.prog.keyType 81 = true := by kernel_rfl
theorem sz : ∃ n, Try.prog.types.size = n + 1 := ⟨Try.prog.types.size - 1, by have : 0 < Try.prog.types.size := of_decide_eq_true (by kernel_rfl); omega⟩
theorem cells2 : Try.prog.cellsOf 81 = 2 := by kernel_rfl
theorem cells9 : Try.prog.cellsOf 9 = 1 := by kernel_rfl
theorem cells23 : Try.prog.cellsOf 23 = 1 := by kernel_rfl
theorem key_at (u : ByteArray) (t : Int) (hu : u.size ≤ maxLen) (ht : (Lit.int .u64 t).wf = true) : ∃ kl, keyOf Try.prog 81 (.agg #[.string u, .int .u64 t]) = some kl := by
  obtain ⟨n, hn⟩ := sz
  have hl : Program.keyLits Try.prog (Try.prog.types.size + 1) 81 [.string u, .int .u64 t] = some [.string u.data.toList, .int .u64 t] := by
    rw [hn]
    unfold Program.keyLits
    rw [Try.underlying81]
    simp only [cells2]
    rw [if_pos ⟨rfl, by kernel_rfl⟩]
    have h9 : Program.keyLits Try.prog (n + 1) 9 [.string u] = some [.string u.data.toList] := by
      unfold Program.keyLits
      rw [Try.underlying9]
      simp only
      rw [if_pos hu]
    have h23 : Program.keyLits Try.prog (n + 1) 23 [.int .u64 t] = some [.int .u64 t] := by
      unfold Program.keyLits
      rw [Try.underlying23]
      simp only
      rw [if_pos ⟨trivial, ht⟩]
    simp [cells9, cells23, h9, h23]
  have hf : Value.formed Try.prog 81 (.agg #[.string u, .int .u64 t]) = true := by
    unfold Value.formed
    rw [Try.underlying81]
    simp only [cells2]
    rfl
  refine ⟨.string (keyBytes [.string u.data.toList, .int .u64 t]), ?_⟩
  unfold keyOf
  rw [Try.underlying81]
  simp only [keyT, hf]
  rw [if_pos (show (true && true) = true from rfl)]
  show (Program.keyLits Try.prog (Try.prog.types.size + 1) 81 [.string u, .int .u64 t]).map _ = _
  rw [hl]
  rfl
theorem keyedAt : Maps.Keyed Try.prog 81 := Maps.Keyed.of_law (deep_law_laid (m := 5) (by kernel_rfl) (by decide) (of_decide_eq_true (by kernel_rfl)) (by kernel_rfl) (by kernel_rfl))
theorem zeroB (w : World) : (zeroValue 4).run Try.prog w = .ok (.bool false) w := by kernel_rfl
theorem key_str (s : ByteArray) (hs : s.size ≤ maxLen) : keyOf Try.prog 9 (.string s) = some (.string s.data.toList)   := Go.WideMaps.keyOf_string_mk Try.underlying9 hs
theorem keyedStr : Maps.Keyed Try.prog 9 := Maps.string_keyed Try.underlying9
open Th
def encAt (x : List UInt8 × Int) : Value := .agg #[.string (lb x.1), .int .u64 x.2]
theorem encAt_inj (x y : List UInt8 × Int) (h : encAt x = encAt y) : x = y := by
  obtain ⟨a, b⟩ := x
  obtain ⟨c, d⟩ := y
  simp only [encAt, Value.agg.injEq, Array.mk.injEq, List.cons.injEq, Value.string.injEq, Value.int.injEq, and_true, true_and] at h
  rw [lb_inj h.1, h.2]
def encS (x : List UInt8) : Value := .string (lb x)
theorem encS_inj (x y : List UInt8) (h : encS x = encS y) : x = y := by
  unfold encS at h
  rw [Value.string.injEq] at h
  exact lb_inj h
/-- The data that are needed; the keys that may go (or users' keys that were met). -/
def Data (w : World) (b : Nat) (L : List (List UInt8 × Int)) : Prop := Mp.SMap Try.prog 81 4 encAt w b L
def Keys (w : World) (b : Nat) (L : List (List UInt8)) : Prop := Mp.SMap Try.prog 9 4 encS w b L
theorem wf64 {t : Int} (h0 : 0 ≤ t) (h1 : t < 18446744073709551616) : (Lit.int .u64 t).wf = true := by
  have e0 : IntKind.u64.min = 0 := by decide
  have e1 : IntKind.u64.max = 18446744073709551615 := by decide
  simp only [Lit.wf, Bool.and_eq_true, decide_eq_true_eq, e0, e1]
  omega
set_option maxRecDepth 100000 in
theorem Data.put {w : World} {b : Nat} {L : List (List UInt8 × Int)} {u : ByteArray} {t : Int} (h : Data w b L) (hn : L.length ≤ 1000000) (hu : u.size ≤ 140737488351232) (h0 : 0 ≤ t) (h1 : t < 18446744073709551616) :
    ∃ w', (Instr.mapUpdate 77 (.map (some b)) (.agg #[.string u, .int .u64 t]) (.bool true)).run Try.prog w = .ok () w' ∧ Data w' b ((bl u, t) :: L) ∧ w.grownBy w' (some b) := by
  obtain ⟨kl, hk⟩ := key_at u t (by unfold maxLen; omega) (wf64 h0 h1)
  have e : Value.agg #[.string u, .int .u64 t] = encAt (bl u, t) := by unfold encAt; rw [lb_bl]
  rw [e] at hk ⊢
  exact Mp.SMap.put h keyedAt encAt_inj Try.underlying77 Try.underlying4 (by unfold maxLen; omega) hk
set_option maxRecDepth 100000 in
theorem Data.look {w : World} {b : Nat} {L : List (List UInt8 × Int)} {u : ByteArray} {t : Int} (h : Data w b L) (hu : u.size ≤ 140737488351232) (h0 : 0 ≤ t) (h1 : t < 18446744073709551616) :
    (Instr.lookup 77 (.map (some b)) (.agg #[.string u, .int .u64 t]) false).run Try.prog w = .ok (.bool (decide ((bl u, t) ∈ L))) w := by
  obtain ⟨kl, hk⟩ := key_at u t (by unfold maxLen; omega) (wf64 h0 h1)
  have e : Value.agg #[.string u, .int .u64 t] = encAt (bl u, t) := by unfold encAt; rw [lb_bl]
  rw [e] at hk ⊢
  rw [Mp.SMap.look h keyedAt Try.underlying77 Try.underlying4 (zeroB w) hk]
  congr 2
  exact decide_eq_decide.2 Iff.rfl
set_option maxRecDepth 100000 in
theorem Keys.put {w : World} {b : Nat} {L : List (List UInt8)} {s : ByteArray} (h : Keys w b L) (hn : L.length ≤ 1000000) (hu : s.size ≤ 140737488351232) :
    ∃ w', (Instr.mapUpdate 38 (.map (some b)) (.string s) (.bool true)).run Try.prog w = .ok () w' ∧ Keys w' b (bl s :: L) ∧ w.grownBy w' (some b) := by
  have hk := key_str s (by unfold maxLen; omega)
  have e : Value.string s = encS (bl s) := by unfold encS; rw [lb_bl]
  rw [e] at hk ⊢
  exact Mp.SMap.put h keyedStr encS_inj Try.underlying38 Try.underlying4 (by unfold maxLen; omega) hk
set_option maxRecDepth 100000 in
theorem Keys.look {w : World} {b : Nat} {L : List (List UInt8)} {s : ByteArray} (h : Keys w b L) (hu : s.size ≤ 140737488351232) :
    (Instr.lookup 38 (.map (some b)) (.string s) false).run Try.prog w = .ok (.bool (decide (bl s ∈ L))) w := by
  have hk := key_str s (by unfold maxLen; omega)
  have e : Value.string s = encS (bl s) := by unfold encS; rw [lb_bl]
  rw [e] at hk ⊢
  rw [Mp.SMap.look h keyedStr Try.underlying38 Try.underlying4 (zeroB w) hk]
  congr 2
  exact decide_eq_decide.2 Iff.rfl
end Go.Proofs.Ytcdadhgcjkgnoaa.Kt
