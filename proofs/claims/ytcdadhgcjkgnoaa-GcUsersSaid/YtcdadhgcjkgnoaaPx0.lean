-- Printed by a program of this session's own (wip/tools/pprint.sh, over the kit's print, with given contracts): not typed by hand.
import Derived.Test.YtcdadhgcjkgnoaaProg
import Derived.Below
import Derived.Deep.Draws
import Derived.Deep.AppendLies
import Derived.Maps.AppendAt
import Derived.OwnWalk
import Derived.Laws.BytesArg
import Derived.Laws.MakeOwn
import Derived.Laws.OwnMore
import Derived.Deep.OwnRows
import Derived.Tactics
import Derived.Lib.ConvBytes
import Derived.Laws.Slices
import Derived.WalkKit
import Derived.KernelRfl
import Derived.RowKit3
import Derived.Deep.LoopGhost
import Derived.Deep.QuietTactic
import Derived.BigQuiet
import Derived.WideLaws
import Derived.Deep.DeepCutAuto
import Derived.Deep.CutBlock
import Derived.Deep.RegionHeld3
import Derived.Laws.Rows
import Derived.Lib.AppendStr
import Derived.ArgAppend
import Derived.Laws.IdiomCopy
import Derived.OrdersHeld
import Derived.Laws.BitsLemmas
import Derived.RowKit
import Derived.Handy
import Derived.Lib.Hide
import Derived.WalkMore
import Derived.Laws.Cover1
import Derived.Test.YtcdadhgcjkgnoaaMk
import Derived.Test.YtcdadhgcjkgnoaaSh
import Derived.Test.YtcdadhgcjkgnoaaBuf
import Derived.Test.YtcdadhgcjkgnoaaBufC
import Derived.Test.YtcdadhgcjkgnoaaBufR
import Derived.Test.YtcdadhgcjkgnoaaTh
import Derived.Test.YtcdadhgcjkgnoaaKeyT
import Derived.Test.YtcdadhgcjkgnoaaMap
import Derived.Test.YtcdadhgcjkgnoaaKt
import Derived.Test.YtcdadhgcjkgnoaaMapT
import Derived.StillTailTactics
import Derived.Test.YtcdadhgcjkgnoaaWWords
import Derived.Test.YtcdadhgcjkgnoaaWLast
import Derived.Test.YtcdadhgcjkgnoaaWTab
import Derived.Test.YtcdadhgcjkgnoaaWEqStruct
import Derived.Test.YtcdadhgcjkgnoaaWRepsOne
import Derived.Test.YtcdadhgcjkgnoaaWGuard
import Derived.Test.YtcdadhgcjkgnoaaOm
namespace Go.Proofs.Ytcdadhgcjkgnoaa.P
open Go.RowKit Go.Proofs.YtcdadhgcjkgnoaaW.PrintWords Go.Proofs.YtcdadhgcjkgnoaaW.PrintLast Go.Proofs.YtcdadhgcjkgnoaaW.PrintMore
set_option linter.unusedVariables false
set_option linter.unusedSimpArgs false
-- SQUEEZED
@[reducible] def Y : Bool := true
@[reducible] def N : Bool := false



def errW : Option Int → Value
 | none => .nilIface
 | some c => .iface 0 (.int .i64 c)
theorem errW_none : errW none = .nilIface := rfl
theorem errW_some (c : Int) : errW (some c) = .iface 0 (.int .i64 c) := rfl

theorem info5 : (Try.prog.info? 5).map (fun i => (i.zero, i.size, i.bytes)) = some (some (.int .u8 0), 1, 1) := by kernel_rfl
theorem info9 : (Try.prog.info? 9).map (fun i => (i.zero, i.size, i.bytes)) = some (some (.string ⟨#[]⟩), 1, 16) := by kernel_rfl
theorem info23 : (Try.prog.info? 23).map (fun i => (i.zero, i.size, i.bytes)) = some (some (.int .u64 0), 1, 8) := by kernel_rfl
theorem info47 : (Try.prog.info? 47).map (fun i => (i.zero, i.size, i.bytes)) = some (some (.agg #[(.string ⟨#[]⟩), (.int .u64 0), (.bool false), (.string ⟨#[]⟩)]), 4, 48) := by kernel_rfl
-- the values' own types
/-! #### struct type 47 -/
structure S47 where
 f0 : ByteArray
 f1 : Int
 f2 : Bool
 f3 : ByteArray
def z47 : S47 := ⟨(⟨#[]⟩ : ByteArray), (0 : Int), false, (⟨#[]⟩ : ByteArray)⟩
def k47 : Kd S47 := Kd.iso (Kd.pair Kd.string (Kd.pair (Kd.int .u64) (Kd.pair Kd.bool Kd.string))) (fun x : S47 => (x.f0, x.f1, x.f2, x.f3))
theorem k47_open {w : World} {x : S47} {cs : List Value} (h : k47.K w x cs) : cs = [.string x.f0, .int .u64 x.f1, .bool x.f2, .string x.f3] := by
 obtain ⟨_, _, rfl, rfl, ⟨_, _, rfl, rfl, ⟨_, _, rfl, rfl, rfl⟩⟩⟩ := h
 exact rfl
theorem k47_openM {w : World} {base : Nat} {ok : Nat → Prop} {x : S47} {cs : List Value} (h : k47.M w base ok x cs) : cs = [.string x.f0, .int .u64 x.f1, .bool x.f2, .string x.f3] := by
 obtain ⟨_, _, rfl, rfl, ⟨_, _, rfl, rfl, ⟨_, _, rfl, rfl, rfl⟩⟩⟩ := h
 exact rfl
theorem k47_mk (w : World) (x : S47)  : k47.K w x [.string x.f0, .int .u64 x.f1, .bool x.f2, .string x.f3] := ⟨[.string x.f0], [.int .u64 x.f1, .bool x.f2, .string x.f3], rfl, rfl, ⟨[.int .u64 x.f1], [.bool x.f2, .string x.f3], rfl, rfl, ⟨[.bool x.f2], [.string x.f3], rfl, rfl, rfl⟩⟩⟩
theorem k47_mkM (w : World) (base : Nat) (ok : Nat → Prop) (x : S47)  : k47.M w base ok x [.string x.f0, .int .u64 x.f1, .bool x.f2, .string x.f3] := ⟨[.string x.f0], [.int .u64 x.f1, .bool x.f2, .string x.f3], rfl, rfl, ⟨[.int .u64 x.f1], [.bool x.f2, .string x.f3], rfl, rfl, ⟨[.bool x.f2], [.string x.f3], rfl, rfl, rfl⟩⟩⟩
def rd_T47 (xs : List S47) (i : Int) : S47 := xs.getD i.toNat z47
theorem at_T47 {w : World} {A : Option Addr} {n : Nat} {xs : List S47} (h : Kd.C k47 w A n xs) (i : Int) (h0 : 0 ≤ i) (h1 : i < n) : ∃ ad , A = some ad ∧ w.cell? (ad.add (i.toNat * 4)) = some (.string (rd_T47 xs i).f0) ∧ w.cell? ⟨(ad.add (i.toNat * 4)).block, (ad.add (i.toNat * 4)).off + 1, none⟩ = some (.int .u64 (rd_T47 xs i).f1) ∧ w.cell? ⟨(ad.add (i.toNat * 4)).block, (ad.add (i.toNat * 4)).off + 2, none⟩ = some (.bool (rd_T47 xs i).f2) ∧ w.cell? ⟨(ad.add (i.toNat * 4)).block, (ad.add (i.toNat * 4)).off + 3, none⟩ = some (.string (rd_T47 xs i).f3) := by
 obtain ⟨ad, c, e, _, hK, hc0⟩ := Kd.C_get h z47 i h0 h1
 have hc : ∀ j u, c[j]? = some u → w.cell? (ad.add (i.toNat * 4 + j)) = some u := hc0
 obtain rfl := k47_open hK
 exact ⟨ad, e, hc 0 _ rfl, by rw [← add_field _ _ 1 (by omega)]; exact hc 1 _ rfl, by rw [← add_field _ _ 2 (by omega)]; exact hc 2 _ rfl, by rw [← add_field _ _ 3 (by omega)]; exact hc 3 _ rfl⟩

/-! #### phrases that come again and again -/
theorem hB_ {p : Prop} (h : p := by repeat (first | (with_reducible first | exact HB.out | apply below_alloc | apply pw_below_drewN | apply below_drew1) | exact HB.out)) : p := h
theorem hA_ {p : Prop} (h : p := by (try simp only [List.map_toArray, List.map_cons, List.map_nil]); first | done | rfl | (simp only [List.length_drop, List.length_take]; rfl) | (simp (disch := omega) only [IntWalk.u64_in, IntWalk.i64_in, IntWalk.u8_in]; rfl)) : p := h
theorem rf_ {p : Prop} (h : p := by first | rfl | (simp [errW_none, errW_some] <;> rfl) | (simp (disch := omega) only [← i64_w, IntWalk.i64_in]; rfl) | (simp [*, errW_none, errW_some] <;> rfl)) : p := h
theorem pA_ {p : Prop} (h : p := by first | (simp only [putAll, Act.put, List.setIfInBounds_toArray, List.set_cons_zero, List.set_cons_succ]; done) | (simp only [putAll, Act.put, List.setIfInBounds_toArray, List.set_cons_zero, List.set_cons_succ]; rfl)) : p := h
theorem as_ {p : Prop} (h : p := by first | (with_reducible assumption) | assumption) : p := h
theorem rs_ {p : Prop} (h : p := by first | rfl | (simp; done) | (simp [*]; done)) : p := h
theorem hH_ {p : Prop} (h : p := by first | (with_reducible exact H') | exact H' | (subst_vars; exact H')) : p := h
theorem dR_ {p : Prop} (h : p := by repeat (first | exact Drawn0.refl _ | apply Drawn0.step)) : p := h
end Go.Proofs.Ytcdadhgcjkgnoaa.P
