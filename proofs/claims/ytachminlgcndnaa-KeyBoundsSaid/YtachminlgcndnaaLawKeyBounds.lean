-- Printed by a program of this session's own (wip/tools/pprint.sh, over the kit's print, with given contracts): not typed by hand.
import Derived.Test.YtachminlgcndnaaRows
import Derived.Test.YtachminlgcndnaaPx12
import Derived.Test.YtachminlgcndnaaPureKeyBounds
import Derived.Test.YtachminlgcndnaaRd
import Derived.WalkKit
import Derived.ProofKit
import Derived.OpenShut
import Derived.ShutString
import Derived.ChangeOld
import Derived.Below
import Derived.SizedLaws
import Derived.Carry
namespace Go.Proofs.Ytachminlgcndnaa.keyBounds
open Go.ChangeShapes Go.WideShapes Go.ChangeAt Go.RowKit Go.Proofs.YtachminlgcndnaaW.PrintWords
open Go.ChangeMaps (open_string shut_string)
set_option linter.unusedVariables false
set_option linter.unusedSimpArgs false
theorem own : ownKnob Try.prog.godebug = none := by kernel_rfl
theorem laidOut : laidOutB Try.prog = true := by kernel_rfl
set_option maxRecDepth 100000 in
theorem lifted (os : Os) (started : os.Started) (H : Type) (enc : TypeId × Value → H) :
    ReturnsInHanded {} Try.checked os 7 .any (Rows.keyBoundsSpec.pre6 enc Try.prog Try.f7 Rows.keyBoundsRow.domain false) (Rows.keyBoundsSpec.post enc Try.prog Try.f7 false true false false) := by
  refine returnsInHanded_of_change_sized (C := Try.checked) own started (by kernel_rfl) Try.func7
    (ChangeSpec.witness6 (enc := enc) (C := Try.checked) false ⟨#[], #[.agg #[.int .i64 0, .string ByteArray.empty, .int .u64 0], .agg #[.int .i64 0, .string ByteArray.empty, .int .u64 0]], []⟩ 8 (by kernel_rfl) (by kernel_rfl) (by kernel_rfl) (by kernel_rfl)) ?_
  intro W base args ds gs before hval0 hW hcnd hsz0 _
  have hsz : (DataW.weightsEach Try.prog (Try.f7.params.toList ++ Rows.keyBoundsSpec.plain.varTypes Try.prog) (ds ++ gs)).all (· ≤ reachBytes) = true := hsz0
  have hval : ∀ (j : Nat) t v, Try.f7.params[j]? = some t → args[j]? = some v → Value.okWide Try.prog W .any base t v := hval0
  have hW' := hW
  obtain ⟨p, q, hA0, hV, rfl, hfz, hnd⟩ := hW
  have hA : DataW.TrodAll enc Try.prog W 0 (fun _ => true) true Try.f7.params.toList args.toList ds p := hA0
  rw [Try.params7] at hA hval hsz
  obtain ⟨v0, vs0, d0, ds0, p0, q0, hargs, rfl, rfl, h0, r0⟩ := trodAll_cons hA
  obtain ⟨v1, vs1, d1, ds1, p1, q1, rfl, rfl, rfl, h1, r1⟩ := trodAll_cons r0
  obtain ⟨rfl, rfl, rfl⟩ := trodAll_nil r1
  obtain rfl : args = #[v0, v1] := by cases args; simp_all
  obtain ⟨rfl, rfl⟩ := trodVars_none hV
  obtain ⟨cs0, rfl, _⟩ := okWide_struct Try.underlying24 (hval 0 24 v0 rfl rfl)
  have k0 := h0
  have lt0 : ∀ x ∈ p0, x.block < W.heap.size := by obtain ⟨m, hm⟩ := k0; exact DataW.trod_lt m _ _ _ hm
  obtain ⟨x0, hK0, hQ0⟩ := Rd.arg_struct (Rd.rd_struct (P := Try.prog) (t := 24) (fun x => x) (fun x => x) (fun _ => rfl) Try.underlying24 (by kernel_rfl) (by kernel_rfl) (Rd.rdf_cons (Rd.rd_int (P := Try.prog) (t := 3) (k := .i64) Try.underlying3) (Rd.rdf_cons (Rd.rd_string (P := Try.prog) (t := 9) Try.underlying9) (Rd.rdf_one (Rd.rd_int (P := Try.prog) (t := 22) (k := .u64) Try.underlying22))))) h0 (Rd.weigh (j := 0) hsz rfl rfl)
  obtain ⟨_, _, e0, rfl, ⟨_, _, rfl, rfl, rfl⟩⟩ := hK0
  obtain rfl : cs0 = #[.int .i64 x0.1, .string x0.2.1, .int .u64 x0.2.2] := by cases cs0; simpa using e0
  obtain ⟨cs1, rfl, _⟩ := okWide_struct Try.underlying24 (hval 1 24 v1 rfl rfl)
  have k1 := h1
  have lt1 : ∀ x ∈ p1, x.block < W.heap.size := by obtain ⟨m, hm⟩ := k1; exact DataW.trod_lt m _ _ _ hm
  obtain ⟨x1, hK1, hQ1⟩ := Rd.arg_struct (Rd.rd_struct (P := Try.prog) (t := 24) (fun x => x) (fun x => x) (fun _ => rfl) Try.underlying24 (by kernel_rfl) (by kernel_rfl) (Rd.rdf_cons (Rd.rd_int (P := Try.prog) (t := 3) (k := .i64) Try.underlying3) (Rd.rdf_cons (Rd.rd_string (P := Try.prog) (t := 9) Try.underlying9) (Rd.rdf_one (Rd.rd_int (P := Try.prog) (t := 22) (k := .u64) Try.underlying22))))) h1 (Rd.weigh (j := 1) hsz rfl rfl)
  obtain ⟨_, _, e1, rfl, ⟨_, _, rfl, rfl, rfl⟩⟩ := hK1
  obtain rfl : cs1 = #[.int .i64 x1.1, .string x1.2.1, .int .u64 x1.2.2] := by cases cs1; simpa using e1
  clear hA0 hval0 hsz0 hsz
  obtain ⟨k, hk⟩ := Pure.KeyBounds x0.1 x0.2.1 x0.2.2 x1.1 x1.2.1 x1.2.2 hQ0 hQ1
  refine (P.screelaw02_KeyBounds.calls k x0.1 x0.2.1 x0.2.2 x1.1 x1.2.1 x1.2.2 true W  hk).mono fun e W' ⟨he, bel_⟩ => ?_
  have bel : Below W.heap.size W W' := bel_
  subst he
  exact ⟨_, rfl, _, _, _, [], _, [], hW', trodAll_mk1 (shut_bool Try.underlying4 _), (trodAll_cons_mk (Below.trod laidOut (by kernel_rfl) (of_decide_eq_true (by kernel_rfl)) k0 bel lt0) (trodAll_cons_mk (Below.trod laidOut (by kernel_rfl) (of_decide_eq_true (by kernel_rfl)) k1 bel lt1) trodAll_mk0)), rfl, bel.frame _, fun h => by cases h⟩
theorem over : Rows.keyBoundsRow.holds Try.pinned (OpenSpec.ofChange Rows.keyBoundsSpec) :=
  OpenClaim.holds_of_wide 7 Try.f7 rfl rfl rfl rfl rfl rfl rfl ⟨rfl, rfl, rfl, rfl, rfl⟩ rfl rfl rfl rfl rfl (by kernel_rfl) Try.func7 (by kernel_rfl)
    (of_decide_eq_true (by kernel_rfl)) (by unfold Func.isWrapper; first | (rw [if_pos (by decide +kernel)]; kernel_rfl) | (rw [if_neg (by decide +kernel)]; exact ⟨rfl, rfl⟩))
    (fun os started H enc _ => lifted os started H enc)
theorem proved : Rows.KeyBoundsSaid := over
#print axioms proved
end Go.Proofs.Ytachminlgcndnaa.keyBounds
namespace Go.Proofs.Ytachminlgcndnaa
/-- The row, under a short name, for the claim. -/
theorem keyBounds_holds : Rows.KeyBoundsSaid := keyBounds.proved
end Go.Proofs.Ytachminlgcndnaa
