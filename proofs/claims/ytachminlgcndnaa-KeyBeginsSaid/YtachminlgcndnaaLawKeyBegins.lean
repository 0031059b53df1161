-- Printed by a program of this session's own (wip/tools/pprint.sh, over the kit's print, with given contracts): not typed by hand.
import Derived.Test.YtachminlgcndnaaRows
import Derived.Test.YtachminlgcndnaaPx13
import Derived.Test.YtachminlgcndnaaPureKeyBegins
import Derived.Test.YtachminlgcndnaaRd
import Derived.WalkKit
import Derived.ProofKit
import Derived.OpenShut
import Derived.ShutString
import Derived.ChangeOld
import Derived.Below
import Derived.SizedLaws
import Derived.Carry
namespace Go.Proofs.Ytachminlgcndnaa.keyBegins
open Go.ChangeShapes Go.WideShapes Go.ChangeAt Go.RowKit Go.Proofs.YtachminlgcndnaaW.PrintWords
open Go.ChangeMaps (open_string shut_string)
set_option linter.unusedVariables false
set_option linter.unusedSimpArgs false
theorem own : ownKnob Try.prog.godebug = none := by kernel_rfl
theorem laidOut : laidOutB Try.prog = true := by kernel_rfl
set_option maxRecDepth 100000 in
theorem lifted (os : Os) (started : os.Started) (H : Type) (enc : TypeId × Value → H) :
    ReturnsInHanded {} Try.checked os 9 .any (Rows.keyBeginsSpec.pre6 enc Try.prog Try.f9 Rows.keyBeginsRow.domain false) (Rows.keyBeginsSpec.post enc Try.prog Try.f9 false true false false) := by
  refine returnsInHanded_of_change_sized (C := Try.checked) own started (by kernel_rfl) Try.func9
    (ChangeSpec.witness6 (enc := enc) (C := Try.checked) false ⟨#[], #[.agg #[.int .i64 0, .string ByteArray.empty, .int .u64 0]], []⟩ 8 (by kernel_rfl) (by kernel_rfl) (by kernel_rfl) (by kernel_rfl)) ?_
  intro W base args ds gs before hval0 hW hcnd hsz0 _
  have hsz : (DataW.weightsEach Try.prog (Try.f9.params.toList ++ Rows.keyBeginsSpec.plain.varTypes Try.prog) (ds ++ gs)).all (· ≤ reachBytes) = true := hsz0
  have hval : ∀ (j : Nat) t v, Try.f9.params[j]? = some t → args[j]? = some v → Value.okWide Try.prog W .any base t v := hval0
  have hW' := hW
  obtain ⟨p, q, hA0, hV, rfl, hfz, hnd⟩ := hW
  have hA : DataW.TrodAll enc Try.prog W 0 (fun _ => true) true Try.f9.params.toList args.toList ds p := hA0
  rw [Try.params9] at hA hval hsz
  obtain ⟨v0, vs0, d0, ds0, p0, q0, hargs, rfl, rfl, h0, r0⟩ := trodAll_cons hA
  obtain ⟨rfl, rfl, rfl⟩ := trodAll_nil r0
  obtain rfl : args = #[v0] := by cases args; simp_all
  obtain ⟨rfl, rfl⟩ := trodVars_none hV
  obtain ⟨cs0, rfl, _⟩ := okWide_struct Try.underlying24 (hval 0 24 v0 rfl rfl)
  have k0 := h0
  have lt0 : ∀ x ∈ p0, x.block < W.heap.size := by obtain ⟨m, hm⟩ := k0; exact DataW.trod_lt m _ _ _ hm
  obtain ⟨x0, hK0, hQ0⟩ := Rd.arg_struct (Rd.rd_struct (P := Try.prog) (t := 24) (fun x => x) (fun x => x) (fun _ => rfl) Try.underlying24 (by kernel_rfl) (by kernel_rfl) (Rd.rdf_cons (Rd.rd_int (P := Try.prog) (t := 3) (k := .i64) Try.underlying3) (Rd.rdf_cons (Rd.rd_string (P := Try.prog) (t := 9) Try.underlying9) (Rd.rdf_one (Rd.rd_int (P := Try.prog) (t := 22) (k := .u64) Try.underlying22))))) h0 (Rd.weigh (j := 0) hsz rfl rfl)
  obtain ⟨_, _, e0, rfl, ⟨_, _, rfl, rfl, rfl⟩⟩ := hK0
  obtain rfl : cs0 = #[.int .i64 x0.1, .string x0.2.1, .int .u64 x0.2.2] := by cases cs0; simpa using e0
  clear hA0 hval0 hsz0 hsz
  obtain ⟨k, hk⟩ := Pure.KeyBegins x0.1 x0.2.1 x0.2.2 hQ0
  refine (P.screelaw02_KeyBegins.calls k x0.1 x0.2.1 x0.2.2 true W  hk).mono fun e W' ⟨he, bel_⟩ => ?_
  have bel : Below W.heap.size W W' := bel_
  subst he
  exact ⟨_, rfl, _, _, _, [], _, [], hW', trodAll_mk1 (shut_bool Try.underlying4 _), (trodAll_cons_mk (Below.trod laidOut (by kernel_rfl) (of_decide_eq_true (by kernel_rfl)) k0 bel lt0) trodAll_mk0), rfl, bel.frame _, fun h => by cases h⟩
theorem over : Rows.keyBeginsRow.holds Try.pinned (OpenSpec.ofChange Rows.keyBeginsSpec) :=
  OpenClaim.holds_of_wide 9 Try.f9 rfl rfl rfl rfl rfl rfl rfl ⟨rfl, rfl, rfl, rfl, rfl⟩ rfl rfl rfl rfl rfl (by kernel_rfl) Try.func9 (by kernel_rfl)
    (of_decide_eq_true (by kernel_rfl)) (by unfold Func.isWrapper; first | (rw [if_pos (by decide +kernel)]; kernel_rfl) | (rw [if_neg (by decide +kernel)]; exact ⟨rfl, rfl⟩))
    (fun os started H enc _ => lifted os started H enc)
theorem proved : Rows.KeyBeginsSaid := over
#print axioms proved
end Go.Proofs.Ytachminlgcndnaa.keyBegins
namespace Go.Proofs.Ytachminlgcndnaa
/-- The row, under a short name, for the claim. -/
theorem keyBegins_holds : Rows.KeyBeginsSaid := keyBegins.proved
end Go.Proofs.Ytachminlgcndnaa
