-- Printed by a program of this session's own (wip/tools/pprint.sh, over the kit's print, with given contracts): not typed by hand.
import Derived.Test.YteijlcnjnooiiaaRows
import Derived.Test.YteijlcnjnooiiaaPx13
import Derived.Test.YteijlcnjnooiiaaPureColWrites
import Derived.Test.YteijlcnjnooiiaaRd
import Derived.WalkKit
import Derived.ProofKit
import Derived.OpenShut
import Derived.ShutString
import Derived.ChangeOld
import Derived.Below
import Derived.SizedLaws
import Derived.Carry
namespace Go.Proofs.Yteijlcnjnooiiaa.colWrites
open Go.ChangeShapes Go.WideShapes Go.ChangeAt Go.RowKit Go.Proofs.YteijlcnjnooiiaaW.PrintWords
open Go.ChangeMaps (open_string shut_string)
set_option linter.unusedVariables false
set_option linter.unusedSimpArgs false
theorem own : ownKnob Try.prog.godebug = none := by kernel_rfl
theorem laidOut : laidOutB Try.prog = true := by kernel_rfl
theorem reads2 : Rd.Rd Try.prog 27 (Kd.slice 51 P.k51) (fun l : List (P.S51) => ((∀ x ∈ l, ((Lit.int .u64 x.f0).wf = true ∧ (Lit.int .u64 x.f1).wf = true ∧ (Lit.int .u64 x.f2).wf = true)) ∧ l.length * 24 ≤ 140737488351232)) := (Rd.rd_slice (P := Try.prog) (t := 27) Try.underlying27 (by kernel_rfl) (B := 24) (by kernel_rfl) (Rd.rd_struct (P := Try.prog) (t := 51) (fun x : P.S51 => (x.f0, x.f1, x.f2)) (fun p => ⟨p.1, p.2.1, p.2.2⟩) (fun _ => rfl) Try.underlying51 (by kernel_rfl) (by kernel_rfl) (Rd.rdf_cons (Rd.rd_int (P := Try.prog) (t := 22) (k := .u64) Try.underlying22) (Rd.rdf_cons (Rd.rd_int (P := Try.prog) (t := 22) (k := .u64) Try.underlying22) (Rd.rdf_one (Rd.rd_int (P := Try.prog) (t := 22) (k := .u64) Try.underlying22))))))
set_option maxRecDepth 100000 in
theorem lifted (os : Os) (started : os.Started) (H : Type) (enc : TypeId × Value → H) :
    ReturnsInHanded {} Try.checked os 3 .any (Rows.colWritesSpec.pre6 enc Try.prog Try.f3 Rows.colWritesRow.domain false) (Rows.colWritesSpec.post enc Try.prog Try.f3 false true false false) := by
  refine returnsInHanded_of_change_sized (C := Try.checked) own started (by kernel_rfl) Try.func3
    (ChangeSpec.witness6 (enc := enc) (C := Try.checked) false ⟨#[], #[.agg #[.string ByteArray.empty, .int .u64 0, .int .i64 0, .int .u64 0], .agg #[.int .u64 0, .int .i64 0], .slice none 0 0], []⟩ 8 (by kernel_rfl) (by kernel_rfl) (by kernel_rfl) (by kernel_rfl)) ?_
  intro W base args ds gs before hval0 hW hcnd hsz0 _
  have hsz : (DataW.weightsEach Try.prog (Try.f3.params.toList ++ Rows.colWritesSpec.plain.varTypes Try.prog) (ds ++ gs)).all (· ≤ reachBytes) = true := hsz0
  have hval : ∀ (j : Nat) t v, Try.f3.params[j]? = some t → args[j]? = some v → Value.okWide Try.prog W .any base t v := hval0
  have hW' := hW
  obtain ⟨p, q, hA0, hV, rfl, hfz, hnd⟩ := hW
  have hA : DataW.TrodAll enc Try.prog W 0 (fun _ => true) true Try.f3.params.toList args.toList ds p := hA0
  rw [Try.params3] at hA hval hsz
  obtain ⟨v0, vs0, d0, ds0, p0, q0, hargs, rfl, rfl, h0, r0⟩ := trodAll_cons hA
  obtain ⟨v1, vs1, d1, ds1, p1, q1, rfl, rfl, rfl, h1, r1⟩ := trodAll_cons r0
  obtain ⟨v2, vs2, d2, ds2, p2, q2, rfl, rfl, rfl, h2, r2⟩ := trodAll_cons r1
  obtain ⟨rfl, rfl, rfl⟩ := trodAll_nil r2
  obtain rfl : args = #[v0, v1, v2] := by cases args; simp_all
  obtain ⟨rfl, rfl⟩ := trodVars_none hV
  obtain ⟨cs0, rfl, _⟩ := okWide_struct Try.underlying24 (hval 0 24 v0 rfl rfl)
  have k0 := h0
  have lt0 : ∀ x ∈ p0, x.block < W.heap.size := by obtain ⟨m, hm⟩ := k0; exact DataW.trod_lt m _ _ _ hm
  obtain ⟨x0, hK0, hQ0⟩ := Rd.arg_struct (Rd.rd_struct (P := Try.prog) (t := 24) (fun x => x) (fun x => x) (fun _ => rfl) Try.underlying24 (by kernel_rfl) (by kernel_rfl) (Rd.rdf_cons (Rd.rd_string (P := Try.prog) (t := 9) Try.underlying9) (Rd.rdf_cons (Rd.rd_int (P := Try.prog) (t := 22) (k := .u64) Try.underlying22) (Rd.rdf_cons (Rd.rd_int (P := Try.prog) (t := 3) (k := .i64) Try.underlying3) (Rd.rdf_one (Rd.rd_int (P := Try.prog) (t := 22) (k := .u64) Try.underlying22)))))) h0 (Rd.weigh (j := 0) hsz rfl rfl)
  obtain ⟨_, _, e0, rfl, ⟨_, _, rfl, rfl, ⟨_, _, rfl, rfl, rfl⟩⟩⟩ := hK0
  obtain rfl : cs0 = #[.string x0.1, .int .u64 x0.2.1, .int .i64 x0.2.2.1, .int .u64 x0.2.2.2] := by cases cs0; simpa using e0
  obtain ⟨cs1, rfl, _⟩ := okWide_struct Try.underlying26 (hval 1 26 v1 rfl rfl)
  have k1 := h1
  have lt1 : ∀ x ∈ p1, x.block < W.heap.size := by obtain ⟨m, hm⟩ := k1; exact DataW.trod_lt m _ _ _ hm
  obtain ⟨x1, hK1, hQ1⟩ := Rd.arg_struct (Rd.rd_struct (P := Try.prog) (t := 26) (fun x => x) (fun x => x) (fun _ => rfl) Try.underlying26 (by kernel_rfl) (by kernel_rfl) (Rd.rdf_cons (Rd.rd_int (P := Try.prog) (t := 22) (k := .u64) Try.underlying22) (Rd.rdf_one (Rd.rd_int (P := Try.prog) (t := 3) (k := .i64) Try.underlying3)))) h1 (Rd.weigh (j := 1) hsz rfl rfl)
  obtain ⟨_, _, e1, rfl, rfl⟩ := hK1
  obtain rfl : cs1 = #[.int .u64 x1.1, .int .i64 x1.2] := by cases cs1; simpa using e1
  obtain ⟨a2, len2, cap2, rfl⟩ := okWide_slice Try.underlying27 (hval 2 27 v2 rfl rfl)
  have k2 := h2
  have lt2 : ∀ x ∈ p2, x.block < W.heap.size := by obtain ⟨m, hm⟩ := k2; exact DataW.trod_lt m _ _ _ hm
  obtain ⟨l2, rfl, hc2, hC2, hQ2⟩ := Rd.arg_slice reads2 h2 (Rd.weigh (j := 2) hsz rfl rfl)
  clear hA0 hval0 hsz0 hsz
  obtain ⟨k, hk⟩ := Pure.ColWrites x0.1 x0.2.1 x0.2.2.1 x0.2.2.2 x1.1 x1.2 l2 hQ0 hQ1 hQ2
  refine (P.screelaw15_ColWrites.calls k x0.1 x0.2.1 x0.2.2.1 x0.2.2.2 x1.1 x1.2 a2 cap2 l2 true W hC2 hc2 hk).mono fun e W' ⟨he, bel_⟩ => ?_
  have bel : Below W.heap.size W W' := bel_
  subst he
  exact ⟨_, rfl, _, _, _, [], _, [], hW', trodAll_mk1 (shut_bool Try.underlying4 _), (trodAll_cons_mk (Below.trod laidOut (by kernel_rfl) (of_decide_eq_true (by kernel_rfl)) k0 bel lt0) (trodAll_cons_mk (Below.trod laidOut (by kernel_rfl) (of_decide_eq_true (by kernel_rfl)) k1 bel lt1) (trodAll_cons_mk (Below.trod laidOut (by kernel_rfl) (of_decide_eq_true (by kernel_rfl)) k2 bel lt2) trodAll_mk0))), rfl, bel.frame _, fun h => by cases h⟩
theorem over : Rows.colWritesRow.holds Try.pinned (OpenSpec.ofChange Rows.colWritesSpec) :=
  OpenClaim.holds_of_wide 3 Try.f3 rfl rfl rfl rfl rfl rfl rfl ⟨rfl, rfl, rfl, rfl, rfl⟩ rfl rfl rfl rfl rfl (by kernel_rfl) Try.func3 (by kernel_rfl)
    (of_decide_eq_true (by kernel_rfl)) (by unfold Func.isWrapper; first | (rw [if_pos (by decide +kernel)]; kernel_rfl) | (rw [if_neg (by decide +kernel)]; exact ⟨rfl, rfl⟩))
    (fun os started H enc _ => lifted os started H enc)
theorem proved : Rows.ColWritesSaid := over
#print axioms proved
end Go.Proofs.Yteijlcnjnooiiaa.colWrites
namespace Go.Proofs.Yteijlcnjnooiiaa
/-- The row, under a short name, for the claim. -/
theorem colWrites_holds : Rows.ColWritesSaid := colWrites.proved
end Go.Proofs.Yteijlcnjnooiiaa
