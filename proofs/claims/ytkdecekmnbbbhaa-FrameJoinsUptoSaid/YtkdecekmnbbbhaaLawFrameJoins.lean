-- Printed by a program of this session's own (wip/tools/pprint.sh, over the kit's print, with given contracts): not typed by hand.
import Derived.Test.YtkdecekmnbbbhaaRows
import Derived.Test.YtkdecekmnbbbhaaPx7
import Derived.Test.YtkdecekmnbbbhaaPureFrameJoins
import Derived.Test.YtkdecekmnbbbhaaRd
import Derived.WalkKit
import Derived.ProofKit
import Derived.OpenShut
import Derived.ShutString
import Derived.ChangeOld
import Derived.Below
import Derived.SizedLaws
import Derived.Carry
import Derived.JoinedCond
import Derived.Deep.CondSized
namespace Go.Proofs.Ytkdecekmnbbbhaa.frameJoins
open Go.ChangeShapes Go.WideShapes Go.ChangeAt Go.RowKit Go.Proofs.YtkdecekmnbbbhaaW.PrintWords
open Go.ChangeMaps (open_string shut_string)
set_option linter.unusedVariables false
set_option linter.unusedSimpArgs false
theorem own : ownKnob Try.prog.godebug = none := by kernel_rfl
theorem laidOut : laidOutB Try.prog = true := by kernel_rfl
theorem reads0 : Rd.Rd Try.prog 22 (Kd.slice 9 Kd.string) (fun l : List ByteArray => ((∀ x ∈ l, x.size ≤ 140737488351232) ∧ l.length * 16 ≤ 140737488351232)) := (Rd.rd_slice (P := Try.prog) (t := 22) Try.underlying22 (by kernel_rfl) (B := 16) (by kernel_rfl) (Rd.rd_string (P := Try.prog) (t := 9) Try.underlying9))
theorem reads1 : Rd.Rd Try.prog 22 (Kd.slice 9 Kd.string) (fun l : List ByteArray => ((∀ x ∈ l, x.size ≤ 140737488351232) ∧ l.length * 16 ≤ 140737488351232)) := (Rd.rd_slice (P := Try.prog) (t := 22) Try.underlying22 (by kernel_rfl) (B := 16) (by kernel_rfl) (Rd.rd_string (P := Try.prog) (t := 9) Try.underlying9))
theorem one_le {H : Type} (d : DataW H) : 1 ≤ Rows.uptoBulk d := by
  cases d with
  | lit l => cases l <;> simp [Rows.uptoBulk]
  | _ => simp [Rows.uptoBulk]
theorem length_le {H : Type} : ∀ (l : List (DataW H)), l.length ≤ Rows.uptoBulkAll l
  | [] => by simp [Rows.uptoBulkAll]
  | x :: r => by have := one_le x; have := length_le r; simp only [Rows.uptoBulkAll, List.length_cons]; omega
set_option maxRecDepth 100000 in
theorem lifted (os : Os) (started : os.Started) (H : Type) (enc : TypeId × Value → H) (F : Stop.Interp) :
    ReturnsInHanded {} Try.checked os 8 .any ((Rows.OpenSpec.upto Rows.frameJoinsSpec).pre6 enc Try.prog Try.f8 Rows.frameJoinsUptoRow.domain false) (((Rows.OpenSpec.upto Rows.frameJoinsSpec).at F).post enc Try.prog Try.f8 false true false false) := by
  refine returnsInHanded_of_cond_sized (C := Try.checked) (s := Rows.OpenSpec.upto Rows.frameJoinsSpec) (k := Rows.uptoSmall) rfl own started (by kernel_rfl) Try.func8
    (OpenSpec.witness (enc := enc) (C := Try.checked) (s := Rows.OpenSpec.upto Rows.frameJoinsSpec) (k := Rows.uptoSmall) rfl false ⟨#[], #[.slice none 0 0, .slice none 0 0], []⟩ 8 (by kernel_rfl) (by kernel_rfl) (by kernel_rfl) (x := ([.nil, .nil], [], [])) (by kernel_rfl) rfl (by kernel_rfl)) ?_
  intro W base args ds gs before hval0 hW hcnd hbk hsz0 _
  have hsz : (DataW.weightsEach Try.prog (Try.f8.params.toList ++ Rows.frameJoinsSpec.plain.varTypes Try.prog) (ds ++ gs)).all (· ≤ reachBytes) = true := hsz0
  have hval : ∀ (j : Nat) t v, Try.f8.params[j]? = some t → args[j]? = some v → Value.okWide Try.prog W .any base t v := hval0
  have hW' := hW
  obtain ⟨p, q, hA0, hV, rfl, hfz, hnd⟩ := hW
  have hA : DataW.TrodAll enc Try.prog W 0 (fun _ => true) true Try.f8.params.toList args.toList ds p := hA0
  rw [Try.params8] at hA hval hsz
  obtain ⟨v0, vs0, d0, ds0, p0, q0, hargs, rfl, rfl, h0, r0⟩ := trodAll_cons hA
  obtain ⟨v1, vs1, d1, ds1, p1, q1, rfl, rfl, rfl, h1, r1⟩ := trodAll_cons r0
  obtain ⟨rfl, rfl, rfl⟩ := trodAll_nil r1
  obtain rfl : args = #[v0, v1] := by cases args; simp_all
  obtain ⟨rfl, rfl⟩ := trodVars_none hV
  obtain ⟨a0, len0, cap0, rfl⟩ := okWide_slice Try.underlying22 (hval 0 22 v0 rfl rfl)
  have k0 := h0
  have lt0 : ∀ x ∈ p0, x.block < W.heap.size := by obtain ⟨m, hm⟩ := k0; exact DataW.trod_lt m _ _ _ hm
  obtain ⟨l0, rfl, hc0, hC0, hQ0⟩ := Rd.arg_slice reads0 h0 (Rd.weigh (j := 0) hsz rfl rfl)
  obtain ⟨a1, len1, cap1, rfl⟩ := okWide_slice Try.underlying22 (hval 1 22 v1 rfl rfl)
  have k1 := h1
  have lt1 : ∀ x ∈ p1, x.block < W.heap.size := by obtain ⟨m, hm⟩ := k1; exact DataW.trod_lt m _ _ _ hm
  obtain ⟨l1, rfl, hc1, hC1, hQ1⟩ := Rd.arg_slice reads1 h1 (Rd.weigh (j := 1) hsz rfl rfl)
  have hB := of_decide_eq_true hbk
  simp only [Rows.uptoBulkAll, List.cons_append, List.nil_append, List.append_nil] at hB
  clear hbk
  have u0 : l0.length ≤ 1048576 := by
    rcases Rd.arg_len Try.underlying22 h0 with e | ⟨el, sp, rfl, e⟩
    · omega
    · have := length_le el
      simp only [Rows.uptoBulk] at hB
      omega
  have u1 : l1.length ≤ 1048576 := by
    rcases Rd.arg_len Try.underlying22 h1 with e | ⟨el, sp, rfl, e⟩
    · omega
    · have := length_le el
      simp only [Rows.uptoBulk] at hB
      omega
  clear hA0 hval0 hsz0 hsz
  obtain ⟨k, hk⟩ := Pure.FrameJoins l0 l1 hQ0 u0 hQ1 u1
  refine (P.screelaw04_FrameJoins.calls k a0 cap0 l0 a1 cap1 l1 true W hC0 hc0 hC1 hc1 hk).mono fun e W' ⟨he, bel_⟩ => ?_
  have bel : Below W.heap.size W W' := bel_
  subst he
  exact ⟨_, rfl, _, _, _, [], _, [], hW', trodAll_mk1 (shut_bool Try.underlying4 _), (trodAll_cons_mk (Below.trod laidOut (by kernel_rfl) (of_decide_eq_true (by kernel_rfl)) k0 bel lt0) (trodAll_cons_mk (Below.trod laidOut (by kernel_rfl) (of_decide_eq_true (by kernel_rfl)) k1 bel lt1) trodAll_mk0)), rfl, bel.frame _, fun h => by cases h⟩
theorem over : Rows.frameJoinsUptoRow.holds Try.pinned (Rows.OpenSpec.upto Rows.frameJoinsSpec) :=
  OpenClaim.holds_of_cond 8 Try.f8 rfl rfl rfl rfl rfl rfl rfl ⟨rfl, rfl, rfl, rfl, rfl⟩ rfl rfl rfl rfl rfl (by kernel_rfl) Try.func8 (by kernel_rfl)
    (of_decide_eq_true (by kernel_rfl)) (by unfold Func.isWrapper; first | (rw [if_pos (by decide +kernel)]; kernel_rfl) | (rw [if_neg (by decide +kernel)]; exact ⟨rfl, rfl⟩))
    (fun os started H enc _ F => lifted os started H enc F)
theorem proved : Rows.FrameJoinsUptoSaid := over
#print axioms proved
end Go.Proofs.Ytkdecekmnbbbhaa.frameJoins
namespace Go.Proofs.Ytkdecekmnbbbhaa
/-- The row, under a short name, for the claim. -/
theorem frameJoins_holds : Rows.FrameJoinsUptoSaid := frameJoins.proved
end Go.Proofs.Ytkdecekmnbbbhaa
