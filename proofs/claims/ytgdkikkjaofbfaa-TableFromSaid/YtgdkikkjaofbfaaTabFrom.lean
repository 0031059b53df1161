/- table: the law of the entries from a key on. -/
import Derived.Test.YtgdkikkjaofbfaaTabM
import Derived.Test.YtgdkikkjaofbfaaPx
set_option linter.unusedVariables false
set_option linter.unusedSimpArgs false
namespace Go.Proofs.Ytgdkikkjaofbfaa.TabS
open Go.RowKit Go.Proofs.Ytgdkikkjaofbfaa.P Go.Proofs.Ytgdkikkjaofbfaa.Th Go.Proofs.Ytgdkikkjaofbfaa.NumS Go.Proofs.Ytgdkikkjaofbfaa.BlkS Go.Proofs.Ytgdkikkjaofbfaa.BloomS Go.Proofs.YtgdkikkjaofbfaaW.PrintWords Go.Proofs.YtgdkikkjaofbfaaW.PrintLast Go.Proofs.YtgdkikkjaofbfaaW.PrintMore

theorem preFrom {l : List ES} (hl2 : l.length ≤ 3000000000000) (x : Bool) (K : Nat → ByteArray × List HS × ByteArray × Int → Option Bool) (hK : Tab l → Ev (fun k => K k (lb (bldB l), hs l, fltr l, (l.length : Int))) true) :
    Ev (fun k => screelaw11_TableFrom.pre k l x (K k)) true := by
  unfold screelaw11_TableFrom.pre
  refine Ev.bind awake_ev (Ev.pos rfl (Ev.bind (large_ev l hl2) ?_))
  by_cases hx : lrg l = true ∨ x = true
  · exact Ev.pos hx (Ev.val rfl)
  · refine Ev.neg hx ?_
    have hB := Build_ev l
    unfold bldr at hB
    by_cases ht : tabR l = true
    · rw [if_pos ht] at hB
      refine Ev.bind hB (Ev.pos rfl ?_)
      refine Ev.bind (Open_build ht) ?_
      simp only
      exact Ev.pos trivial (hK (tab_of ht))
    · rw [if_neg ht] at hB
      exact Ev.bind hB (Ev.neg (by decide) (Ev.val rfl))
theorem smFrom (x : ES) : screelaw11_TableFrom.sm x.f0 x.f1 x.f2 x.f3 x := ⟨rfl, rfl, rfl, rfl⟩
theorem cnt_dw (key : List UInt8) : ∀ l : List ES, l.drop (screelaw11_TableFrom.cnt (lb key) l) = l.dropWhile (lessK key)
  | [] => rfl
  | x :: l => by
    unfold screelaw11_TableFrom.cnt
    rw [List.dropWhile_cons]
    unfold lessK
    rw [toL_bl, toL_bl, bl_lb]
    by_cases h : Op.bytesLess (bl x.f0) key = true
    · rw [if_pos h, if_pos h, List.drop_succ_cons]
      exact cnt_dw key l
    · rw [if_neg h, if_neg h, List.drop_zero]
theorem kFrom {l : List ES} (T : Tab l) (key : List UInt8) (N : Int) : Ev (fun k => screelaw11_TableFrom.K k l (lb key) N (lb (bldB l), hs l, fltr l, (l.length : Int))) true := by
  have hl := T.len
  have a0 : screelaw11_TableFrom.at l 0 = l[0] := rdE (by omega)
  have an : screelaw11_TableFrom.at l (l.length - 1) = l[l.length - 1] := rdE (by omega)
  unfold screelaw11_TableFrom.K
  rw [a0, an, cnt_dw]
  refine Ev.bind (Ends_ev T (fltr l) (l.length : Int) l[0] l[l.length - 1] (List.getElem?_eq_getElem _) (List.getElem?_eq_getElem _)) (Ev.pos ⟨smFrom _, smFrom _⟩ ?_)
  refine Ev.bind (From_ev T key N (l.length : Int)) ?_
  have e : (l.dropWhile (lessK key)).take (screelaw11_TableFrom.lim N (l.dropWhile (lessK key)).length) = cutN N (l.dropWhile (lessK key)) := rfl
  rw [e]
  have hle : (cutN N (l.dropWhile (lessK key))).length ≤ 1000000 := by
    have h1 : (cutN N (l.dropWhile (lessK key))).length ≤ (l.dropWhile (lessK key)).length := by unfold cutN; rw [List.length_take]; omega
    have h2 : (l.dropWhile (lessK key)).length ≤ l.length := (List.dropWhile_sublist _).length_le
    omega
  exact Ev.bind (Same_self _ hle) (Ev.pos rfl (Ev.val rfl))
theorem TableFrom : ∀ (l0 : List ES) (a1 : ByteArray) (a2 : Int), (((∀ x ∈ l0, (x.f0.size ≤ 140737488351232 ∧ (Lit.int .u64 x.f1).wf = true ∧ True ∧ x.f3.size ≤ 140737488351232)) ∧ l0.length * 48 ≤ 140737488351232)) → (a1.size ≤ 140737488351232) → ((Lit.int .i64 a2).wf = true) → ∃ k, screelaw11_TableFrom.f k l0 a1 a2 = some true := by
  intro l a1 a2 hl ha _
  have hl2 : l.length ≤ 3000000000000 := by have := hl.2; omega
  refine Ev.rounds ?_
  unfold screelaw11_TableFrom.f
  refine preFrom hl2 _ _ (fun T => ?_)
  have := T.len
  refine Ev.pos (by omega) ?_
  have h := kFrom T (bl a1) a2
  rwa [lb_bl] at h
end Go.Proofs.Ytgdkikkjaofbfaa.TabS
