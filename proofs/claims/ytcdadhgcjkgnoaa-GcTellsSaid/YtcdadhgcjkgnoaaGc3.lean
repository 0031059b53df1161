/- gc: awake. -/
import Derived.Test.YtcdadhgcjkgnoaaPx0
import Derived.Test.YtcdadhgcjkgnoaaPx8
import Derived.Test.YtcdadhgcjkgnoaaPx9
import Derived.Test.YtcdadhgcjkgnoaaPx11
import Derived.Test.YtcdadhgcjkgnoaaGc2
set_option linter.unusedVariables false
set_option linter.unusedSimpArgs false
namespace Go.Proofs.Ytcdadhgcjkgnoaa.GcS
open Go.RowKit Go.Proofs.Ytcdadhgcjkgnoaa.P Go.Proofs.Ytcdadhgcjkgnoaa.Th Go.Proofs.YtcdadhgcjkgnoaaW.PrintWords Go.Proofs.YtcdadhgcjkgnoaaW.PrintLast Go.Proofs.YtcdadhgcjkgnoaaW.PrintMore

def kW (t : Nat) : List UInt8 := KeyS.kb 2 [97] t
def kD (t : Nat) : List UInt8 := KeyS.kb 3 [97] t
theorem W_f0 (t st kd : Nat) : (W t st kd).f0 = lb (kW t) := rfl
theorem D_f0 (t : Nat) (v : List UInt8) : (Dt t v).f0 = lb (kD t) := rfl
theorem D_f3 (t : Nat) (v : List UInt8) : (Dt t v).f3 = lb v := rfl
def L : List ES := [W 9 8 1, W 7 7 3, W 5 4 1, W 3 2 2, Dt 8 [120], Dt 4 [121], Dt 2 [122]]
theorem ok1 : ColS.okW ((8 : Nat) : Int) ((1 : Nat) : Int) := ⟨by decide, by decide, by decide⟩
theorem ok2 : ColS.okW ((7 : Nat) : Int) ((3 : Nat) : Int) := ⟨by decide, by decide, by decide⟩
theorem ok3 : ColS.okW ((4 : Nat) : Int) ((1 : Nat) : Int) := ⟨by decide, by decide, by decide⟩
theorem ok4 : ColS.okW ((2 : Nat) : Int) ((2 : Nat) : Int) := ⟨by decide, by decide, by decide⟩
theorem x1 : rxE (W 9 8 1) = (⟨2, lb [97], 9, ⟨#[]⟩, 0, 0, 0, 8, 1⟩, true) := rxW 9 8 1 (by decide) ok1
theorem x2 : rxE (W 7 7 3) = (⟨2, lb [97], 7, ⟨#[]⟩, 0, 0, 0, 7, 3⟩, true) := rxW 7 7 3 (by decide) ok2
theorem x3 : rxE (W 5 4 1) = (⟨2, lb [97], 5, ⟨#[]⟩, 0, 0, 0, 4, 1⟩, true) := rxW 5 4 1 (by decide) ok3
theorem x4 : rxE (W 3 2 2) = (⟨2, lb [97], 3, ⟨#[]⟩, 0, 0, 0, 2, 2⟩, true) := rxW 3 2 2 (by decide) ok4
theorem x5 : rxE (Dt 8 [120]) = (⟨3, lb [97], 8, ⟨#[]⟩, 0, 0, 0, 0, 0⟩, true) := rxD 8 [120] (by decide)
theorem x6 : rxE (Dt 4 [121]) = (⟨3, lb [97], 4, ⟨#[]⟩, 0, 0, 0, 0, 0⟩, true) := rxD 4 [121] (by decide)
theorem x7 : rxE (Dt 2 [122]) = (⟨3, lb [97], 2, ⟨#[]⟩, 0, 0, 0, 0, 0⟩, true) := rxD 2 [122] (by decide)
theorem risesL : risesB L = true := by
  unfold L
  simp only [risesB, less, W_f0, D_f0, bl_lb]
  decide +kernel
theorem fall2 : risesB [W 7 7 3, W 9 8 1] = false := by
  simp only [risesB, less, W_f0, bl_lb]
  decide +kernel
theorem kne (a b : Nat) : (kW a == kW b) = decide (kW a = kW b) := by rw [Bool.eq_iff_iff]; simp
theorem n97 : kW 9 ≠ kW 7 := by decide +kernel
theorem n93 : kW 9 ≠ kW 3 := by decide +kernel
theorem n57 : kW 5 ≠ kW 7 := by decide +kernel
theorem n53 : kW 5 ≠ kW 3 := by decide +kernel
theorem n73 : kW 7 ≠ kW 3 := by decide +kernel
theorem nd8 : nd 8 L [] [] [] = ([([97], 4), ([97], 8)], [kW 3, kW 7]) := by
  simp [L, nd, x1, x2, x3, x4, x5, x6, x7, gc_needed.nx, bl_lb, W_f0, D_f0]
theorem nd4 : nd 4 L [] [] [] = ([([97], 4), ([97], 8)], [kW 3]) := by
  simp [L, nd, x1, x2, x3, x4, x5, x6, x7, gc_needed.nx, bl_lb, W_f0, D_f0]
theorem gL : garb 8 L = ([lb (kW 7), lb (kW 3), lb (kD 2)], 0) := by
  unfold garb
  rw [if_pos risesL]
  have e : L.filter (mayE 8 L) = [W 7 7 3, W 3 2 2, Dt 2 [122]] := by
    unfold mayE
    rw [nd8]
    simp [L, List.filter_cons, goesE, x1, x2, x3, x4, x5, x6, x7, gc_part.goes, bl_lb, W_f0, D_f0, n97, n93, n57, n53, n73]
  rw [e]; rfl
theorem lL : (left 4 L).1.length = 5 ∧ (left 4 L).2 = 0 := by
  unfold left
  rw [if_pos risesL]
  have e : L.filter (fun x => !mayE 4 L x) = [W 9 8 1, W 7 7 3, W 5 4 1, Dt 8 [120], Dt 4 [121]] := by
    unfold mayE
    rw [nd4]
    simp [L, List.filter_cons, goesE, x1, x2, x3, x4, x5, x6, x7, gc_part.goes, bl_lb, W_f0, D_f0, n93, n53, n73]
  rw [e]; exact ⟨rfl, rfl⟩
theorem v8 : vis L (lb [97]) 8 = (lb [121], true) := by
  unfold vis
  rw [if_pos risesL]
  have e : vs (lb [97]) 8 L 0 0 [] = (4, 1, [(2, [122]), (4, [121]), (8, [120])]) := by
    simp [L, vs, x1, x2, x3, x4, x5, x6, x7, gc_Visible.nx, lb_toList, D_f3]
    simp [lb]
  rw [e]
  simp [gc_Visible.fin, Mp.tget, lb]
theorem v4 : (vis L (lb [97]) 4).2 = false := by
  unfold vis
  rw [if_pos risesL]
  have e : (vs (lb [97]) 4 L 0 0 []).2.1 = 2 := by
    simp [L, vs, x1, x2, x3, x4, x5, x6, x7, gc_Visible.nx, lb_toList]
  unfold gc_Visible.fin
  rw [e]
  simp
theorem cL : cn 1 L = 0 ∧ cn 2 L = 4 ∧ cn 3 L = 3 := by
  unfold cn
  simp [L, List.filter_cons, cf, x1, x2, x3, x4, x5, x6, x7]
theorem fitsL : fits L := by
  refine ⟨by unfold L; simp, fun x hx => ?_⟩
  have hk : ∀ (c t : Nat), (KeyS.kb c [97] t).length ≤ 59 := fun c t => KeyS.kb_len c t (by simp)
  have hw : ∀ {a b : Int}, ColS.okW a b → (ColS.wrB a b).length ≤ 20 := fun {a b} h => by
    unfold ColS.wrB
    have := ColS.sh_len (ColS.tm_u h.1)
    rw [List.length_append]; simp [ofI]; omega
  unfold small
  unfold L at hx
  simp only [List.mem_cons, List.not_mem_nil, or_false] at hx
  rcases hx with rfl | rfl | rfl | rfl | rfl | rfl | rfl
  · exact ⟨by rw [W_f0, bl_lb]; have := hk 2 9; unfold kW; omega, by unfold W; rw [bl_lb]; have := hw ok1; omega⟩
  · exact ⟨by rw [W_f0, bl_lb]; have := hk 2 7; unfold kW; omega, by unfold W; rw [bl_lb]; have := hw ok2; omega⟩
  · exact ⟨by rw [W_f0, bl_lb]; have := hk 2 5; unfold kW; omega, by unfold W; rw [bl_lb]; have := hw ok3; omega⟩
  · exact ⟨by rw [W_f0, bl_lb]; have := hk 2 3; unfold kW; omega, by unfold W; rw [bl_lb]; have := hw ok4; omega⟩
  · exact ⟨by rw [D_f0, bl_lb]; have := hk 3 8; unfold kD; omega, by unfold Dt; rw [bl_lb]; simp⟩
  · exact ⟨by rw [D_f0, bl_lb]; have := hk 3 4; unfold kD; omega, by unfold Dt; rw [bl_lb]; simp⟩
  · exact ⟨by rw [D_f0, bl_lb]; have := hk 3 2; unfold kD; omega, by unfold Dt; rw [bl_lb]; simp⟩
theorem awake_ev : Ev (fun k => screelaw17_awake.f k) true := by
  unfold screelaw17_awake.f
  refine Ev.bind (write_ev 9 8 1 (by decide) ok1) (Ev.bind (write_ev 7 7 3 (by decide) ok2) (Ev.bind (write_ev 5 4 1 (by decide) ok3) (Ev.bind (write_ev 3 2 2 (by decide) ok4) (Ev.bind (data_ev 8 [120] (by decide)) (Ev.bind (data_ev 4 [121] (by decide)) (Ev.bind (data_ev 2 [122] (by decide)) ?_))))))
  refine Ev.just (a := L) rfl ?_
  refine Ev.bind (Garbage_ev 8 L fitsL) (Ev.bind (Left_ev 4 L fitsL) (Ev.bind (Visible_ev L (lb [97]) 8 fitsL) (Ev.bind (Visible_ev L (lb [97]) 4 fitsL) (Ev.bind (Counts_ev L fitsL) ?_))))
  refine Ev.pos (by decide) (Ev.pos (by decide) ?_)
  have fits2 : fits [W 7 7 3, W 9 8 1] := fits_sub fitsL (by unfold L; simp) (fun x hx => by unfold L; simp at hx ⊢; rcases hx with rfl | rfl <;> simp)
  have hg := Garbage_ev 8 [W 7 7 3, W 9 8 1] fits2
  have e2 : garb 8 [W 7 7 3, W 9 8 1] = ([], 2) := by unfold garb; rw [fall2]; rfl
  rw [e2] at hg
  refine Ev.bind hg ?_
  rw [gL, v8]
  have hl := lL
  have hv := v4
  have hc := cL
  refine Ev.pos (by simp) (Ev.pos (by simp) (Ev.pos rfl (Ev.pos (by simp) (Ev.pos (by decide) (Ev.pos rfl (Ev.pos (by simp) (Ev.pos (by decide) (Ev.pos rfl (Ev.pos rfl ?_)))))))))
  refine Ev.pos (by rw [hl.1]; rfl) (Ev.pos hl.2 (Ev.pos (lb_toList _) (Ev.pos rfl (Ev.neg (by rw [hv]; simp) ?_))))
  exact Ev.pos hc.1 (Ev.pos hc.2.1 (Ev.pos hc.2.2 (Ev.val rfl)))
end Go.Proofs.Ytcdadhgcjkgnoaa.GcS
