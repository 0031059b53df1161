/- gc: what is left has nothing that may go. -/
import Derived.Test.YtcdadhgcjkgnoaaPx0
import Derived.Test.YtcdadhgcjkgnoaaPx14
import Derived.Test.YtcdadhgcjkgnoaaGc5
import Derived.Test.YtcdadhgcjkgnoaaGcRd
set_option linter.unusedVariables false
set_option linter.unusedSimpArgs false
namespace Go.Proofs.Ytcdadhgcjkgnoaa.GcS
open Go.RowKit Go.Proofs.Ytcdadhgcjkgnoaa.P Go.Proofs.Ytcdadhgcjkgnoaa.Th Go.Proofs.YtcdadhgcjkgnoaaW.PrintWords Go.Proofs.YtcdadhgcjkgnoaaW.PrintLast Go.Proofs.YtcdadhgcjkgnoaaW.PrintMore

theorem garb_left (s : Int) {l : List ES} (hr : risesB l = true) : garb s (left s l).1 = ([], 0) := by
  have hra := rises_left s hr
  unfold garb
  rw [if_pos hra]
  have : (left s l).1.filter (mayE s (left s l).1) = [] := by
    rw [List.filter_eq_nil_iff]
    intro x hx hm
    have h2 := (mem_left hr).1 hx
    exact (may_iff s hra hx).1 hm ((stays_more (Int.le_refl s) hr h2.1).1 h2.2).2
  rw [this]; rfl
theorem cn_left (s : Int) {l : List ES} (hr : risesB l = true) : cn 1 (left s l).1 = cn 1 l := by
  rw [left_eq s hr]
  unfold cn
  simp only [List.filter_filter]
  congr 2
  refine List.filter_congr fun x hx => ?_
  by_cases h : cf x = 1
  · have : mayE s l x = false := by
      cases hm : mayE s l x with
      | false => rfl
      | true =>
        exfalso
        refine (may_iff s hr hx).1 hm ⟨fun e => ?_, fun e => ?_⟩
        · rw [h] at e; simp at e
        · rw [h] at e; simp at e
    rw [this]; simp [h]
  · simp [h]
theorem clears_go (s : Int) (a : List ES) (hra : risesB a = true) (hst : ∀ x ∈ a, stays s a x) (hf : fits a) : ∀ (rest pre : List ES) (one : List (List UInt8)), a = pre ++ rest → (∀ u ∈ one, ∃ y ∈ pre, cand s u y) → one.length ≤ pre.length → Ev (fun k => screelaw17_GcClears.go k s rest one) ()
  | [], pre, one, _, _, _ => Ev.val rfl
  | x :: rest, pre, one, ha, ho, hl => by
    have hx : x ∈ a := by rw [ha]; simp
    have hsm := hf.2 x hx
    have hu := sx_us x
    have hlen := hf.1
    have hp : pre.length ≤ a.length := by rw [ha]; simp
    have next : ∀ one', (∀ u ∈ one', ∃ y ∈ pre ++ [x], cand s u y) → one'.length ≤ pre.length + 1 → Ev (fun k => screelaw17_GcClears.go k s rest one') () := fun one' h1 h2 =>
      clears_go s a hra hst hf rest (pre ++ [x]) one' (by rw [ha]; simp) h1 (by simpa using h2)
    have keep : ∀ u ∈ one, ∃ y ∈ pre ++ [x], cand s u y := fun u hu => by
      obtain ⟨y, hy, hc⟩ := ho u hu
      exact ⟨y, by simp [hy], hc⟩
    refine Ev.bind (rread_ev x hsm) (Ev.pos ⟨by rw [size_bl]; omega, by omega⟩ ?_)
    rw [sx_cf]
    by_cases h2 : cf x = 2
    · refine Ev.neg (by simp [h2]) ?_
      rw [sx_of (by decide) h2]
      by_cases h3 : s < tm x
      · exact Ev.pos h3 (next one keep (by omega))
      · refine Ev.neg h3 ?_
        have hs := hst x hx
        have hw : stW s a x := by unfold stays at hs; rw [h2] at hs; simpa using hs
        rcases hw with hw | ⟨⟨h4, h5, h6⟩, h7⟩
        · exact absurd hw h3
        · have hcx : cand s (us x) x := ⟨h2, rfl, h5, h4⟩
          have hni : ¬ us x ∈ one := by
            intro hi
            obtain ⟨y, hy, hc⟩ := ho _ hi
            have h8 := h6 y (by rw [ha]; simp [hy]) hc
            have hless : less y x = true := by
              have hr2 := hra
              rw [ha] at hr2
              obtain ⟨p1, p2, rfl⟩ := List.append_of_mem hy
              have : ∀ (m : List ES), risesB (m ++ y :: (p2 ++ x :: rest)) = true → risesB (y :: (p2 ++ x :: rest)) = true := by
                intro m
                induction m with
                | nil => exact id
                | cons z m ih => exact fun h => ih (rises_tail h)
              exact rises_all _ y (this p1 (by simpa using hr2)) x (by simp)
            have := later hc.1 h2 hc.2.1 hless
            omega
          refine Ev.neg hni (Ev.neg (fun e => e h7) ?_)
          refine next (us x :: one) (fun u hu => ?_) (by simp; omega)
          rcases List.mem_cons.1 hu with rfl | hu
          · exact ⟨x, by simp, hcx⟩
          · exact keep u hu
    · exact Ev.pos h2 (next one keep (by omega))
theorem GcClears : ∀ (l0 : List ES) (a1 : Int), (((∀ x ∈ l0, (x.f0.size ≤ 140737488351232 ∧ (Lit.int .u64 x.f1).wf = true ∧ True ∧ x.f3.size ≤ 140737488351232)) ∧ l0.length * 48 ≤ 140737488351232)) → ((Lit.int .u64 a1).wf = true) → ∃ k, screelaw17_GcClears.f k l0 a1 = some true := by
  intro l s _ _
  refine Ev.rounds ?_
  unfold screelaw17_GcClears.f
  refine Ev.bind awake_ev (Ev.pos rfl (Ev.bind (large_ev l) ?_))
  cases hg : lrg l with
  | true => exact Ev.pos rfl (Ev.val rfl)
  | false =>
    obtain ⟨h80, hf⟩ := lrg_no hg
    refine Ev.neg (by simp) (Ev.bind (Left_ev s l hf) ?_)
    cases hr : risesB l with
    | false =>
      have e : left s l = ([], 2) := by unfold left; rw [hr]; rfl
      rw [e]
      exact Ev.pos (by simp) (Ev.val rfl)
    | true =>
      have h0 : (left s l).2 = 0 := by rw [left_eq s hr]
      have hfa := fits_left s hr hf
      have hra := rises_left s hr
      have hst : ∀ x ∈ (left s l).1, stays s (left s l).1 x := fun x hx => by
        have h2 := (mem_left hr).1 hx
        exact ((stays_more (Int.le_refl s) hr h2.1).1 h2.2).2
      have hga := Garbage_ev s (left s l).1 hfa
      rw [garb_left s hr] at hga
      refine Ev.neg (by simp [h0]) (Ev.bind hga (Ev.pos ⟨rfl, rfl⟩ (Ev.bind (clears_go s _ hra hst hfa (left s l).1 [] [] rfl (by simp) (by simp)) (Ev.bind (Counts_ev l hf) (Ev.bind (Counts_ev _ hfa) ?_)))))
      exact Ev.pos (cn_left s hr).symm (Ev.val rfl)
end Go.Proofs.Ytcdadhgcjkgnoaa.GcS
