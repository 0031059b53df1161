/- gc: what is visible at the safepoint, or later, is so in what is left. -/
import Derived.Test.YtcdadhgcjkgnoaaPx0
import Derived.Test.YtcdadhgcjkgnoaaPx9
import Derived.Test.YtcdadhgcjkgnoaaPx12
import Derived.Test.YtcdadhgcjkgnoaaGcMore
set_option linter.unusedVariables false
set_option linter.unusedSimpArgs false
namespace Go.Proofs.Ytcdadhgcjkgnoaa.GcS
open Go.RowKit Go.Proofs.Ytcdadhgcjkgnoaa.P Go.Proofs.Ytcdadhgcjkgnoaa.Th Go.Proofs.YtcdadhgcjkgnoaaW.PrintWords Go.Proofs.YtcdadhgcjkgnoaaW.PrintLast Go.Proofs.YtcdadhgcjkgnoaaW.PrintMore

/-- The first write that may show. -/
def cnd (u : List UInt8) (T : Int) (x : ES) : Bool := decide (cf x = 2) && (decide (us x = u) && (decide (wk x ≠ 3) && decide (tm x ≤ T)))
theorem cnd_iff {u : List UInt8} {T : Int} {x : ES} : cnd u T x = true ↔ cand T u x := by
  unfold cnd cand
  simp only [Bool.and_eq_true, decide_eq_true_eq]
def isD (u : List UInt8) (x : ES) : Bool := decide (cf x = 3) && decide (us x = u)
def pairs (u : List UInt8) (l : List ES) : List (Int × List UInt8) := (l.filter (isD u)).map (fun x => (tm x, bl x.f3))
def lastW (o : Option ES) (a b : Int) : Int × Int := match o with
  | none => (a, b)
  | some x => (ws x, wk x)
theorem nx_eq (u : List UInt8) (T : Int) (x : ES) (a b : Int) (M : List (Int × List UInt8)) :
    gc_Visible.nx (lb u) T x.f3 (rxE x).1 (rxE x).2 a b M = (if isD u x = true then (a, b, (tm x, bl x.f3) :: M) else if cnd u T x = true ∧ b = 0 then (ws x, wk x, M) else (a, b, M)) := by
  have hu : (rxE x).1.us.toList = us x := toL_bl _
  unfold gc_Visible.nx isD cnd
  rw [hu, lb_toList]
  rcases cf_cases x with ⟨hk, hc⟩ | ⟨hk, hc, _⟩
  · rw [if_pos (Or.inl hk), hc]; simp
  · by_cases h1 : us x = u
    · rw [if_neg (by simp [hk, h1])]
      have hD : ((decide (cf x = 3) && decide (us x = u)) = true) ↔ (rxE x).1.cf = 3 := by rw [hc]; simp [h1]
      have hC : ((decide (cf x = 2) && (decide (us x = u) && (decide (wk x ≠ 3) && decide (tm x ≤ T)))) = true ∧ b = 0) ↔ ((rxE x).1.cf = 2 ∧ (rxE x).1.tm ≤ T ∧ ¬ (rxE x).1.wk = 3 ∧ b = 0) := by
        rw [hc]
        simp only [h1, Bool.and_eq_true, decide_eq_true_eq, true_and, decide_true]
        exact ⟨fun z => ⟨z.1.1, z.1.2.2, z.1.2.1, z.2⟩, fun z => ⟨⟨z.1, z.2.2.1, z.2.1⟩, z.2.2.2⟩⟩
      by_cases h2 : (rxE x).1.cf = 3
      · rw [if_pos h2]; exact (if_pos (hD.2 h2)).symm
      · rw [if_neg h2]
        refine Eq.trans ?_ (if_neg (fun z => h2 (hD.1 z))).symm
        by_cases h3 : (rxE x).1.cf = 2 ∧ (rxE x).1.tm ≤ T ∧ ¬ (rxE x).1.wk = 3 ∧ b = 0
        · rw [if_pos h3]; exact (if_pos (hC.2 h3)).symm
        · rw [if_neg h3]; exact (if_neg (fun z => h3 (hC.1 z))).symm
    · rw [if_pos (Or.inr h1), if_neg (by simp [h1]), if_neg (by simp [h1])]
theorem cand_kind {u : List UInt8} {T : Int} {x : ES} (h : cand T u x) : wk x ≠ 0 := by
  obtain ⟨hk, hc⟩ := cf_ok (by decide) h.1
  unfold wk
  unfold rxE rx at hk hc ⊢
  rcases rdr_all (bl x.f0) with e | ⟨c, v, t, e, hg, hs⟩
  · rw [e, if_pos (by simp)] at hk; simp at hk
  · rw [e, if_neg (by simp)] at hk hc ⊢
    by_cases h2 : (c : Int) = 1
    · rw [if_pos h2] at hc; simp only at hc; omega
    · rw [if_neg h2] at hk hc ⊢
      by_cases h3 : (c : Int) = 2
      · rw [if_pos h3] at hk hc ⊢
        rcases ColS.uwr_cases (bl x.f3) with e2 | ⟨st, kd, h1, _, e2⟩
        · rw [e2] at hk; simp [ColS.no2] at hk
        · rw [e2]; have := h1.2.1; simp only; omega
      · rw [if_neg h3] at hc; simp only at hc; omega
theorem vs_eq (u : List UInt8) (T : Int) : ∀ (l : List ES) (a b : Int) (M : List (Int × List UInt8)),
    vs (lb u) T l a b M = ((if b = 0 then lastW (l.find? (cnd u T)) a b else (a, b)).1, (if b = 0 then lastW (l.find? (cnd u T)) a b else (a, b)).2, (pairs u l).reverse ++ M)
  | [], a, b, M => by
    by_cases h : b = 0 <;> simp [vs, lastW, pairs, h]
  | x :: l, a, b, M => by
    rw [vs, nx_eq, List.find?_cons]
    by_cases h1 : isD u x = true
    · have h2 : cnd u T x = false := by
        unfold isD at h1; unfold cnd
        simp only [Bool.and_eq_true, decide_eq_true_eq] at h1
        rw [h1.1]; simp
      rw [if_pos h1, h2]
      simp only
      rw [vs_eq u T l a b _]
      have e : pairs u (x :: l) = (tm x, bl x.f3) :: pairs u l := by unfold pairs; rw [List.filter_cons, if_pos h1]; rfl
      rw [e]; simp
    · have e : pairs u (x :: l) = pairs u l := by unfold pairs; rw [List.filter_cons, if_neg h1]
      rw [if_neg h1, e]
      by_cases h2 : cnd u T x = true
      · rw [h2]
        by_cases h3 : b = 0
        · have hk := cand_kind (cnd_iff.1 h2)
          rw [if_pos ⟨rfl, h3⟩]
          simp only
          rw [vs_eq u T l _ _ M, if_neg hk, if_pos h3]
          simp [lastW]
        · rw [if_neg (fun z => h3 z.2)]
          simp only
          rw [vs_eq u T l a b M, if_neg h3, if_neg h3]
      · rw [if_neg (fun z => h2 z.1)]
        have h2' : cnd u T x = false := by simpa using h2
        rw [h2']
        simp only
        rw [vs_eq u T l a b M]
theorem tget_app (M N : List (Int × List UInt8)) (x : Int) : Mp.tget (M ++ N) x = (Mp.tget M x).or (Mp.tget N x) := by
  unfold Mp.tget
  rw [List.find?_append]
  cases List.find? (fun p => decide (p.1 = x)) M <;> simp
theorem tget_filter (M : List (Int × List UInt8)) (x : Int) : Mp.tget (M.filter (fun p => decide (p.1 = x))) x = Mp.tget M x := by
  unfold Mp.tget
  rw [List.find?_filter]
  congr 1
  congr 1
  funext p
  simp
theorem vis_eq (u : List UInt8) (T : Int) {l : List ES} (hr : risesB l = true) : vis l (lb u) T = gc_Visible.fin (lastW (l.find? (cnd u T)) 0 0).1 (lastW (l.find? (cnd u T)) 0 0).2 (pairs u l).reverse := by
  unfold vis
  rw [if_pos hr, vs_eq]
  simp
theorem find_first {l : List ES} (hr : risesB l = true) {p : ES → Bool} {x : ES} (h : l.find? p = some x) : x ∈ l ∧ p x = true ∧ ∀ y ∈ l, p y = true → y = x ∨ less x y = true := by
  induction l with
  | nil => simp at h
  | cons z l ih =>
    have hall := rises_all l z hr
    rw [List.find?_cons] at h
    cases hz : p z with
    | true =>
      rw [hz] at h
      simp only [Option.some.injEq] at h
      subst h
      refine ⟨by simp, hz, fun y hy _ => ?_⟩
      rcases List.mem_cons.1 hy with rfl | hy
      · exact Or.inl rfl
      · exact Or.inr (hall y hy)
    | false =>
      rw [hz] at h
      obtain ⟨h1, h2, h3⟩ := ih (rises_tail hr) h
      refine ⟨by simp [h1], h2, fun y hy hp => ?_⟩
      rcases List.mem_cons.1 hy with rfl | hy
      · rw [hz] at hp; simp at hp
      · exact h3 y hy hp
theorem tget_same (u : List UInt8) (t : Int) (p : ES → Bool) : ∀ (l : List ES), (∀ x ∈ l, isD u x = true → tm x = t → p x = true) → (pairs u (l.filter p)).filter (fun q => decide (q.1 = t)) = (pairs u l).filter (fun q => decide (q.1 = t))
  | [], _ => rfl
  | x :: l, h => by
    have ih := tget_same u t p l (fun y hy => h y (by simp [hy]))
    have e : ∀ (m : List ES), pairs u (x :: m) = (if isD u x = true then [(tm x, bl x.f3)] else []) ++ pairs u m := fun m => by
      unfold pairs
      rw [List.filter_cons]
      split <;> simp
    rw [List.filter_cons, e l]
    by_cases hp : p x = true
    · rw [if_pos hp, e, List.filter_append, List.filter_append, ih]
    · rw [if_neg hp, ih, List.filter_append]
      have : (if isD u x = true then [(tm x, bl x.f3)] else []).filter (fun q => decide (q.1 = t)) = ([] : List (Int × List UInt8)) := by
        by_cases hd : isD u x = true
        · have ht : tm x ≠ t := fun e => hp (h x (by simp) hd e)
          rw [if_pos hd]; simp [ht]
        · rw [if_neg hd]; rfl
      rw [this]; rfl
theorem fin_none (a : Int) (M : List (Int × List UInt8)) : gc_Visible.fin a 0 M = (⟨#[]⟩, false) := by unfold gc_Visible.fin; rw [if_neg (by simp)]
theorem sees (u : List UInt8) {s T : Int} (hsT : s ≤ T) {l : List ES} (hr : risesB l = true) : vis (left s l).1 (lb u) T = vis l (lb u) T := by
  have hra := rises_left s hr
  rw [vis_eq u T hr, vis_eq u T hra]
  have ha : (left s l).1 = l.filter (fun x => !mayE s l x) := by rw [left_eq s hr]
  have memA := @mem_left s l hr
  cases hf : l.find? (cnd u T) with
  | none =>
    have hfa : (left s l).1.find? (cnd u T) = none := by
      rw [List.find?_eq_none] at hf ⊢
      exact fun x hx => hf x (memA.1 hx).1
    rw [hfa]
    simp only [lastW]
    rw [fin_none, fin_none]
  | some x =>
    obtain ⟨hx, hpx, hfst⟩ := find_first hr hf
    have hcx := cnd_iff.1 hpx
    by_cases hs : stays s l x
    · have hxa := memA.2 ⟨hx, hs⟩
      have hfa : (left s l).1.find? (cnd u T) = some x := by
        cases hf2 : (left s l).1.find? (cnd u T) with
        | none => rw [List.find?_eq_none] at hf2; exact absurd hpx (hf2 x hxa)
        | some y =>
          obtain ⟨hy, hpy, h2⟩ := find_first hra hf2
          rcases h2 x hxa hpx with e | e
          · rw [e]
          · rcases hfst y (memA.1 hy).1 hpy with e2 | e2
            · rw [e2]
            · have := less_ne (less_trans e e2); exact absurd rfl this
      rw [hfa]
      simp only [lastW]
      by_cases hk : wk x = 1
      · have hst : stW s l x := by unfold stays at hs; rw [hcx.1] at hs; simpa using hs
        have h := tget_same u (ws x) (fun x => !mayE s l x) l (fun y hy hd ht => by
          unfold isD at hd
          simp only [Bool.and_eq_true, decide_eq_true_eq] at hd
          have hsy : stays s l y := by
            refine ⟨fun e => by rw [hd.1] at e; simp at e, fun _ => ⟨x, hx, ?_, Or.inr ⟨hcx.1, hk, ht.symm, hst⟩⟩⟩
            rw [hd.2]; exact hcx.2.1
          cases hm : mayE s l y with
          | false => rfl
          | true => exact absurd hsy ((may_iff s hr hy).1 hm))
        have ht : Mp.tget (pairs u (left s l).1).reverse (ws x) = Mp.tget (pairs u l).reverse (ws x) := by
          rw [← tget_filter (pairs u (left s l).1).reverse, ← tget_filter (pairs u l).reverse, List.filter_reverse, List.filter_reverse, ha, h]
        unfold gc_Visible.fin
        rw [ht]
      · unfold gc_Visible.fin
        rw [if_neg (fun z => hk z.1), if_neg (fun z => hk z.1)]
    · have hns : ¬ stW s l x := fun e => hs ⟨fun _ => e, fun e3 => by rw [hcx.1] at e3; simp at e3⟩
      have htx : tm x ≤ s := by
        rcases Int.lt_or_le s (tm x) with h | h
        · exact absurd (Or.inl h) hns
        · exact h
      have hsh : shows s l x := ⟨htx, hcx.2.2.1, fun y hy hcy => by
        rcases hfst y hy (cnd_iff.2 ⟨hcy.1, hcy.2.1.trans hcx.2.1, hcy.2.2.1, by have := hcy.2.2.2; omega⟩) with e | e
        · rw [e]; exact Int.le_refl _
        · have := later hcx.1 hcy.1 hcy.2.1.symm e; omega⟩
      have hk : wk x ≠ 1 := fun e => hns (Or.inr ⟨hsh, e⟩)
      have hfa : (left s l).1.find? (cnd u T) = none := by
        rw [List.find?_eq_none]
        intro y hy hpy
        obtain ⟨hyl, hys⟩ := memA.1 hy
        have hcy := cnd_iff.1 hpy
        have hsy : stW s l y := by unfold stays at hys; rw [hcy.1] at hys; simpa using hys
        rcases hfst y hyl hpy with e | e
        · rw [e] at hsy; exact hns hsy
        · have hlt := later hcx.1 hcy.1 (hcx.2.1.trans hcy.2.1.symm) e
          rcases hsy with h | ⟨⟨_, _, h⟩, _⟩
          · omega
          · have := h x hx ⟨hcx.1, hcx.2.1.trans hcy.2.1.symm, hcx.2.2.1, htx⟩; omega
      rw [hfa]
      simp only [lastW]
      rw [fin_none]
      unfold gc_Visible.fin
      rw [if_neg (fun z => hk z.1)]
theorem GcSees : ∀ (l0 : List ES) (a1 : Int) (a2 : ByteArray) (a3 : Int), (((∀ x ∈ l0, (x.f0.size ≤ 140737488351232 ∧ (Lit.int .u64 x.f1).wf = true ∧ True ∧ x.f3.size ≤ 140737488351232)) ∧ l0.length * 48 ≤ 140737488351232)) → ((Lit.int .u64 a1).wf = true) → (a2.size ≤ 140737488351232) → ((Lit.int .u64 a3).wf = true) → ∃ k, screelaw17_GcSees.f k l0 a1 a2 a3 = some true := by
  intro l s u t _ _ _ _
  obtain ⟨u, rfl⟩ := ex_lb u
  refine Ev.rounds ?_
  unfold screelaw17_GcSees.f
  refine Ev.bind awake_ev (Ev.pos rfl (Ev.bind (large_ev l) ?_))
  have big : Ev (fun k => screelaw17_GcSees.j0 k l s (lb u) t true) true := by
    refine Ev.step (fun k => by rw [screelaw17_GcSees.j0]) ?_
    exact Ev.pos rfl (Ev.val rfl)
  cases hg : lrg l with
  | true => exact Ev.pos rfl big
  | false =>
    obtain ⟨h80, hf⟩ := lrg_no hg
    refine Ev.neg (by simp) ?_
    by_cases h1 : (((lb u).size : Nat) : Int) > 300
    · rw [decide_eq_true h1]; exact big
    rw [decide_eq_false h1]
    refine Ev.step (fun k => by rw [screelaw17_GcSees.j0]) ?_
    refine Ev.neg (by simp) (Ev.bind (Left_ev s l hf) ?_)
    cases hr : risesB l with
    | false =>
      have e : left s l = ([], 2) := by unfold left; rw [hr]; rfl
      rw [e]
      exact Ev.neg (by simp) (Ev.val rfl)
    | true =>
      have h0 : (left s l).2 = 0 := by rw [left_eq s hr]
      have hst : s ≤ mx t s := by unfold mx; split <;> omega
      refine Ev.pos h0 (Ev.bind (Visible_ev l (lb u) (mx t s) hf) (Ev.bind (Visible_ev (left s l).1 (lb u) (mx t s) (fits_left s hr hf)) ?_))
      rw [sees u hst hr]
      exact Ev.pos rfl (Ev.val (by simp))
end Go.Proofs.Ytcdadhgcjkgnoaa.GcS
