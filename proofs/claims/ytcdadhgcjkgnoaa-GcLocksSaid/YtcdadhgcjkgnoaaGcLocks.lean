/- gc: data that a lock waits for stays; and so do all locks, and all that says nothing. -/
import Derived.Test.YtcdadhgcjkgnoaaPx0
import Derived.Test.YtcdadhgcjkgnoaaPx15
import Derived.Test.YtcdadhgcjkgnoaaGcRd
import Derived.Test.YtcdadhgcjkgnoaaGc3
set_option linter.unusedVariables false
set_option linter.unusedSimpArgs false
namespace Go.Proofs.Ytcdadhgcjkgnoaa.GcS
open Go.RowKit Go.Proofs.Ytcdadhgcjkgnoaa.P Go.Proofs.Ytcdadhgcjkgnoaa.Th Go.Proofs.YtcdadhgcjkgnoaaW.PrintWords Go.Proofs.YtcdadhgcjkgnoaaW.PrintLast Go.Proofs.YtcdadhgcjkgnoaaW.PrintMore

theorem put_all : ∀ (G : List ByteArray) (m : List (List UInt8)), (∀ s ∈ G, s.size ≤ 140737488351232) → m.length + G.length ≤ 1000000 → ∃ mf, screelaw17_GcLocks.put G m = some mf ∧ ∀ u, u ∈ mf ↔ u ∈ m ∨ ∃ s ∈ G, bl s = u
  | [], m, _, _ => ⟨m, rfl, fun u => by simp⟩
  | s :: G, m, hs, hl => by
    rw [List.length_cons] at hl
    obtain ⟨mf, h1, h2⟩ := put_all G (bl s :: m) (fun t ht => hs t (by simp [ht])) (by rw [List.length_cons]; omega)
    refine ⟨mf, ?_, fun u => ?_⟩
    · rw [screelaw17_GcLocks.put, if_pos ⟨hs s (by simp), by omega⟩]; exact h1
    · rw [h2 u]
      constructor
      · rintro (h | ⟨t, ht, e⟩)
        · rcases List.mem_cons.1 h with rfl | h
          · exact Or.inr ⟨s, by simp, rfl⟩
          · exact Or.inl h
        · exact Or.inr ⟨t, by simp [ht], e⟩
      · rintro (h | ⟨t, ht, e⟩)
        · exact Or.inl (by simp [h])
        · rcases List.mem_cons.1 ht with rfl | ht
          · exact Or.inl (by simp [e])
          · exact Or.inr ⟨t, ht, e⟩
theorem lock_ls {x : ES} (h : cf x = 1) : 0 < ls x ∧ ls x ≤ 1099511627776 := by
  obtain ⟨hk, hc⟩ := cf_ok (by decide) h
  unfold ls
  unfold rxE rx at hk hc ⊢
  rcases rdr_all (bl x.f0) with e | ⟨c, u, t, e, hg, hs⟩
  · rw [e, if_pos (by simp)] at hk; simp at hk
  · rw [e, if_neg (by simp)] at hk hc ⊢
    by_cases h2 : (c : Int) = 1
    · rw [if_pos h2] at hk hc ⊢
      rcases ColS.ulk_cases (bl x.f3) with e2 | ⟨p, st, kd, at_, h1, _, _, _, e2⟩
      · rw [e2] at hk; simp [ColS.no4] at hk
      · rw [e2]; have := ColS.tm_le h1.2.1; simp only; omega
    · rw [if_neg h2] at hc
      by_cases h3 : (c : Int) = 2
      · rw [if_pos h3] at hc; exact absurd hc h2
      · rw [if_neg h3] at hc; exact absurd hc h2
theorem read_made {y : ES} {u : List UInt8} {t : Nat} (hg : KeyS.good 3 u t) (h : bl y.f0 = KeyS.kb 3 u t) : cf y = 3 ∧ us y = u ∧ tm y = (t : Int) := by
  have e1 := KeyS.rdr_some ((KeyS.rd_iff (KeyS.kb 3 u t) 3 u t).2 ⟨hg, rfl⟩)
  unfold cf us tm rxE rx
  simp only [h, e1]
  refine ⟨rfl, ?_, rfl⟩
  exact bl_lb u
theorem locks_go (s : Int) {l : List ES} (hr : risesB l = true) (hf : fits l) {m : List (List UInt8)} (hm : ∀ u, u ∈ m → ∃ y ∈ l, mayE s l y = true ∧ bl y.f0 = u) : ∀ (rest : List ES), (∀ x ∈ rest, x ∈ l) → Ev (fun k => screelaw17_GcLocks.go k m rest) ()
  | [], _ => Ev.val rfl
  | x :: rest, hsub => by
    have hx := hsub x (by simp)
    have next := locks_go s hr hf hm rest (fun y hy => hsub y (by simp [hy]))
    have hsm := hf.2 x hx
    refine Ev.bind (rread_ev x hsm) (Ev.pos (by rw [size_bl]; have := hsm.1; omega) ?_)
    rw [sx_cf]
    refine Ev.neg ?_ ?_
    · rintro ⟨hc, hi⟩
      obtain ⟨y, hy, hmay, e⟩ := hm _ hi
      obtain rfl := rises_inj hr y hy x hx e
      refine (may_iff s hr hx).1 hmay ⟨fun e => ?_, fun e => ?_⟩
      · rw [e] at hc; simp at hc
      · rw [e] at hc; simp at hc
    · by_cases h1 : cf x = 1
      · refine Ev.neg (by simp [h1]) ?_
        rw [sx_of (by decide) h1]
        obtain ⟨c, t0, hc, hg, _, _⟩ := rec_key (by decide) h1
        have hls := lock_ls h1
        have hgood : KeyS.good 3 (us x) (ls x).toNat := ⟨by unfold KeyS.fam; omega, hg.2.1, by omega, fun h => by omega⟩
        have hmk := KeyS.RMake_ev 3 (us x) (ls x).toNat (by omega)
        rw [KeyS.mkr_yes hgood] at hmk
        have e1 : lb (us x) = (rxE x).1.us := by unfold us; rw [lb_bl]
        have e2 : (((ls x).toNat : Nat) : Int) = (rxE x).1.ls := by show _ = ls x; omega
        rw [e1, e2] at hmk
        have hul : (us x).length ≤ 24 := (rx_ok _ _).us
        have hkl := KeyS.kb_len (u := us x) 3 (ls x).toNat hul
        refine Ev.bind hmk (Ev.pos ?_ (Ev.neg (by simp) (Ev.neg ?_ next)))
        · show (lb (KeyS.kb 3 (us x) (ls x).toNat)).size ≤ _
          rw [lb_size]; omega
        · show ¬ bl (lb (KeyS.kb 3 (us x) (ls x).toNat)) ∈ m
          rw [bl_lb]
          intro hi
          obtain ⟨y, hy, hmay, e⟩ := hm _ hi
          obtain ⟨c3, hu, ht⟩ := read_made hgood e
          refine (may_iff s hr hy).1 hmay ⟨fun e => ?_, fun _ => ⟨x, hx, hu.symm, Or.inl ⟨h1, ?_⟩⟩⟩
          · rw [c3] at e; simp at e
          · rw [ht]; omega
      · exact Ev.pos h1 next
theorem GcLocks : ∀ (l0 : List ES) (a1 : Int), (((∀ x ∈ l0, (x.f0.size ≤ 140737488351232 ∧ (Lit.int .u64 x.f1).wf = true ∧ True ∧ x.f3.size ≤ 140737488351232)) ∧ l0.length * 48 ≤ 140737488351232)) → ((Lit.int .u64 a1).wf = true) → ∃ k, screelaw17_GcLocks.f k l0 a1 = some true := by
  intro l s _ _
  refine Ev.rounds ?_
  unfold screelaw17_GcLocks.f
  refine Ev.bind awake_ev (Ev.pos rfl (Ev.bind (large_ev l) ?_))
  cases hg : lrg l with
  | true => exact Ev.pos rfl (Ev.val rfl)
  | false =>
    obtain ⟨h80, hf⟩ := lrg_no hg
    refine Ev.neg (by simp) (Ev.bind (Garbage_ev s l hf) ?_)
    cases hr : risesB l with
    | false =>
      have e : garb s l = ([], 2) := by unfold garb; rw [hr]; rfl
      rw [e]
      exact Ev.pos (by simp) (Ev.pos rfl (Ev.val rfl))
    | true =>
      have e : garb s l = ((l.filter (mayE s l)).map (·.f0), 0) := if_pos hr
      rw [e]
      have hfl := List.length_filter_le (mayE s l) l
      obtain ⟨mf, h1, h2⟩ := put_all ((l.filter (mayE s l)).map (·.f0)) [] (fun t ht => by
        obtain ⟨y, hy, rfl⟩ := List.mem_map.1 ht
        have := (hf.2 y (List.mem_filter.1 hy).1).1
        rw [size_bl]; omega) (by simp; omega)
      refine Ev.neg (by simp) (Ev.just h1 (Ev.bind (locks_go s hr hf (fun u hu => ?_) l (fun _ h => h)) (Ev.val rfl)))
      rcases (h2 u).1 hu with h | ⟨t, ht, e2⟩
      · simp at h
      · obtain ⟨y, hy, rfl⟩ := List.mem_map.1 ht
        exact ⟨y, (List.mem_filter.1 hy).1, (List.mem_filter.1 hy).2, e2⟩
end Go.Proofs.Ytcdadhgcjkgnoaa.GcS
