/- gc: which records stay, said without going through them. -/
import Derived.Test.YtcdadhgcjkgnoaaPx0
import Derived.Test.YtcdadhgcjkgnoaaPx8
import Derived.Test.YtcdadhgcjkgnoaaGc2
set_option linter.unusedVariables false
set_option linter.unusedSimpArgs false
namespace Go.Proofs.Ytcdadhgcjkgnoaa.GcS
open Go.RowKit Go.Proofs.Ytcdadhgcjkgnoaa.P Go.Proofs.Ytcdadhgcjkgnoaa.Th Go.Proofs.YtcdadhgcjkgnoaaW.PrintWords Go.Proofs.YtcdadhgcjkgnoaaW.PrintLast Go.Proofs.YtcdadhgcjkgnoaaW.PrintMore

def us (x : ES) : List UInt8 := bl (rxE x).1.us
def tm (x : ES) : Int := (rxE x).1.tm
def ls (x : ES) : Int := (rxE x).1.ls
def ws (x : ES) : Int := (rxE x).1.ws
def wk (x : ES) : Int := (rxE x).1.wk

/-! ### keys of writes: the later time first -/
theorem fl_less {t t' : Nat} (h : t ≤ 1099511627776) (h' : t' ≤ 1099511627776) : Op.bytesLess (KeyS.fl t) (KeyS.fl t') = decide (t > t') := by
  unfold KeyS.fl
  rw [long_less _ _ (by omega) (by omega)]
  rw [Bool.eq_iff_iff]; simp only [decide_eq_true_eq]; omega
theorem cf_ok {x : ES} {n : Int} (hn : n ≠ 0) (h : cf x = n) : (rxE x).2 = true ∧ (rxE x).1.cf = n := by
  unfold cf at h
  by_cases hk : (rxE x).2 = true
  · rw [if_pos hk] at h; exact ⟨hk, h⟩
  · rw [if_neg hk] at h; exact absurd h.symm hn
theorem rec_key {x : ES} {n : Int} (hn : n ≠ 0) (h : cf x = n) : ∃ (c : Nat) (t : Nat), n = (c : Int) ∧ KeyS.good (c : Int) (us x) t ∧ bl x.f0 = KeyS.kb c (us x) t ∧ tm x = (t : Int) := by
  obtain ⟨hk, hc⟩ := cf_ok hn h
  unfold us tm
  unfold rxE rx at hk hc ⊢
  rcases rdr_all (bl x.f0) with e | ⟨c, u, t, e, hg, hs⟩
  · rw [e, if_pos (by simp)] at hk; simp at hk
  · rw [e, if_neg (by simp)] at hk hc ⊢
    refine ⟨c, t, ?_, ?_⟩
    · by_cases h2 : (c : Int) = 1
      · rw [if_pos h2] at hc; exact hc.symm
      · rw [if_neg h2] at hc
        by_cases h3 : (c : Int) = 2
        · rw [if_pos h3] at hc; exact hc.symm
        · rw [if_neg h3] at hc; exact hc.symm
    · by_cases h2 : (c : Int) = 1
      · rw [if_pos h2]; exact ⟨by rw [bl_lb]; exact hg, by rw [bl_lb]; exact hs, rfl⟩
      · rw [if_neg h2]
        by_cases h3 : (c : Int) = 2
        · rw [if_pos h3]; exact ⟨by rw [bl_lb]; exact hg, by rw [bl_lb]; exact hs, rfl⟩
        · rw [if_neg h3]; exact ⟨by rw [bl_lb]; exact hg, by rw [bl_lb]; exact hs, rfl⟩
theorem later {x y : ES} (hx : cf x = 2) (hy : cf y = 2) (hu : us x = us y) (h : less x y = true) : tm y < tm x := by
  obtain ⟨c, t, hc, hg, hk, ht⟩ := rec_key (by decide) hx
  obtain ⟨d, s, hd, hg2, hk2, hs⟩ := rec_key (by decide) hy
  obtain rfl : c = 2 := by omega
  obtain rfl : d = 2 := by omega
  unfold less at h
  rw [hk, hk2, ← hu] at h
  unfold KeyS.kb at h
  rw [KeyT.bl_cons, KeyT.E_same, if_neg (by decide), if_neg (by decide), fl_less hg.2.2.1 hg2.2.2.1] at h
  have := of_decide_eq_true h
  omega

/-! ### what stays -/
def cand (s : Int) (u : List UInt8) (y : ES) : Prop := cf y = 2 ∧ us y = u ∧ wk y ≠ 3 ∧ tm y ≤ s
def shows (s : Int) (l : List ES) (x : ES) : Prop := tm x ≤ s ∧ wk x ≠ 3 ∧ ∀ y ∈ l, cand s (us x) y → tm y ≤ tm x
def stW (s : Int) (l : List ES) (x : ES) : Prop := s < tm x ∨ (shows s l x ∧ wk x = 1)
def wants (s : Int) (l : List ES) (u : List UInt8) (t : Int) (y : ES) : Prop := us y = u ∧ (cf y = 1 ∧ ls y = t ∨ cf y = 2 ∧ wk y = 1 ∧ ws y = t ∧ stW s l y)
def stays (s : Int) (l : List ES) (x : ES) : Prop := (cf x = 2 → stW s l x) ∧ (cf x = 3 → ∃ y ∈ l, wants s l (us x) (tm x) y)
structure Inv (s : Int) (l pre : List ES) (D : List (List UInt8 × Int)) (G S : List (List UInt8)) : Prop where
  d : ∀ u t, (u, t) ∈ D ↔ ∃ y ∈ pre, wants s l u t y
  g : ∀ k, k ∈ G ↔ ∃ y ∈ pre, cf y = 2 ∧ bl y.f0 = k ∧ ¬ stW s l y
  s : ∀ u, u ∈ S ↔ ∃ y ∈ pre, cand s u y
theorem ex_snoc {p : ES → Prop} {pre : List ES} {x : ES} : (∃ y ∈ pre ++ [x], p y) ↔ (∃ y ∈ pre, p y) ∨ p x := by
  constructor
  · rintro ⟨y, hy, hp⟩
    rcases List.mem_append.1 hy with h | h
    · exact Or.inl ⟨y, h, hp⟩
    · rw [List.mem_singleton] at h; subst h; exact Or.inr hp
  · rintro (⟨y, hy, hp⟩ | hp)
    · exact ⟨y, List.mem_append_left _ hy, hp⟩
    · exact ⟨x, by simp, hp⟩
theorem cf_cases (x : ES) : ((rxE x).2 = false ∧ cf x = 0) ∨ ((rxE x).2 = true ∧ cf x = (rxE x).1.cf ∧ (cf x = 1 ∨ cf x = 2 ∨ cf x = 3)) := by
  by_cases hk : (rxE x).2 = true
  · have e : cf x = (rxE x).1.cf := if_pos hk
    exact Or.inr ⟨hk, e, by rw [e]; exact rx_cf _ _ hk⟩
  · exact Or.inl ⟨by simpa using hk, if_neg hk⟩
/-- What the first writes at a safepoint or below show: those that no earlier one hides. -/
theorem shows_iff {s : Int} {pre rest : List ES} {x : ES} (hr : ∀ y ∈ pre, less y x = true) (hr2 : ∀ y ∈ rest, less x y = true) (hx : cf x = 2) (ht : tm x ≤ s) (hw : wk x ≠ 3) :
    shows s (pre ++ x :: rest) x ↔ ¬ ∃ y ∈ pre, cand s (us x) y := by
  constructor
  · rintro ⟨_, _, h⟩ ⟨y, hy, hc⟩
    have h1 := h y (by simp [hy]) hc
    have h2 := later hc.1 hx hc.2.1 (hr y hy)
    omega
  · intro h
    refine ⟨ht, hw, fun y hy hc => ?_⟩
    rcases List.mem_append.1 hy with hy | hy
    · exact absurd ⟨y, hy, hc⟩ h
    · rcases List.mem_cons.1 hy with rfl | hy
      · exact Int.le_refl _
      · have := later hx hc.1 hc.2.1.symm (hr2 y hy); omega
theorem inv_step {s : Int} {pre rest : List ES} {x : ES} {D : List (List UInt8 × Int)} {G S : List (List UInt8)} (hr : ∀ y ∈ pre, less y x = true) (hr2 : ∀ y ∈ rest, less x y = true) (h : Inv s (pre ++ x :: rest) pre D G S) :
    Inv s (pre ++ x :: rest) (pre ++ [x]) (gc_needed.nx s x.f0 (rxE x).1 (rxE x).2 D G S).1 (gc_needed.nx s x.f0 (rxE x).1 (rxE x).2 D G S).2.1 (gc_needed.nx s x.f0 (rxE x).1 (rxE x).2 D G S).2.2 := by
  have keep : ∀ {D' : List (List UInt8 × Int)} {G' S' : List (List UInt8)}, (∀ u t, (u, t) ∈ D' ↔ (u, t) ∈ D ∨ wants s (pre ++ x :: rest) u t x) → (∀ k, k ∈ G' ↔ k ∈ G ∨ (cf x = 2 ∧ bl x.f0 = k ∧ ¬ stW s (pre ++ x :: rest) x)) → (∀ u, u ∈ S' ↔ u ∈ S ∨ cand s u x) → Inv s (pre ++ x :: rest) (pre ++ [x]) D' G' S' :=
    fun hd hg hs => ⟨fun u t => by rw [hd, h.d, ex_snoc], fun k => by rw [hg, h.g, ex_snoc], fun u => by rw [hs, h.s, ex_snoc]⟩
  unfold gc_needed.nx
  rcases cf_cases x with ⟨hk, hc⟩ | ⟨hk, hc, hcs⟩
  · rw [if_pos hk]
    exact keep (fun u t => by unfold wants; rw [hc]; simp) (fun k => by rw [hc]; simp) (fun u => by unfold cand; rw [hc]; simp)
  · rw [if_neg (by simp [hk])]
    by_cases h1 : (rxE x).1.cf = 1
    · rw [if_pos h1]
      have c1 : cf x = 1 := hc.trans h1
      refine keep (fun u t => ?_) (fun k => by rw [c1]; simp) (fun u => by unfold cand; rw [c1]; simp)
      unfold wants us ls
      rw [List.mem_cons, Prod.mk.injEq, c1]
      constructor
      · rintro (⟨rfl, rfl⟩ | h)
        · exact Or.inr ⟨rfl, Or.inl ⟨rfl, rfl⟩⟩
        · exact Or.inl h
      · rintro (h | ⟨rfl, h | h⟩)
        · exact Or.inr h
        · exact Or.inl ⟨rfl, h.2.symm⟩
        · exact absurd h.1 (by decide)
    · rw [if_neg h1]
      by_cases h2 : (rxE x).1.cf = 2
      · rw [if_neg (by simp [h2])]
        have c2 : cf x = 2 := hc.trans h2
        have wD : ∀ u t, wants s (pre ++ x :: rest) u t x ↔ us x = u ∧ wk x = 1 ∧ ws x = t ∧ stW s (pre ++ x :: rest) x := fun u t => by
          unfold wants; rw [c2]; simp
        by_cases h3 : s < (rxE x).1.tm
        · rw [if_pos h3]
          have st : stW s (pre ++ x :: rest) x := Or.inl h3
          have nc : ∀ u, ¬ cand s u x := fun u hcn => by have := hcn.2.2.2; have : s < tm x := h3; omega
          by_cases h4 : (rxE x).1.wk = 1
          · rw [if_pos h4]
            refine keep (fun u t => ?_) (fun k => by simp [st]) (fun u => by simp [nc u])
            rw [wD, List.mem_cons, Prod.mk.injEq]
            constructor
            · rintro (⟨rfl, rfl⟩ | h)
              · exact Or.inr ⟨rfl, h4, rfl, st⟩
              · exact Or.inl h
            · rintro (h | ⟨rfl, _, rfl, _⟩)
              · exact Or.inr h
              · exact Or.inl ⟨rfl, rfl⟩
          · rw [if_neg h4]
            exact keep (fun u t => by rw [wD]; have : ¬ wk x = 1 := h4; simp [this]) (fun k => by simp [st]) (fun u => by simp [nc u])
        · rw [if_neg h3]
          have h3' : tm x ≤ s := by have : ¬ s < tm x := h3; omega
          have gx : ∀ k, ¬ stW s (pre ++ x :: rest) x → (k ∈ bl x.f0 :: G ↔ k ∈ G ∨ (cf x = 2 ∧ bl x.f0 = k ∧ ¬ stW s (pre ++ x :: rest) x)) := fun k hn => by
            rw [List.mem_cons]
            constructor
            · rintro (rfl | h)
              · exact Or.inr ⟨c2, rfl, hn⟩
              · exact Or.inl h
            · rintro (h | ⟨_, rfl, _⟩)
              · exact Or.inr h
              · exact Or.inl rfl
          by_cases h4 : (rxE x).1.wk = 3
          · rw [if_pos h4]
            have h4' : wk x = 3 := h4
            have nst : ¬ stW s (pre ++ x :: rest) x := by
              rintro (h | h)
              · omega
              · exact h.1.2.1 h4'
            exact keep (fun u t => by rw [wD, h4']; simp) (fun k => gx k nst) (fun u => by unfold cand; simp [h4'])
          · rw [if_neg h4]
            have h4' : wk x ≠ 3 := h4
            have hsh := shows_iff (s := s) hr hr2 c2 h3' h4'
            have cx : ∀ u, cand s u x ↔ us x = u := fun u => ⟨fun h => h.2.1, fun h => ⟨c2, h, h4', h3'⟩⟩
            by_cases h5 : bl (rxE x).1.us ∈ S
            · rw [if_pos h5]
              have nsh : ¬ shows s (pre ++ x :: rest) x := fun e => hsh.1 e ((h.s _).1 h5)
              have nst : ¬ stW s (pre ++ x :: rest) x := by
                rintro (h | h)
                · omega
                · exact nsh h.1
              refine keep (fun u t => by rw [wD]; simp [nst]) (fun k => gx k nst) (fun u => ?_)
              rw [cx]
              exact ⟨Or.inl, fun h => h.elim id (fun e => e ▸ h5)⟩
            · rw [if_neg h5]
              have sh : shows s (pre ++ x :: rest) x := hsh.2 (fun e => h5 ((h.s _).2 e))
              have sx : ∀ u, u ∈ bl (rxE x).1.us :: S ↔ u ∈ S ∨ cand s u x := fun u => by
                rw [cx, List.mem_cons]
                exact ⟨fun h => h.elim (fun e => Or.inr e.symm) Or.inl, fun h => h.elim Or.inr (fun e => Or.inl e.symm)⟩
              by_cases h6 : (rxE x).1.wk = 1
              · rw [if_pos h6]
                have h6' : wk x = 1 := h6
                have st : stW s (pre ++ x :: rest) x := Or.inr ⟨sh, h6'⟩
                refine keep (fun u t => ?_) (fun k => by simp [st]) sx
                rw [wD, List.mem_cons, Prod.mk.injEq]
                constructor
                · rintro (⟨rfl, rfl⟩ | h)
                  · exact Or.inr ⟨rfl, h6, rfl, st⟩
                  · exact Or.inl h
                · rintro (h | ⟨rfl, _, rfl, _⟩)
                  · exact Or.inr h
                  · exact Or.inl ⟨rfl, rfl⟩
              · rw [if_neg h6]
                have h6' : ¬ wk x = 1 := h6
                have nst : ¬ stW s (pre ++ x :: rest) x := by
                  rintro (h | h)
                  · omega
                  · exact h6' h.2
                exact keep (fun u t => by rw [wD]; simp [h6']) (fun k => gx k nst) sx
      · rw [if_pos h2]
        have c3 : cf x = 3 := by rcases hcs with e | e | e
                                 · exact absurd (hc.symm.trans e) h1
                                 · exact absurd (hc.symm.trans e) h2
                                 · exact e
        exact keep (fun u t => by unfold wants; rw [c3]; simp) (fun k => by rw [c3]; simp) (fun u => by unfold cand; rw [c3]; simp)
theorem inv_all (s : Int) : ∀ (rest pre : List ES) (D : List (List UInt8 × Int)) (G S : List (List UInt8)), risesB rest = true → (∀ y ∈ pre, ∀ x ∈ rest, less y x = true) → Inv s (pre ++ rest) pre D G S →
    ∃ S', Inv s (pre ++ rest) (pre ++ rest) (nd s rest D G S).1 (nd s rest D G S).2 S'
  | [], pre, D, G, S, _, _, h => ⟨S, by simpa [nd] using h⟩
  | x :: rest, pre, D, G, S, hr, hp, h => by
    have hall := rises_all rest x hr
    have h1 := inv_step (fun y hy => hp y hy x (by simp)) hall h
    have e : pre ++ x :: rest = (pre ++ [x]) ++ rest := by simp
    rw [e] at h1 ⊢
    have := inv_all s rest (pre ++ [x]) _ _ _ (rises_tail hr) (fun y hy z hz => by
      rcases List.mem_append.1 hy with hy | hy
      · exact hp y hy z (by simp [hz])
      · rw [List.mem_singleton] at hy; subst hy; exact hall z hz) h1
    exact this
theorem inv_nd (s : Int) (l : List ES) (hr : risesB l = true) : ∃ S', Inv s l l (nd s l [] [] []).1 (nd s l [] [] []).2 S' := by
  have := inv_all s l [] [] [] [] hr (by simp) ⟨by simp, by simp, by simp⟩
  simpa using this
theorem rises_inj : ∀ {l : List ES}, risesB l = true → ∀ x ∈ l, ∀ y ∈ l, bl x.f0 = bl y.f0 → x = y
  | [], _, x, hx, _, _, _ => by simp at hx
  | z :: l, hr, x, hx, y, hy, e => by
    have hall := rises_all l z hr
    rcases List.mem_cons.1 hx with hxz | hxl
    · rcases List.mem_cons.1 hy with hyz | hyl
      · rw [hxz, hyz]
      · rw [hxz] at e; exact absurd e (less_ne (hall y hyl))
    · rcases List.mem_cons.1 hy with hyz | hyl
      · rw [hyz] at e; exact absurd e.symm (less_ne (hall x hxl))
      · exact rises_inj (rises_tail hr) x hxl y hyl e
/-- WHAT MAY GO IS WHAT DOESN'T STAY. -/
theorem may_iff (s : Int) {l : List ES} (hr : risesB l = true) {x : ES} (hx : x ∈ l) : mayE s l x = true ↔ ¬ stays s l x := by
  obtain ⟨S', h⟩ := inv_nd s l hr
  unfold mayE goesE gc_part.goes stays
  have hG : ∀ {p : Prop}, (p ↔ (cf x = 2 ∧ ¬ stW s l x)) → (decide (bl x.f0 ∈ (nd s l [] [] []).2) = true ↔ p) := fun hp => by
    rw [decide_eq_true_eq, h.g, hp]
    constructor
    · rintro ⟨y, hy, hc, hk, hn⟩
      obtain rfl := rises_inj hr y hy x hx hk
      exact ⟨hc, hn⟩
    · rintro ⟨hc, hn⟩; exact ⟨x, hx, hc, rfl, hn⟩
  rcases cf_cases x with ⟨hk, hc⟩ | ⟨hk, hc, hcs⟩
  · rw [if_neg (by simp [hk])]
    exact hG (by rw [hc]; simp)
  · by_cases h3 : (rxE x).1.cf = 3
    · rw [if_pos ⟨hk, h3⟩]
      have c3 : cf x = 3 := hc.trans h3
      have hd := h.d (us x) (tm x)
      rw [c3, Bool.not_eq_true', decide_eq_false_iff_not]
      show ¬ ((us x, tm x) ∈ _) ↔ _
      rw [hd]
      simp
    · rw [if_neg (fun e => h3 e.2)]
      have c3 : cf x ≠ 3 := by rw [hc]; exact h3
      refine hG ?_
      simp [c3]
end Go.Proofs.Ytcdadhgcjkgnoaa.GcS
