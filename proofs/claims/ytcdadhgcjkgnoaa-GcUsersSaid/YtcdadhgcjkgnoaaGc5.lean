/- gc: with a later safepoint no less may go; clearing twice is clearing once. -/
import Derived.Test.YtcdadhgcjkgnoaaPx0
import Derived.Test.YtcdadhgcjkgnoaaGc3
import Derived.Test.YtcdadhgcjkgnoaaGc4
set_option linter.unusedVariables false
set_option linter.unusedSimpArgs false
namespace Go.Proofs.Ytcdadhgcjkgnoaa.GcS
open Go.RowKit Go.Proofs.Ytcdadhgcjkgnoaa.P Go.Proofs.Ytcdadhgcjkgnoaa.Th Go.Proofs.YtcdadhgcjkgnoaaW.PrintWords Go.Proofs.YtcdadhgcjkgnoaaW.PrintLast Go.Proofs.YtcdadhgcjkgnoaaW.PrintMore

theorem left_eq (s : Int) {l : List ES} (hr : risesB l = true) : left s l = (l.filter (fun x => !mayE s l x), 0) := if_pos hr
theorem mem_left {s : Int} {l : List ES} (hr : risesB l = true) {x : ES} : x ∈ (left s l).1 ↔ x ∈ l ∧ stays s l x := by
  rw [left_eq s hr]
  simp only [List.mem_filter]
  constructor
  · rintro ⟨hx, h⟩
    refine ⟨hx, ?_⟩
    by_cases hs : stays s l x
    · exact hs
    · rw [(may_iff s hr hx).2 hs] at h; simp at h
  · rintro ⟨hx, hs⟩
    refine ⟨hx, ?_⟩
    cases hm : mayE s l x with
    | false => rfl
    | true => exact absurd hs ((may_iff s hr hx).1 hm)
theorem rises_filter : ∀ (l : List ES) (p : ES → Bool), risesB l = true → risesB (l.filter p) = true
  | [], _, _ => rfl
  | x :: l, p, h => by
    have hall := rises_all l x h
    have ih := rises_filter l p (rises_tail h)
    rw [List.filter_cons]
    cases p x with
    | false => simpa using ih
    | true =>
      simp only [if_true]
      cases hf : l.filter p with
      | nil => rfl
      | cons y m =>
        have hy : y ∈ l := by
          have : y ∈ l.filter p := by rw [hf]; simp
          exact (List.mem_filter.1 this).1
        rw [hf] at ih
        show (less x y && risesB (y :: m)) = true
        rw [hall y hy, ih]; rfl
theorem rises_left (s : Int) {l : List ES} (hr : risesB l = true) : risesB (left s l).1 = true := by
  rw [left_eq s hr]; exact rises_filter l _ hr
theorem fits_left (s : Int) {l : List ES} (hr : risesB l = true) (hf : fits l) : fits (left s l).1 := by
  rw [left_eq s hr]
  exact fits_sub hf (List.length_filter_le _ _) (fun x hx => (List.mem_filter.1 hx).1)
theorem stW_more {s t : Int} (hst : s ≤ t) {l : List ES} (hr : risesB l = true) {x : ES} (hx : x ∈ l) (hc : cf x = 2) : stW t l x ↔ stays s l x ∧ stW t (left s l).1 x := by
  have hs : stays s l x ↔ stW s l x := by unfold stays; rw [hc]; simp
  rw [hs]
  constructor
  · rintro (h | ⟨⟨h1, h2, h3⟩, h4⟩)
    · exact ⟨Or.inl (by omega), Or.inl h⟩
    · refine ⟨?_, Or.inr ⟨⟨h1, h2, fun y hy hcd => h3 y ((mem_left hr).1 hy).1 hcd⟩, h4⟩⟩
      by_cases h5 : s < tm x
      · exact Or.inl h5
      · exact Or.inr ⟨⟨by omega, h2, fun y hy hcd => h3 y hy ⟨hcd.1, hcd.2.1, hcd.2.2.1, by have := hcd.2.2.2; omega⟩⟩, h4⟩
  · rintro ⟨h1, h | ⟨⟨h2, h3, h4⟩, h5⟩⟩
    · exact Or.inl h
    · refine Or.inr ⟨⟨h2, h3, fun y hy hcd => ?_⟩, h5⟩
      by_cases hya : y ∈ (left s l).1
      · exact h4 y hya hcd
      · have hny : ¬ stays s l y := fun e => hya ((mem_left hr).2 ⟨hy, e⟩)
        have hny2 : ¬ stW s l y := fun e => hny (by unfold stays; rw [hcd.1]; simp [e])
        have hty : ¬ s < tm y := fun e => hny2 (Or.inl e)
        rcases h1 with h1 | ⟨⟨h6, _, h7⟩, _⟩
        · omega
        · exact h7 y hy ⟨hcd.1, hcd.2.1, hcd.2.2.1, by omega⟩
theorem stays_more {s t : Int} (hst : s ≤ t) {l : List ES} (hr : risesB l = true) {x : ES} (hx : x ∈ l) : stays t l x ↔ stays s l x ∧ stays t (left s l).1 x := by
  by_cases h2 : cf x = 2
  · have e : ∀ {u : Int} {m : List ES}, stays u m x ↔ stW u m x := by intro u m; unfold stays; rw [h2]; simp
    rw [e, e (u := t) (m := (left s l).1)]
    exact stW_more hst hr hx h2
  · by_cases h3 : cf x = 3
    · have e : ∀ {u : Int} {m : List ES}, stays u m x ↔ ∃ y ∈ m, wants u m (us x) (tm x) y := by intro u m; unfold stays; rw [h3]; simp
      rw [e, e, e]
      constructor
      · rintro ⟨y, hy, hu, h | ⟨hc, hk, hw, hs⟩⟩
        · have hl : y ∈ (left s l).1 := (mem_left hr).2 ⟨hy, by unfold stays; rw [h.1]; simp⟩
          exact ⟨⟨y, hy, hu, Or.inl h⟩, ⟨y, hl, hu, Or.inl h⟩⟩
        · obtain ⟨h4, h5⟩ := (stW_more hst hr hy hc).1 hs
          have h6 : stW s l y := by unfold stays at h4; rw [hc] at h4; simpa using h4
          exact ⟨⟨y, hy, hu, Or.inr ⟨hc, hk, hw, h6⟩⟩, ⟨y, (mem_left hr).2 ⟨hy, h4⟩, hu, Or.inr ⟨hc, hk, hw, h5⟩⟩⟩
      · rintro ⟨_, ⟨y, hy, hu, h | ⟨hc, hk, hw, hs⟩⟩⟩
        · exact ⟨y, ((mem_left hr).1 hy).1, hu, Or.inl h⟩
        · have hy2 := (mem_left hr).1 hy
          exact ⟨y, hy2.1, hu, Or.inr ⟨hc, hk, hw, (stW_more hst hr hy2.1 hc).2 ⟨hy2.2, hs⟩⟩⟩
    · have e : ∀ {u : Int} {m : List ES}, stays u m x := by intro u m; exact ⟨fun h => absurd h h2, fun h => absurd h h3⟩
      exact ⟨fun _ => ⟨e, e⟩, fun _ => e⟩
theorem left_more {s t : Int} (hst : s ≤ t) {l : List ES} (hr : risesB l = true) : left t (left s l).1 = left t l := by
  have hra := rises_left s hr
  have ha := left_eq s hr
  rw [left_eq t hra, left_eq t hr]
  congr 1
  have e1 : (left s l).1 = l.filter (fun x => !mayE s l x) := by rw [ha]
  conv => lhs; arg 2; rw [e1]
  rw [List.filter_filter]
  refine List.filter_congr fun x hx => ?_
  have h := stays_more hst hr hx
  have m1 := may_iff t hr hx
  have m2 := may_iff s hr hx
  rw [Bool.eq_iff_iff, Bool.and_eq_true, Bool.not_eq_true', Bool.not_eq_true', Bool.not_eq_true']
  have f : ∀ {b : Bool} {p : Prop}, (b = true ↔ ¬ p) → (b = false ↔ p) := by
    intro b p hb
    cases b with
    | false => exact ⟨fun _ => Classical.byContradiction fun hn => by have := hb.2 hn; simp at this, fun _ => rfl⟩
    | true => exact ⟨fun e => by simp at e, fun hp => absurd hp (hb.1 rfl)⟩
  rw [f m1, f m2, h]
  constructor
  · rintro ⟨h1, h2⟩
    refine ⟨h2, ?_⟩
    exact (f (may_iff t hra ((mem_left hr).2 ⟨hx, h2⟩))).1 h1
  · rintro ⟨h1, h2⟩
    exact ⟨(f (may_iff t hra ((mem_left hr).2 ⟨hx, h1⟩))).2 h2, h1⟩
end Go.Proofs.Ytcdadhgcjkgnoaa.GcS
