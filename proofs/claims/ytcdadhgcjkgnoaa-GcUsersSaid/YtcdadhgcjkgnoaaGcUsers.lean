/- gc: what may go of a user's key doesn't hang on other keys. -/
import Derived.Test.YtcdadhgcjkgnoaaPx0
import Derived.Test.YtcdadhgcjkgnoaaPx15
import Derived.Test.YtcdadhgcjkgnoaaGc5
import Derived.Test.YtcdadhgcjkgnoaaGcRd
set_option linter.unusedVariables false
set_option linter.unusedSimpArgs false
namespace Go.Proofs.Ytcdadhgcjkgnoaa.GcS
open Go.RowKit Go.Proofs.Ytcdadhgcjkgnoaa.P Go.Proofs.Ytcdadhgcjkgnoaa.Th Go.Proofs.YtcdadhgcjkgnoaaW.PrintWords Go.Proofs.YtcdadhgcjkgnoaaW.PrintLast Go.Proofs.YtcdadhgcjkgnoaaW.PrintMore

def mineP (user : ByteArray) (x : ES) : Bool := decide (cf x ≠ 0 ∧ us x = bl user)
theorem sx_cond (x : ES) (user : ByteArray) : ((sx x).cf ≠ 0 ∧ (sx x).us.toList = user.toList) ↔ mineP user x = true := by
  unfold mineP
  rw [decide_eq_true_eq, sx_cf]
  by_cases h : cf x = 0
  · simp [h]
  · rw [sx_of h rfl, toL_bl, toL_bl]; exact Iff.rfl
theorem users_go (user : ByteArray) : ∀ (rest own : List ES) (mine : List (List UInt8)), fits rest → own.length + rest.length ≤ 10000 → mine.length + rest.length ≤ 10000 →
    ∃ mf, Ev (fun k => screelaw17_GcUsers.go k user rest own mine) (own ++ rest.filter (mineP user), mf) ∧ ∀ u, u ∈ mf ↔ u ∈ mine ∨ ∃ x ∈ rest.filter (mineP user), bl x.f0 = u
  | [], own, mine, _, _, _ => ⟨mine, Ev.val (by simp [screelaw17_GcUsers.go]), fun u => by simp⟩
  | x :: rest, own, mine, hf, ho, hm => by
    rw [List.length_cons] at ho hm
    have hsm := hf.2 x (by simp)
    have hft := fits_tail hf
    have hmay : screelaw17_GcUsers.may x.f0 own mine := ⟨by rw [size_bl]; have := hsm.1; omega, by omega, by omega⟩
    by_cases hp : mineP user x = true
    · obtain ⟨mf, h1, h2⟩ := users_go user rest (own ++ [x]) (bl x.f0 :: mine) hft (by simp; omega) (by simp; omega)
      refine ⟨mf, Ev.bind (rread_ev x hsm) (Ev.pos hmay (Ev.pos ((sx_cond x user).2 hp) ?_)), fun u => ?_⟩
      · rw [List.filter_cons_of_pos hp]; simpa using h1
      · rw [h2 u, List.filter_cons_of_pos hp]
        constructor
        · rintro (h | ⟨t, ht, e⟩)
          · rcases List.mem_cons.1 h with rfl | h
            · exact Or.inr ⟨x, by simp, rfl⟩
            · exact Or.inl h
          · exact Or.inr ⟨t, List.mem_cons_of_mem _ ht, e⟩
        · rintro (h | ⟨t, ht, e⟩)
          · exact Or.inl (by simp [h])
          · rcases List.mem_cons.1 ht with rfl | ht
            · exact Or.inl (by simp [e])
            · exact Or.inr ⟨t, ht, e⟩
    · obtain ⟨mf, h1, h2⟩ := users_go user rest own mine hft (by omega) (by omega)
      refine ⟨mf, Ev.bind (rread_ev x hsm) (Ev.pos hmay (Ev.neg (fun e => hp ((sx_cond x user).1 e)) ?_)), fun u => ?_⟩
      · rw [List.filter_cons_of_neg hp]; exact h1
      · rw [h2 u, List.filter_cons_of_neg hp]
theorem rdB {S : List ByteArray} {n : Nat} (h : n < S.length) : rdOf ByteArray.empty S (n : Int) = S[n] := by simp [rdOf, h]
theorem tell_all (mine : List (List UInt8)) : ∀ (m : List ES) (pre S : List ByteArray), (∀ x ∈ m, small x) → S = pre ++ (m.filter (fun x => decide (bl x.f0 ∈ mine))).map (·.f0) →
    screelaw17_GcUsers.tell mine S (m.map (·.f0)) pre.length = some S.length
  | [], pre, S, _, e => by subst e; simp [screelaw17_GcUsers.tell]
  | x :: m, pre, S, hs, e => by
    have hsm := hs x (by simp)
    rw [List.map_cons, screelaw17_GcUsers.tell, if_pos (by rw [size_bl]; have := hsm.1; omega)]
    by_cases hi : bl x.f0 ∈ mine
    · rw [if_pos hi]
      have e2 : S = (pre ++ [x.f0]) ++ (m.filter (fun x => decide (bl x.f0 ∈ mine))).map (·.f0) := by
        rw [e, List.filter_cons_of_pos (by simpa using hi)]; simp
      have hl : pre.length < S.length := by rw [e2]; simp
      have hx : S[pre.length] = x.f0 := by
        have h3 : S[pre.length]? = some x.f0 := by rw [e2]; simp
        rw [List.getElem?_eq_getElem hl] at h3
        exact Option.some.inj h3
      rw [if_pos hl, rdB hl, hx, if_pos rfl]
      have := tell_all mine m (pre ++ [x.f0]) S (fun y hy => hs y (by simp [hy])) e2
      simpa using this
    · rw [if_neg hi]
      exact tell_all mine m pre S (fun y hy => hs y (by simp [hy])) (by rw [e, List.filter_cons_of_neg (by simpa using hi)])
theorem stW_own {s : Int} {l : List ES} {user : ByteArray} {x : ES} (hx : us x = bl user) : stW s (l.filter (mineP user)) x ↔ stW s l x := by
  unfold stW shows
  have h : (∀ y ∈ l.filter (mineP user), cand s (us x) y → tm y ≤ tm x) ↔ (∀ y ∈ l, cand s (us x) y → tm y ≤ tm x) :=
    ⟨fun h y hy hc => h y (List.mem_filter.2 ⟨hy, decide_eq_true ⟨by rw [hc.1]; decide, hc.2.1.trans hx⟩⟩) hc, fun h y hy => h y (List.mem_filter.1 hy).1⟩
  rw [h]
theorem stays_own {s : Int} {l : List ES} {user : ByteArray} {x : ES} (hx : us x = bl user) : stays s (l.filter (mineP user)) x ↔ stays s l x := by
  unfold stays
  rw [stW_own hx]
  have h : (∃ y ∈ l.filter (mineP user), wants s (l.filter (mineP user)) (us x) (tm x) y) ↔ (∃ y ∈ l, wants s l (us x) (tm x) y) := by
    constructor
    · rintro ⟨y, hy, hu, hw⟩
      exact ⟨y, (List.mem_filter.1 hy).1, hu, hw.imp id (fun ⟨a, b, c, d⟩ => ⟨a, b, c, (stW_own (hu.trans hx)).1 d⟩)⟩
    · rintro ⟨y, hy, hu, hw⟩
      have hc : cf y ≠ 0 := by
        rcases hw with ⟨h1, _⟩ | ⟨h1, _⟩
        · rw [h1]; decide
        · rw [h1]; decide
      exact ⟨y, List.mem_filter.2 ⟨hy, decide_eq_true ⟨hc, hu.trans hx⟩⟩, hu, hw.imp id (fun ⟨a, b, c, d⟩ => ⟨a, b, c, (stW_own (hu.trans hx)).2 d⟩)⟩
  rw [h]
theorem GcUsers : ∀ (l0 : List ES) (a1 : Int) (a2 : ByteArray), (((∀ x ∈ l0, (x.f0.size ≤ 140737488351232 ∧ (Lit.int .u64 x.f1).wf = true ∧ True ∧ x.f3.size ≤ 140737488351232)) ∧ l0.length * 48 ≤ 140737488351232)) → ((Lit.int .u64 a1).wf = true) → (a2.size ≤ 140737488351232) → ∃ k, screelaw17_GcUsers.f k l0 a1 a2 = some true := by
  intro l s user _ _ _
  refine Ev.rounds ?_
  unfold screelaw17_GcUsers.f
  refine Ev.bind awake_ev (Ev.pos rfl (Ev.bind (large_ev l) ?_))
  cases hg : lrg l with
  | true => exact Ev.pos rfl (Ev.val rfl)
  | false =>
    obtain ⟨h80, hf⟩ := lrg_no hg
    refine Ev.neg (by simp) ?_
    by_cases hu : user.size > 300
    · exact Ev.pos hu (Ev.val rfl)
    refine Ev.neg hu (Ev.bind (Garbage_ev s l hf) ?_)
    cases hr : risesB l with
    | false =>
      have e : garb s l = ([], 2) := by unfold garb; rw [hr]; rfl
      rw [e]
      exact Ev.pos (by simp) (Ev.val rfl)
    | true =>
      have e : garb s l = ((l.filter (mayE s l)).map (·.f0), 0) := if_pos hr
      rw [e]
      obtain ⟨mf, h1, h2⟩ := users_go user l [] [] hf (by simp; omega) (by simp; omega)
      have hfl := List.length_filter_le (mineP user) l
      have hro := rises_filter l (mineP user) hr
      have hfo : fits (l.filter (mineP user)) := fits_sub hf hfl (fun x hx => (List.mem_filter.1 hx).1)
      have eo : garb s (l.filter (mineP user)) = (((l.filter (mineP user)).filter (mayE s (l.filter (mineP user)))).map (·.f0), 0) := if_pos hro
      have hgo := Garbage_ev s _ hfo
      rw [eo] at hgo
      refine Ev.neg (by simp) (Ev.bind (by simpa using h1) (Ev.bind hgo (Ev.pos rfl ?_)))
      have hq : ∀ x ∈ l, (bl x.f0 ∈ mf ↔ mineP user x = true) := by
        intro x hx
        rw [h2]
        constructor
        · rintro (h | ⟨y, hy, e⟩)
          · simp at h
          · obtain ⟨hyl, hp⟩ := List.mem_filter.1 hy
            obtain rfl := rises_inj hr y hyl x hx e
            exact hp
        · intro h
          exact Or.inr ⟨x, List.mem_filter.2 ⟨hx, h⟩, rfl⟩
      have hS : (l.filter (mineP user)).filter (mayE s (l.filter (mineP user))) = (l.filter (mayE s l)).filter (fun x => decide (bl x.f0 ∈ mf)) := by
        rw [List.filter_filter, List.filter_filter]
        refine List.filter_congr fun x hx => ?_
        rw [Bool.eq_iff_iff, Bool.and_eq_true, Bool.and_eq_true, decide_eq_true_eq, hq x hx]
        constructor
        · rintro ⟨hm, hp⟩
          have hxo : x ∈ l.filter (mineP user) := List.mem_filter.2 ⟨hx, hp⟩
          have hus := (of_decide_eq_true hp : cf x ≠ 0 ∧ us x = bl user).2
          exact ⟨hp, (may_iff s hr hx).2 (fun h => (may_iff s hro hxo).1 hm ((stays_own hus).2 h))⟩
        · rintro ⟨hp, hm⟩
          have hxo : x ∈ l.filter (mineP user) := List.mem_filter.2 ⟨hx, hp⟩
          have hus := (of_decide_eq_true hp : cf x ≠ 0 ∧ us x = bl user).2
          exact ⟨(may_iff s hro hxo).2 (fun h => (may_iff s hr hx).1 hm ((stays_own hus).1 h)), hp⟩
      have ht := tell_all mf (l.filter (mayE s l)) [] (((l.filter (mineP user)).filter (mayE s (l.filter (mineP user)))).map (·.f0)) (fun x hx => hf.2 x (List.mem_filter.1 hx).1) (by rw [hS]; simp)
      exact Ev.just ht (Ev.pos rfl (Ev.val rfl))
end Go.Proofs.Ytcdadhgcjkgnoaa.GcS
