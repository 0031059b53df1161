/- gc: what the program tells is what the reference tells. -/
import Derived.Test.YtcdadhgcjkgnoaaPx0
import Derived.Test.YtcdadhgcjkgnoaaPx7
import Derived.Test.YtcdadhgcjkgnoaaPx9
import Derived.Test.YtcdadhgcjkgnoaaPx12
import Derived.Test.YtcdadhgcjkgnoaaPx15
import Derived.Test.YtcdadhgcjkgnoaaPx16
import Derived.Test.YtcdadhgcjkgnoaaPx17
import Derived.Test.YtcdadhgcjkgnoaaPx18
import Derived.Test.YtcdadhgcjkgnoaaPx19
import Derived.Test.YtcdadhgcjkgnoaaGcRdT
import Derived.Test.YtcdadhgcjkgnoaaGc3
set_option linter.unusedVariables false
set_option linter.unusedSimpArgs false
namespace Go.Proofs.Ytcdadhgcjkgnoaa.GcS
open Go.RowKit Go.Proofs.Ytcdadhgcjkgnoaa.P Go.Proofs.Ytcdadhgcjkgnoaa.Th Go.Proofs.YtcdadhgcjkgnoaaW.PrintWords Go.Proofs.YtcdadhgcjkgnoaaW.PrintLast Go.Proofs.YtcdadhgcjkgnoaaW.PrintMore

/-- The first write that may show. -/
def cnd (u : List UInt8) (T : Int) (x : ES) : Bool := decide (cf x = 2) && (decide (us x = u) && (decide (wk x ≠ 3) && decide (tm x ≤ T)))
theorem cnd_iff {u : List UInt8} {T : Int} {x : ES} : cnd u T x = true ↔ cand T u x := by
  unfold cnd cand
  simp only [Bool.and_eq_true, decide_eq_true_eq]
def isD (u : List UInt8) (x : ES) : Bool := decide (cf x = 3) && decide (us x = u)
def pairs (u : List UInt8) (l : List ES) : List (Int × List UInt8) := (l.filter (isD u)).map (fun x => (tm x, bl x.f3))
def lastW (o : Option ES) (a b : Int) : Int × Int := match o with
  | none => (a, b)
  | some x => (ws x, wk x)
theorem nx_eq (u : List UInt8) (T : Int) (x : ES) (a b : Int) (M : List (Int × List UInt8)) :
    gc_Visible.nx (lb u) T x.f3 (rxE x).1 (rxE x).2 a b M = (if isD u x = true then (a, b, (tm x, bl x.f3) :: M) else if cnd u T x = true ∧ b = 0 then (ws x, wk x, M) else (a, b, M)) := by
  have hu : (rxE x).1.us.toList = us x := toL_bl _
  unfold gc_Visible.nx isD cnd
  rw [hu, lb_toList]
  rcases cf_cases x with ⟨hk, hc⟩ | ⟨hk, hc, _⟩
  · rw [if_pos (Or.inl hk), hc]; simp
  · by_cases h1 : us x = u
    · rw [if_neg (by simp [hk, h1])]
      have hD : ((decide (cf x = 3) && decide (us x = u)) = true) ↔ (rxE x).1.cf = 3 := by rw [hc]; simp [h1]
      have hC : ((decide (cf x = 2) && (decide (us x = u) && (decide (wk x ≠ 3) && decide (tm x ≤ T)))) = true ∧ b = 0) ↔ ((rxE x).1.cf = 2 ∧ (rxE x).1.tm ≤ T ∧ ¬ (rxE x).1.wk = 3 ∧ b = 0) := by
        rw [hc]
        simp only [h1, Bool.and_eq_true, decide_eq_true_eq, true_and, decide_true]
        exact ⟨fun z => ⟨z.1.1, z.1.2.2, z.1.2.1, z.2⟩, fun z => ⟨⟨z.1, z.2.2.1, z.2.1⟩, z.2.2.2⟩⟩
      by_cases h2 : (rxE x).1.cf = 3
      · rw [if_pos h2]; exact (if_pos (hD.2 h2)).symm
      · rw [if_neg h2]
        refine Eq.trans ?_ (if_neg (fun z => h2 (hD.1 z))).symm
        by_cases h3 : (rxE x).1.cf = 2 ∧ (rxE x).1.tm ≤ T ∧ ¬ (rxE x).1.wk = 3 ∧ b = 0
        · rw [if_pos h3]; exact (if_pos (hC.2 h3)).symm
        · rw [if_neg h3]; exact (if_neg (fun z => h3 (hC.1 z))).symm
    · rw [if_pos (Or.inr h1), if_neg (by simp [h1]), if_neg (by simp [h1])]
theorem cand_kind {u : List UInt8} {T : Int} {x : ES} (h : cand T u x) : wk x ≠ 0 := by
  obtain ⟨hk, hc⟩ := cf_ok (by decide) h.1
  unfold wk
  unfold rxE rx at hk hc ⊢
  rcases rdr_all (bl x.f0) with e | ⟨c, v, t, e, hg, hs⟩
  · rw [e, if_pos (by simp)] at hk; simp at hk
  · rw [e, if_neg (by simp)] at hk hc ⊢
    by_cases h2 : (c : Int) = 1
    · rw [if_pos h2] at hc; simp only at hc; omega
    · rw [if_neg h2] at hk hc ⊢
      by_cases h3 : (c : Int) = 2
      · rw [if_pos h3] at hk hc ⊢
        rcases ColS.uwr_cases (bl x.f3) with e2 | ⟨st, kd, h1, _, e2⟩
        · rw [e2] at hk; simp [ColS.no2] at hk
        · rw [e2]; have := h1.2.1; simp only; omega
      · rw [if_neg h3] at hc; simp only at hc; omega
theorem vs_eq (u : List UInt8) (T : Int) : ∀ (l : List ES) (a b : Int) (M : List (Int × List UInt8)),
    vs (lb u) T l a b M = ((if b = 0 then lastW (l.find? (cnd u T)) a b else (a, b)).1, (if b = 0 then lastW (l.find? (cnd u T)) a b else (a, b)).2, (pairs u l).reverse ++ M)
  | [], a, b, M => by
    by_cases h : b = 0 <;> simp [vs, lastW, pairs, h]
  | x :: l, a, b, M => by
    rw [vs, nx_eq, List.find?_cons]
    by_cases h1 : isD u x = true
    · have h2 : cnd u T x = false := by
        unfold isD at h1; unfold cnd
        simp only [Bool.and_eq_true, decide_eq_true_eq] at h1
        rw [h1.1]; simp
      rw [if_pos h1, h2]
      simp only
      rw [vs_eq u T l a b _]
      have e : pairs u (x :: l) = (tm x, bl x.f3) :: pairs u l := by unfold pairs; rw [List.filter_cons, if_pos h1]; rfl
      rw [e]; simp
    · have e : pairs u (x :: l) = pairs u l := by unfold pairs; rw [List.filter_cons, if_neg h1]
      rw [if_neg h1, e]
      by_cases h2 : cnd u T x = true
      · rw [h2]
        by_cases h3 : b = 0
        · have hk := cand_kind (cnd_iff.1 h2)
          rw [if_pos ⟨rfl, h3⟩]
          simp only
          rw [vs_eq u T l _ _ M, if_neg hk, if_pos h3]
          simp [lastW]
        · rw [if_neg (fun z => h3 z.2)]
          simp only
          rw [vs_eq u T l a b M, if_neg h3, if_neg h3]
      · rw [if_neg (fun z => h2 z.1)]
        have h2' : cnd u T x = false := by simpa using h2
        rw [h2']
        simp only
        rw [vs_eq u T l a b M]
theorem tget_app (M N : List (Int × List UInt8)) (x : Int) : Mp.tget (M ++ N) x = (Mp.tget M x).or (Mp.tget N x) := by
  unfold Mp.tget
  rw [List.find?_append]
  cases List.find? (fun p => decide (p.1 = x)) M <;> simp
theorem vis_eq (u : List UInt8) (T : Int) {l : List ES} (hr : risesB l = true) : vis l (lb u) T = gc_Visible.fin (lastW (l.find? (cnd u T)) 0 0).1 (lastW (l.find? (cnd u T)) 0 0).2 (pairs u l).reverse := by
  unfold vis
  rw [if_pos hr, vs_eq]
  simp
def smE (x y : ES) : Bool := !(!(x.f0.toList == y.f0.toList) || (!(x.f1 == y.f1) || (!(x.f2 == y.f2) || !(x.f3.toList == y.f3.toList))))
theorem smE_self (x : ES) : smE x x = true := by unfold smE; simp
theorem Same_l0 (a : List ES) (ha : a.length ≤ 1000000) : ∀ (n i : Nat), i + n = a.length → Ev (fun k => screeref07_Same.l0 k a a (i : Int)) true := by
  intro n
  induction n with
  | zero =>
    intro i hi
    refine Ev.step (fun k => by rw [screeref07_Same.l0]) ?_
    exact Ev.neg (by omega) (Ev.val rfl)
  | succ n ih =>
    intro i hi
    have h1 : i < a.length := by omega
    refine Ev.step (fun k => by rw [screeref07_Same.l0]) ?_
    refine Ev.pos (by omega) (Ev.pos (by omega) (Ev.pos (by omega) ?_))
    rw [rdE h1]
    refine Ev.neg (by simp) ?_
    rw [w64 _ (by omega) (by omega)]
    exact ih (i + 1) (by omega)
theorem Same_self (a : List ES) (ha : a.length ≤ 1000000) : Ev (fun k => screeref07_Same.f k a a) true := by
  unfold screeref07_Same.f
  exact Ev.pos rfl (Same_l0 a ha a.length 0 (by omega))

/-! ### do keys rise? -/
theorem rrises_l0 (l : List ES) (hl : l.length ≤ 1000000) : ∀ (n i : Nat), i ≤ l.length → i + 1 + n = max (i + 1) l.length → Ev (fun k => screeref17_Rises.l0 k l (i : Int)) (risesB (l.drop i)) := by
  intro n
  induction n with
  | zero =>
    intro i hi0 hi
    refine Ev.step (fun k => by rw [screeref17_Rises.l0]) ?_
    rw [w64 _ (by omega) (by omega)]
    refine Ev.neg (by omega) (Ev.val ?_)
    congr 1; symm
    have : (l.drop i).length ≤ 1 := by rw [List.length_drop]; omega
    match h : l.drop i with
    | [] => rfl
    | [x] => rfl
    | x :: y :: r => rw [h] at this; simp at this
  | succ n ih =>
    intro i hi0 hi
    have h2 : i + 1 < l.length := by omega
    refine Ev.step (fun k => by rw [screeref17_Rises.l0]) ?_
    rw [w64 _ (by omega) (by omega)]
    refine Ev.pos (by omega) (Ev.pos (by omega) (Ev.pos (by omega) (Ev.pos (by omega) ?_)))
    have e1 : ((i : Int) + 1) = ((i + 1 : Nat) : Int) := by omega
    rw [e1, rdE (show i < l.length by omega), rdE h2, rises_drop l i h2, toL_bl, toL_bl]
    cases hh : less l[i] l[i + 1] with
    | true =>
      refine Ev.pos hh ?_
      rw [Bool.true_and]
      exact ih (i + 1) (by omega) (by omega)
    | false =>
      refine Ev.neg (fun e => ?_) (Ev.val rfl)
      have e2 : less l[i] l[i + 1] = true := e
      rw [hh] at e2; simp at e2
theorem RRises_ev (l : List ES) (hl : l.length ≤ 1000000) : Ev (fun k => screeref17_Rises.f k l) (risesB l) := by
  have := rrises_l0 l hl (max 1 l.length - 1) 0 (by omega) (by omega)
  simpa [screeref17_Rises.f] using this

/-! ### what a record says -/
theorem RRd_ev (x : ES) (h : small x) : Ev (fun k => screeref17_Read.f k x.f0 x.f1 x.f2 x.f3) ((sx x).cf, (sx x).us, (sx x).tm, (sx x).lp, (sx x).ls, (sx x).lk, (sx x).la, (sx x).ws, (sx x).wk) := by
  unfold screeref17_Read.f
  exact Ev.bind (rread_ev x h) (Ev.val rfl)
abbrev SS := S44
def sy (x : ES) : SS := ⟨(sx x).cf, (sx x).us, (sx x).tm, ⟨(sx x).lp, (sx x).ls, (sx x).lk, (sx x).la⟩, ⟨(sx x).ws, (sx x).wk⟩⟩
theorem rdS {l : List ES} {i : Nat} (h : i < l.length) : rd_T44 (l.map sy) (i : Int) = sy l[i] := by simp [rd_T44, h]
theorem us_of {x : ES} {n : Int} (hn : n ≠ 0) (h : cf x = n) : (sx x).us.toList = us x := by rw [sx_of hn h]; exact toL_bl _
theorem tm_of {x : ES} {n : Int} (hn : n ≠ 0) (h : cf x = n) : (sx x).tm = tm x := by rw [sx_of hn h]; rfl
theorem ls_of {x : ES} {n : Int} (hn : n ≠ 0) (h : cf x = n) : (sx x).ls = ls x := by rw [sx_of hn h]; rfl
theorem ws_of {x : ES} {n : Int} (hn : n ≠ 0) (h : cf x = n) : (sx x).ws = ws x := by rw [sx_of hn h]; rfl
theorem wk_of {x : ES} {n : Int} (hn : n ≠ 0) (h : cf x = n) : (sx x).wk = wk x := by rw [sx_of hn h]; rfl

/-! ### which write shows, what stays -/
def shB (s : Int) (l : List ES) (x : ES) : Bool := decide (tm x ≤ s) && (decide (wk x ≠ 3) && l.all (fun y => !cnd (us x) s y || decide (tm y ≤ tm x)))
theorem shB_iff {s : Int} {l : List ES} {x : ES} : shB s l x = true ↔ shows s l x := by
  unfold shB shows
  simp only [Bool.and_eq_true, decide_eq_true_eq, List.all_eq_true, Bool.or_eq_true, Bool.not_eq_true']
  refine and_congr Iff.rfl (and_congr Iff.rfl ⟨fun h y hy hc => ?_, fun h y hy => ?_⟩)
  · rcases h y hy with h2 | h2
    · rw [cnd_iff.2 hc] at h2; simp at h2
    · exact h2
  · cases hc : cnd (us x) s y with
    | false => exact Or.inl rfl
    | true => exact Or.inr (h y hy (cnd_iff.1 hc))
theorem shows_l0 (s : Int) (l : List ES) (hl : l.length ≤ 1000000) (i : Nat) (hi : i < l.length) (hx : cf l[i] = 2) : ∀ (n j : Nat), j + n = l.length → Ev (fun k => screeref17_shows.l0 k (l.map sy) (i : Int) s (j : Int)) ((l.drop j).all (fun y => !cnd (us l[i]) s y || decide (tm y ≤ tm l[i]))) := by
  intro n
  induction n with
  | zero =>
    intro j hj
    refine Ev.step (fun k => by rw [screeref17_shows.l0]) ?_
    refine Ev.neg (by rw [List.length_map]; omega) (Ev.val ?_)
    rw [List.drop_eq_nil_of_le (by omega)]; rfl
  | succ n ih =>
    intro j hj
    have h1 : j < l.length := by omega
    have nx := ih (j + 1) (by omega)
    refine Ev.step (fun k => by rw [screeref17_shows.l0]) ?_
    rw [rdS h1, rdS hi, List.drop_eq_getElem_cons h1, List.all_cons, List.length_map, w64 _ (by omega) (by omega)]
    refine Ev.pos (by omega) (Ev.pos (by omega) ?_)
    have e1 : ((j : Int) + 1) = ((j + 1 : Nat) : Int) := by omega
    rw [e1]
    obtain ⟨y, hy⟩ : ∃ y, l[j] = y := ⟨_, rfl⟩
    rw [hy]
    have hs : (sy y).f0 = cf y := sx_cf y
    have no : cnd (us l[i]) s y = false → (l.drop (j + 1)).all (fun y => !cnd (us l[i]) s y || decide (tm y ≤ tm l[i])) = ((!cnd (us l[i]) s y || decide (tm y ≤ tm l[i])) && (l.drop (j + 1)).all (fun y => !cnd (us l[i]) s y || decide (tm y ≤ tm l[i]))) := fun h => by rw [h]; rfl
    by_cases h2 : cf y = 2
    · refine Ev.pos (hs.trans h2) (Ev.pos (by omega) (Ev.pos (by omega) ?_))
      have f1 : (sy y).f1.toList = us y := us_of (by decide) h2
      have f1i : (sy l[i]).f1.toList = us l[i] := us_of (by decide) hx
      have f2 : (sy y).f2 = tm y := tm_of (by decide) h2
      have f2i : (sy l[i]).f2 = tm l[i] := tm_of (by decide) hx
      have f4 : (sy y).f4.f1 = wk y := wk_of (by decide) h2
      by_cases h3 : us y = us l[i]
      · refine Ev.pos (by rw [f1, f1i]; exact h3) ?_
        by_cases h4 : wk y = 3
        · exact Ev.pos (f4.trans h4) (Ev.eq nx (no (by unfold cnd; simp [h4])))
        · refine Ev.neg (by rw [f4]; exact h4) ?_
          by_cases h5 : tm y ≤ s
          · refine Ev.pos (by rw [f2]; exact h5) ?_
            have hc : cnd (us l[i]) s y = true := cnd_iff.2 ⟨h2, h3, h4, h5⟩
            by_cases h6 : tm y > tm l[i]
            · refine Ev.pos (by rw [f2, f2i]; exact h6) (Ev.val ?_)
              rw [hc, decide_eq_false (by omega)]; rfl
            · refine Ev.neg (by rw [f2, f2i]; exact h6) (Ev.eq nx ?_)
              rw [decide_eq_true (by omega : tm y ≤ tm l[i]), Bool.or_true, Bool.true_and]
          · exact Ev.neg (by rw [f2]; exact h5) (Ev.eq nx (no (by unfold cnd; simp [h5])))
      · exact Ev.neg (by rw [f1, f1i]; exact h3) (Ev.eq nx (no (by unfold cnd; simp [h3])))
    · exact Ev.neg (by rw [hs]; exact h2) (Ev.eq nx (no (by unfold cnd; simp [h2])))
theorem shows_ev (s : Int) (l : List ES) (hl : l.length ≤ 1000000) (i : Nat) (hi : i < l.length) (hx : cf l[i] = 2) : Ev (fun k => screeref17_shows.f k (l.map sy) (i : Int) s) (shB s l l[i]) := by
  have f2 : (sy l[i]).f2 = tm l[i] := tm_of (by decide) hx
  have f4 : (sy l[i]).f4.f1 = wk l[i] := wk_of (by decide) hx
  unfold screeref17_shows.f shB
  rw [rdS hi, List.length_map, f2, f4]
  refine Ev.pos (by omega) (Ev.pos (by omega) ?_)
  by_cases h1 : tm l[i] > s
  · refine Ev.pos h1 ?_
    refine Ev.step (fun k => by rw [screeref17_shows.j0]) ?_
    refine Ev.pos rfl (Ev.val ?_)
    rw [decide_eq_false (by omega)]; rfl
  · refine Ev.neg h1 ?_
    rw [decide_eq_true (by omega : tm l[i] ≤ s), Bool.true_and]
    refine Ev.step (fun k => by rw [screeref17_shows.j0]) ?_
    by_cases h3 : wk l[i] = 3
    · refine Ev.pos (by simp [h3]) (Ev.val ?_)
      simp [h3]
    · refine Ev.neg (by simp [h3]) ?_
      have := shows_l0 s l hl i hi hx l.length 0 (by omega)
      rw [List.drop_zero] at this
      rw [decide_eq_true h3, Bool.true_and]
      exact this
def stB (s : Int) (l : List ES) (x : ES) : Bool := decide (s < tm x) || (shB s l x && decide (wk x = 1))
theorem stB_iff {s : Int} {l : List ES} {x : ES} : stB s l x = true ↔ stW s l x := by
  unfold stB stW; simp only [Bool.or_eq_true, Bool.and_eq_true, decide_eq_true_eq, shB_iff]
theorem x_ev (s : Int) (l : List ES) (hl : l.length ≤ 1000000) (i : Nat) (hi : i < l.length) (hx : cf l[i] = 2) : Ev (fun k => screeref17_stays.x k (l.map sy) (i : Int) s) (stB s l l[i]) := by
  have f2 : (sy l[i]).f2 = tm l[i] := tm_of (by decide) hx
  have f4 : (sy l[i]).f4.f1 = wk l[i] := wk_of (by decide) hx
  unfold screeref17_stays.x stB
  rw [rdS hi, f2, f4]
  by_cases h1 : s < tm l[i]
  · refine Ev.pos h1 (Ev.val ?_); rw [decide_eq_true h1]; rfl
  · refine Ev.neg h1 (Ev.bind (shows_ev s l hl i hi hx) ?_)
    rw [decide_eq_false h1, Bool.false_or]
    cases shB s l l[i] with
    | true => exact Ev.pos rfl (Ev.val (by rw [Bool.true_and]; rfl))
    | false => exact Ev.neg (by simp) (Ev.val rfl)
def wtB (s : Int) (l : List ES) (x y : ES) : Bool := decide ((sx y).us.toList = us x) && (if cf y = 1 then decide (ls y = tm x) else if cf y = 2 then decide (wk y = 1) && (decide (ws y = tm x) && stB s l y) else false)
theorem wtB_iff {s : Int} {l : List ES} {x y : ES} : wtB s l x y = true ↔ wants s l (us x) (tm x) y := by
  unfold wtB wants
  by_cases h1 : cf y = 1
  · rw [us_of (by decide) h1, if_pos h1, h1]; simp
  · by_cases h2 : cf y = 2
    · rw [us_of (by decide) h2, if_neg h1, if_pos h2, h2]; simp [stB_iff]
    · rw [if_neg h1, if_neg h2]; simp [h1, h2]
theorem go_ev (s : Int) (l : List ES) (hl : l.length ≤ 1000000) (i : Nat) (hi : i < l.length) (hx : cf l[i] = 3) : ∀ (n j : Nat), j + n = l.length → Ev (fun k => screeref17_stays.go k (l.map sy) (i : Int) s n (j : Int)) ((l.drop j).any (wtB s l l[i])) := by
  intro n
  induction n with
  | zero =>
    intro j hj
    refine Ev.val ?_
    rw [List.drop_eq_nil_of_le (by omega)]; rfl
  | succ n ih =>
    intro j hj
    have h1 : j < l.length := by omega
    have nx := ih (j + 1) (by omega)
    have e1 : ((j + 1 : Nat) : Int) = (j : Int) + 1 := by omega
    rw [e1] at nx
    simp only [screeref17_stays.go]
    rw [rdS h1, rdS hi, List.drop_eq_getElem_cons h1, List.any_cons]
    obtain ⟨y, hy⟩ : ∃ y, l[j] = y := ⟨_, rfl⟩
    rw [hy]
    have f1i : (sy l[i]).f1.toList = us l[i] := us_of (by decide) hx
    have f2i : (sy l[i]).f2 = tm l[i] := tm_of (by decide) hx
    have f0 : (sy y).f0 = cf y := sx_cf y
    by_cases h3 : (sx y).us.toList = us l[i]
    · refine Ev.pos (by rw [f1i]; exact h3) ?_
      by_cases h4 : cf y = 1
      · refine Ev.pos (f0.trans h4) ?_
        have hw : wtB s l l[i] y = decide (ls y = tm l[i]) := by unfold wtB; rw [decide_eq_true h3, if_pos h4]; rfl
        have f3 : (sy y).f3.f1 = ls y := ls_of (by decide) h4
        rw [hw]
        by_cases h5 : ls y = tm l[i]
        · refine Ev.pos (by rw [f3, f2i]; exact h5) (Ev.val ?_); rw [decide_eq_true h5]; rfl
        · refine Ev.neg (by rw [f3, f2i]; exact h5) (Ev.eq nx ?_); rw [decide_eq_false h5]; rfl
      · refine Ev.neg (fun e => h4 (f0.symm.trans e)) ?_
        by_cases h5 : cf y = 2
        · refine Ev.pos (f0.trans h5) ?_
          have hw : wtB s l l[i] y = (decide (wk y = 1) && (decide (ws y = tm l[i]) && stB s l y)) := by unfold wtB; rw [decide_eq_true h3, if_neg h4, if_pos h5]; rfl
          have f4 : (sy y).f4.f1 = wk y := wk_of (by decide) h5
          have f5 : (sy y).f4.f0 = ws y := ws_of (by decide) h5
          rw [hw]
          by_cases h6 : wk y = 1
          · refine Ev.pos (f4.trans h6) ?_
            rw [decide_eq_true h6, Bool.true_and]
            by_cases h7 : ws y = tm l[i]
            · refine Ev.pos (by rw [f5, f2i]; exact h7) ?_
              have hxv := x_ev s l hl j h1 (by rw [hy]; exact h5)
              rw [hy] at hxv
              refine Ev.bind hxv ?_
              rw [decide_eq_true h7, Bool.true_and]
              cases stB s l y with
              | true => exact Ev.pos rfl (Ev.val rfl)
              | false => exact Ev.neg (by simp) (Ev.eq nx rfl)
            · refine Ev.neg (by rw [f5, f2i]; exact h7) (Ev.eq nx ?_); rw [decide_eq_false h7]; rfl
          · refine Ev.neg (fun e => h6 (f4.symm.trans e)) (Ev.eq nx ?_); rw [decide_eq_false h6]; rfl
        · refine Ev.neg (fun e => h5 (f0.symm.trans e)) (Ev.eq nx ?_)
          have hw : wtB s l l[i] y = false := by unfold wtB; rw [if_neg h4, if_neg h5, Bool.and_false]
          rw [hw]; rfl
    · refine Ev.neg (by rw [f1i]; exact h3) (Ev.eq nx ?_)
      have hw : wtB s l l[i] y = false := by unfold wtB; rw [decide_eq_false h3]; rfl
      rw [hw]; rfl
def sB (s : Int) (l : List ES) (x : ES) : Bool := if cf x = 2 then stB s l x else if cf x = 3 then l.any (wtB s l x) else true
theorem sB_iff {s : Int} {l : List ES} {x : ES} : sB s l x = true ↔ stays s l x := by
  unfold sB stays
  by_cases h2 : cf x = 2
  · rw [if_pos h2, stB_iff, h2]; simp
  · rw [if_neg h2]
    by_cases h3 : cf x = 3
    · rw [if_pos h3, List.any_eq_true, h3]; simp [wtB_iff]
    · rw [if_neg h3]; simp [h2, h3]
theorem stays_ev (s : Int) (l : List ES) (hl : l.length ≤ 1000000) (i : Nat) (hi : i < l.length) : Ev (fun k => screeref17_stays.f k (l.map sy) (i : Int) s) (sB s l l[i]) := by
  have f0 : (sy l[i]).f0 = cf l[i] := sx_cf _
  unfold screeref17_stays.f sB
  rw [rdS hi, List.length_map, f0]
  refine Ev.pos ⟨by omega, by omega⟩ ?_
  by_cases h2 : cf l[i] = 2
  · rw [if_pos h2]; exact Ev.pos h2 (x_ev s l hl i hi h2)
  · rw [if_neg h2]
    refine Ev.neg h2 ?_
    by_cases h3 : cf l[i] = 3
    · rw [if_pos h3]
      refine Ev.pos h3 ?_
      have := go_ev s l hl i hi h3 l.length 0 (by omega)
      rw [List.drop_zero] at this
      exact this
    · rw [if_neg h3]; exact Ev.neg h3 (Ev.val rfl)
theorem sB_may {s : Int} {l : List ES} (hr : risesB l = true) {x : ES} (hx : x ∈ l) : sB s l x = !mayE s l x := by
  have h := may_iff s hr hx
  rw [← sB_iff] at h
  cases hb : sB s l x <;> cases hm : mayE s l x <;> simp_all

/-! ### what may go, what stays -/
theorem split_l1 (s : Int) (l : List ES) (hl : l.length ≤ 1000000) : ∀ (n j : Nat) (g m : List ES), j + n = l.length → g.length ≤ j → m.length ≤ j → Ev (fun k => screeref17_Split.l1 k l s (l.map sy) g m (j : Int)) (g ++ (l.drop j).filter (fun x => !sB s l x), m ++ (l.drop j).filter (sB s l)) := by
  intro n
  induction n with
  | zero =>
    intro j g m hj hg hm
    refine Ev.step (fun k => by rw [screeref17_Split.l1]) ?_
    refine Ev.neg (by omega) (Ev.val ?_)
    rw [List.drop_eq_nil_of_le (by omega)]; simp
  | succ n ih =>
    intro j g m hj hg hm
    have h1 : j < l.length := by omega
    refine Ev.step (fun k => by rw [screeref17_Split.l1]) ?_
    refine Ev.pos (by omega) (Ev.bind (stays_ev s l hl j h1) ?_)
    rw [rdE h1, w64 _ (by omega) (by omega), List.drop_eq_getElem_cons h1, List.filter_cons, List.filter_cons]
    have e1 : ((j : Int) + 1) = ((j + 1 : Nat) : Int) := by omega
    rw [e1]
    cases hs : sB s l l[j] with
    | true =>
      refine Ev.pos rfl (Ev.pos (by omega) (Ev.pos (by omega) ?_))
      exact Ev.eq (ih (j + 1) g (m ++ [l[j]]) (by omega) (by omega) (by simp; omega)) (by simp)
    | false =>
      refine Ev.neg (by simp) (Ev.pos (by omega) (Ev.pos (by omega) ?_))
      exact Ev.eq (ih (j + 1) (g ++ [l[j]]) m (by omega) (by simp; omega) (by omega)) (by simp)
theorem split_l0 (s : Int) (l : List ES) (hf : fits l) : ∀ (n j : Nat), j + n = l.length → Ev (fun k => screeref17_Split.l0 k l s ((l.take j).map sy) (j : Int)) (l.filter (fun x => !sB s l x), l.filter (sB s l)) := by
  have hl := hf.1
  intro n
  induction n with
  | zero =>
    intro j hj
    refine Ev.step (fun k => by rw [screeref17_Split.l0]) ?_
    refine Ev.neg (by omega) ?_
    rw [List.take_of_length_le (by omega)]
    have := split_l1 s l (by omega) l.length 0 [] [] (by omega) (by simp) (by simp)
    simpa using this
  | succ n ih =>
    intro j hj
    have h1 : j < l.length := by omega
    refine Ev.step (fun k => by rw [screeref17_Split.l0]) ?_
    rw [rdE h1, w64 _ (by omega) (by omega)]
    refine Ev.pos (by omega) (Ev.pos (by omega) (Ev.bind (RRd_ev l[j] (hf.2 _ (List.getElem_mem h1))) (Ev.pos (by simp; omega) ?_)))
    have e1 : ((j : Int) + 1) = ((j + 1 : Nat) : Int) := by omega
    have e : (l.take j).map sy ++ [sy l[j]] = (l.take (j + 1)).map sy := by rw [List.take_succ_eq_append_getElem h1, List.map_append]; rfl
    have := ih (j + 1) (by omega)
    rw [← e, ← e1] at this
    exact this
theorem Split_ev (s : Int) (l : List ES) (hf : fits l) (hr : risesB l = true) : Ev (fun k => screeref17_Split.f k l s) (l.filter (mayE s l), l.filter (fun x => !mayE s l x)) := by
  have := split_l0 s l hf l.length 0 (by omega)
  rw [List.take_zero] at this
  have e1 : l.filter (fun x => !sB s l x) = l.filter (mayE s l) := List.filter_congr fun x hx => by rw [sB_may hr hx, Bool.not_not]
  have e2 : l.filter (sB s l) = l.filter (fun x => !mayE s l x) := List.filter_congr fun x hx => sB_may hr hx
  rw [e1, e2] at this
  exact this
theorem rgarb_l0 (m : List ES) (hm : m.length ≤ 100000) : ∀ (n i : Nat) (acc : List ByteArray), i + n = m.length → acc.length = i → Ev (fun k => screeref17_Garbage.l0 k m acc (i : Int)) (acc ++ (m.drop i).map (·.f0), 0) := by
  intro n
  induction n with
  | zero =>
    intro i acc hi ha
    refine Ev.step (fun k => by rw [screeref17_Garbage.l0]) ?_
    refine Ev.neg (by omega) (Ev.val ?_)
    rw [List.drop_eq_nil_of_le (by omega)]; simp
  | succ n ih =>
    intro i acc hi ha
    have h1 : i < m.length := by omega
    refine Ev.step (fun k => by rw [screeref17_Garbage.l0]) ?_
    refine Ev.pos (by omega) (Ev.pos (by omega) (Ev.pos (by omega) ?_))
    rw [rdE h1, w64 _ (by omega) (by omega)]
    have e1 : ((i : Int) + 1) = ((i + 1 : Nat) : Int) := by omega
    rw [e1]
    refine Ev.eq (ih (i + 1) (acc ++ [m[i].f0]) (by omega) (by simp [ha])) ?_
    rw [List.drop_eq_getElem_cons h1, List.map_cons, List.append_assoc, List.singleton_append]
theorem RGarbage_ev (s : Int) (l : List ES) (h : fits l) : Ev (fun k => screeref17_Garbage.f k l s) (garb s l) := by
  have hl := h.1
  unfold screeref17_Garbage.f garb
  refine Ev.bind (RRises_ev l (by omega)) ?_
  cases hr : risesB l with
  | false => exact Ev.neg (by simp) (Ev.val rfl)
  | true =>
    have hle := List.length_filter_le (mayE s l) l
    refine Ev.pos rfl (Ev.bind (Split_ev s l h hr) ?_)
    exact Ev.eq (rgarb_l0 (l.filter (mayE s l)) (by omega) (l.filter (mayE s l)).length 0 [] (by omega) rfl) (by simp)
theorem RLeft_ev (s : Int) (l : List ES) (h : fits l) : Ev (fun k => screeref17_Left.f k l s) (left s l) := by
  have hl := h.1
  unfold screeref17_Left.f left
  refine Ev.bind (RRises_ev l (by omega)) ?_
  cases hr : risesB l with
  | false => exact Ev.neg (by simp) (Ev.val rfl)
  | true => exact Ev.pos rfl (Ev.bind (Split_ev s l h hr) (Ev.val rfl))

/-! ### how many there are -/
theorem rcounts_l0 (l : List ES) (hf : fits l) : ∀ (n j : Nat) (z a b c : Int), j + n = l.length → (0 ≤ z ∧ z ≤ j) → (0 ≤ a ∧ a ≤ j) → (0 ≤ b ∧ b ≤ j) → (0 ≤ c ∧ c ≤ j) → Ev (fun k => screeref17_Counts.l0 k l [z, a, b, c] (j : Int)) (a + cn 1 (l.drop j), b + cn 2 (l.drop j), c + cn 3 (l.drop j)) := by
  have hl := hf.1
  intro n
  induction n with
  | zero =>
    intro j z a b c hj hz ha hb hc
    refine Ev.step (fun k => by rw [screeref17_Counts.l0]) ?_
    refine Ev.neg (by omega) (Ev.pos (by simp) (Ev.pos (by simp) (Ev.pos (by simp) (Ev.val ?_))))
    rw [List.drop_eq_nil_of_le (by omega)]
    simp [cn, rd]
  | succ n ih =>
    intro j z a b c hj hz ha hb hc
    have h1 : j < l.length := by omega
    have hlen : (([z, a, b, c] : List Int).length : Int) = 4 := rfl
    refine Ev.step (fun k => by rw [screeref17_Counts.l0]) ?_
    rw [rdE h1]
    refine Ev.pos (by omega) (Ev.pos (by omega) (Ev.bind (RRd_ev l[j] (hf.2 _ (List.getElem_mem h1))) ?_))
    dsimp only
    rw [sx_cf, hlen, List.drop_eq_getElem_cons h1, cn_cons, cn_cons, cn_cons]
    have e1 : wrap64 ((j : Int) + 1) = ((j + 1 : Nat) : Int) := by rw [w64 _ (by omega) (by omega)]; omega
    rw [e1]
    clear e1
    rcases cf_cases l[j] with ⟨_, h0⟩ | ⟨_, _, h0 | h0 | h0⟩
    · rw [h0]
      refine Ev.pos (by decide) (Ev.pos (by decide) ?_)
      have e2 : ([z, a, b, c] : List Int).set (0 : Int).toNat (wrap64 (rd [z, a, b, c] 0 + 1)) = [z + 1, a, b, c] := by
        have : rd [z, a, b, c] 0 = z := rfl
        rw [this, w64 _ (by omega) (by omega)]; rfl
      rw [e2]
      refine Ev.eq (ih (j + 1) (z + 1) a b c (by omega) (by omega) (by omega) (by omega) (by omega)) ?_
      simp
    · rw [h0]
      refine Ev.pos (by decide) (Ev.pos (by decide) ?_)
      have e2 : ([z, a, b, c] : List Int).set (1 : Int).toNat (wrap64 (rd [z, a, b, c] 1 + 1)) = [z, a + 1, b, c] := by
        have : rd [z, a, b, c] 1 = a := rfl
        rw [this, w64 _ (by omega) (by omega)]; rfl
      rw [e2]
      refine Ev.eq (ih (j + 1) z (a + 1) b c (by omega) (by omega) (by omega) (by omega) (by omega)) ?_
      simp; omega
    · rw [h0]
      refine Ev.pos (by decide) (Ev.pos (by decide) ?_)
      have e2 : ([z, a, b, c] : List Int).set (2 : Int).toNat (wrap64 (rd [z, a, b, c] 2 + 1)) = [z, a, b + 1, c] := by
        have : rd [z, a, b, c] 2 = b := rfl
        rw [this, w64 _ (by omega) (by omega)]; rfl
      rw [e2]
      refine Ev.eq (ih (j + 1) z a (b + 1) c (by omega) (by omega) (by omega) (by omega) (by omega)) ?_
      simp; omega
    · rw [h0]
      refine Ev.pos (by decide) (Ev.pos (by decide) ?_)
      have e2 : ([z, a, b, c] : List Int).set (3 : Int).toNat (wrap64 (rd [z, a, b, c] 3 + 1)) = [z, a, b, c + 1] := by
        have : rd [z, a, b, c] 3 = c := rfl
        rw [this, w64 _ (by omega) (by omega)]; rfl
      rw [e2]
      refine Ev.eq (ih (j + 1) z a b (c + 1) (by omega) (by omega) (by omega) (by omega) (by omega)) ?_
      simp; omega
theorem RCounts_ev (l : List ES) (hf : fits l) : Ev (fun k => screeref17_Counts.f k l) (cn 1 l, cn 2 l, cn 3 l) := by
  unfold screeref17_Counts.f
  exact Ev.eq (rcounts_l0 l hf l.length 0 0 0 0 0 (by omega) (by omega) (by omega) (by omega) (by omega)) (by simp)

/-! ### what is visible -/
def dat (u : List UInt8) (t : Int) (x : ES) : Bool := isD u x && decide (tm x = t)
theorem dat_one {u : List UInt8} {t : Int} {x y : ES} (hx : dat u t x = true) (hy : dat u t y = true) : bl x.f0 = bl y.f0 := by
  unfold dat isD at hx hy
  simp only [Bool.and_eq_true, decide_eq_true_eq] at hx hy
  obtain ⟨c, t1, hc, _, hk, ht⟩ := rec_key (by decide) hx.1.1
  obtain ⟨d, t2, hd, _, hk2, ht2⟩ := rec_key (by decide) hy.1.1
  obtain rfl : c = d := by omega
  obtain rfl : t1 = t2 := by omega
  rw [hk, hk2, hx.1.2, hy.1.2]
theorem tget_find (u : List UInt8) (t : Int) : ∀ {l : List ES}, risesB l = true → Mp.tget (pairs u l).reverse t = (l.find? (dat u t)).map (fun x => bl x.f3)
  | [], _ => rfl
  | x :: l, hr => by
    have hall := rises_all l x hr
    have ih := tget_find u t (rises_tail hr)
    rw [List.find?_cons]
    by_cases h1 : isD u x = true
    · have e : pairs u (x :: l) = (tm x, bl x.f3) :: pairs u l := by unfold pairs; rw [List.filter_cons, if_pos h1]; rfl
      rw [e, List.reverse_cons, tget_app, ih]
      by_cases h2 : tm x = t
      · have hd : dat u t x = true := by unfold dat; rw [h1, decide_eq_true h2]; rfl
        have hn : l.find? (dat u t) = none := by
          rw [List.find?_eq_none]
          intro y hy hd2
          exact less_ne (hall y hy) (dat_one hd hd2)
        rw [hd, hn]
        simp [Mp.tget, h2]
      · have hd : dat u t x = false := by unfold dat; rw [decide_eq_false h2, Bool.and_false]
        rw [hd]
        simp [Mp.tget, h2]
    · have e : pairs u (x :: l) = pairs u l := by unfold pairs; rw [List.filter_cons, if_neg h1]
      have hd : dat u t x = false := by unfold dat; rw [show isD u x = false by simpa using h1]; rfl
      rw [e, hd, ih]
def fnd (u : List UInt8) (a b : Int) (l : List ES) : ByteArray × Bool := if b = 1 then (match l.find? (dat u a) with
  | some x => (x.f3, true)
  | none => (⟨#[]⟩, false)) else (⟨#[]⟩, false)
theorem fin_fnd (u : List UInt8) (a b : Int) {l : List ES} (hr : risesB l = true) : gc_Visible.fin a b (pairs u l).reverse = fnd u a b l := by
  unfold gc_Visible.fin fnd
  rw [tget_find u a hr]
  by_cases h : b = 1
  · rw [if_pos h]
    cases hf : l.find? (dat u a) with
    | none => simp
    | some x =>
      rw [if_pos (by simp [h])]
      simp only [Option.map_some, Option.getD_some]
      have : lb (bl x.f3) = x.f3 := lb_bl _
      exact congrArg (·, true) this
  · rw [if_neg h, if_neg (fun z => h z.1)]
theorem rvis_l1 (u : List UInt8) (l : List ES) (hf : fits l) (r : gc_read.R) : ∀ (n i : Nat), i + n = l.length → Ev (fun k => screeref17_Visible.l1 k l (lb u) (i : Int) r.cf r.us r.tm r.lp r.ls r.lk r.la r.ws r.wk) (fnd u r.ws r.wk (l.drop i)) := by
  have hl := hf.1
  intro n
  induction n with
  | zero =>
    intro i hi
    refine Ev.step (fun k => by rw [screeref17_Visible.l1]) ?_
    refine Ev.neg (by omega) ?_
    refine Ev.step (fun k => by rw [screeref17_Visible.j2]) ?_
    refine Ev.neg (by simp) (Ev.val ?_)
    rw [List.drop_eq_nil_of_le (by omega)]
    unfold fnd
    split <;> rfl
  | succ n ih =>
    intro i hi
    have h1 : i < l.length := by omega
    have nx := ih (i + 1) (by omega)
    have e1 : wrap64 ((i : Int) + 1) = ((i + 1 : Nat) : Int) := by rw [w64 _ (by omega) (by omega)]; omega
    refine Ev.step (fun k => by rw [screeref17_Visible.l1]) ?_
    refine Ev.pos (by omega) ?_
    refine Ev.step (fun k => by rw [screeref17_Visible.j2]) ?_
    by_cases h2 : r.wk = 1
    · refine Ev.pos (by simp [h2]) (Ev.pos (by omega) (Ev.pos (by omega) ?_))
      rw [rdE h1, e1]
      clear e1
      refine Ev.bind (RRd_ev l[i] (hf.2 _ (List.getElem_mem h1))) ?_
      dsimp only
      rw [sx_cf, lb_toList]
      have go : dat u r.ws l[i] = false → fnd u r.ws r.wk (l.drop (i + 1)) = fnd u r.ws r.wk (l.drop i) := fun h => by
        unfold fnd
        rw [List.drop_eq_getElem_cons h1, List.find?_cons, h]
      by_cases h3 : cf l[i] = 3
      · refine Ev.pos h3 ?_
        rw [us_of (by decide) h3, tm_of (by decide) h3]
        by_cases h4 : us l[i] = u
        · refine Ev.pos h4 ?_
          by_cases h5 : tm l[i] = r.ws
          · refine Ev.pos h5 (Ev.val ?_)
            have hd : dat u r.ws l[i] = true := by unfold dat isD; simp [h3, h4, h5]
            unfold fnd
            rw [if_pos h2, List.drop_eq_getElem_cons h1, List.find?_cons, hd]
          · exact Ev.neg h5 (Ev.eq nx (go (by unfold dat; simp [h5])))
        · exact Ev.neg h4 (Ev.eq nx (go (by unfold dat isD; simp [h4])))
      · exact Ev.neg h3 (Ev.eq nx (go (by unfold dat isD; simp [h3])))
    · refine Ev.neg (by simp [h2]) (Ev.val ?_)
      unfold fnd
      rw [if_neg h2]
/-- The best write as yet. -/
def bst (u : List UInt8) (T : Int) : List ES → gc_read.R → gc_read.R
  | [], r => r
  | x :: l, r => bst u T l (if cnd u T x = true ∧ (r.cf = 0 ∨ tm x > r.tm) then sx x else r)
theorem rvis_l0 (u : List UInt8) (T : Int) (l : List ES) (hf : fits l) (R : ByteArray × Bool) : ∀ (n i : Nat) (r : gc_read.R), i + n = l.length → (∀ q, q = bst u T (l.drop i) r → fnd u q.ws q.wk l = R) → Ev (fun k => screeref17_Visible.l0 k l (lb u) T (i : Int) r.cf r.us r.tm r.lp r.ls r.lk r.la r.ws r.wk) R := by
  have hl := hf.1
  intro n
  induction n with
  | zero =>
    intro i r hi hq
    refine Ev.step (fun k => by rw [screeref17_Visible.l0]) ?_
    refine Ev.neg (by omega) ?_
    have h2 := hq r (by rw [List.drop_eq_nil_of_le (by omega)]; rfl)
    have := rvis_l1 u l hf r l.length 0 (by omega)
    rw [List.drop_zero, h2] at this
    exact this
  | succ n ih =>
    intro i r hi hq
    have h1 : i < l.length := by omega
    rw [List.drop_eq_getElem_cons h1] at hq
    have e1 : wrap64 ((i : Int) + 1) = ((i + 1 : Nat) : Int) := by rw [w64 _ (by omega) (by omega)]; omega
    refine Ev.step (fun k => by rw [screeref17_Visible.l0]) ?_
    rw [rdE h1, e1]
    clear e1
    refine Ev.pos (by omega) (Ev.pos (by omega) (Ev.bind (RRd_ev l[i] (hf.2 _ (List.getElem_mem h1))) ?_))
    dsimp only
    rw [sx_cf, lb_toList]
    have no : ¬ (cnd u T l[i] = true ∧ (r.cf = 0 ∨ tm l[i] > r.tm)) → Ev (fun k => screeref17_Visible.l0 k l (lb u) T ((i + 1 : Nat) : Int) r.cf r.us r.tm r.lp r.ls r.lk r.la r.ws r.wk) R := fun h =>
      ih (i + 1) r (by omega) (fun q e => hq q (by rw [e, bst, if_neg h]))
    by_cases h2 : cf l[i] = 2
    · refine Ev.pos h2 ?_
      rw [us_of (by decide) h2, wk_of (by decide) h2, tm_of (by decide) h2]
      by_cases h3 : us l[i] = u
      · refine Ev.pos h3 ?_
        by_cases h4 : wk l[i] = 3
        · exact Ev.pos h4 (no (by unfold cnd; simp [h4]))
        · refine Ev.neg h4 ?_
          by_cases h5 : tm l[i] ≤ T
          · refine Ev.pos h5 ?_
            have hc : cnd u T l[i] = true := cnd_iff.2 ⟨h2, h3, h4, h5⟩
            have yes : (r.cf = 0 ∨ tm l[i] > r.tm) → Ev (fun k => screeref17_Visible.l0 k l (lb u) T ((i + 1 : Nat) : Int) (sx l[i]).cf (sx l[i]).us (sx l[i]).tm (sx l[i]).lp (sx l[i]).ls (sx l[i]).lk (sx l[i]).la (sx l[i]).ws (sx l[i]).wk) R := fun h =>
              ih (i + 1) (sx l[i]) (by omega) (fun q e => hq q (by rw [e, bst, if_pos ⟨hc, h⟩]))
            rw [sx_cf, tm_of (by decide) h2, ws_of (by decide) h2, wk_of (by decide) h2] at yes
            by_cases h6 : r.cf = 0
            · exact Ev.pos h6 (by have := yes (Or.inl h6); rw [ws_of (by decide) h2]; exact this)
            · refine Ev.neg h6 ?_
              by_cases h7 : tm l[i] > r.tm
              · exact Ev.pos h7 (by have := yes (Or.inr h7); rw [ws_of (by decide) h2]; exact this)
              · exact Ev.neg h7 (no (fun z => z.2.elim h6 h7))
          · exact Ev.neg h5 (no (by unfold cnd; simp [h5]))
      · exact Ev.neg h3 (no (by unfold cnd; simp [h3]))
    · exact Ev.neg h2 (no (by unfold cnd; simp [h2]))
theorem bst_keep (u : List UInt8) (T : Int) (r : gc_read.R) (hr : r.cf ≠ 0) : ∀ (l : List ES), (∀ y ∈ l, cnd u T y = true → tm y ≤ r.tm) → bst u T l r = r
  | [], _ => rfl
  | x :: l, h => by
    rw [bst, if_neg (fun z => z.2.elim hr (fun z2 => by have := h x (by simp) z.1; omega))]
    exact bst_keep u T r hr l (fun y hy => h y (by simp [hy]))
theorem bst_find (u : List UInt8) (T : Int) : ∀ {l : List ES}, risesB l = true → bst u T l gc_read.none_ = (match l.find? (cnd u T) with
    | some x => sx x
    | none => gc_read.none_)
  | [], _ => rfl
  | x :: l, hr => by
    have hall := rises_all l x hr
    rw [bst, List.find?_cons]
    by_cases hc : cnd u T x = true
    · rw [if_pos ⟨hc, Or.inl none_cf⟩, hc]
      have h2 := cnd_iff.1 hc
      refine bst_keep u T _ (by rw [sx_cf, h2.1]; decide) l (fun y hy hy2 => ?_)
      have h3 := cnd_iff.1 hy2
      have := later h2.1 h3.1 (h2.2.1.trans h3.2.1.symm) (hall y hy)
      rw [tm_of (by decide) h2.1]; omega
    · rw [if_neg (fun z => hc z.1), show cnd u T x = false by simpa using hc]
      exact bst_find u T (rises_tail hr)
theorem RVisible_ev (l : List ES) (user : ByteArray) (t : Int) (h : fits l) : Ev (fun k => screeref17_Visible.f k l user t) (vis l user t) := by
  have hl := h.1
  obtain ⟨u, rfl⟩ : ∃ u, lb u = user := ⟨bl user, lb_bl user⟩
  unfold screeref17_Visible.f
  refine Ev.bind (RRises_ev l (by omega)) ?_
  cases hr : risesB l with
  | false =>
    refine Ev.neg (by simp) (Ev.val ?_)
    unfold vis
    rw [hr]; rfl
  | true =>
    refine Ev.pos rfl ?_
    rw [vis_eq u t hr, fin_fnd u _ _ hr]
    refine rvis_l0 u t l h _ l.length 0 gc_read.none_ (by omega) (fun q e => ?_)
    rw [List.drop_zero, bst_find u t hr] at e
    cases hf : l.find? (cnd u t) with
    | none => rw [hf] at e; rw [e]; rfl
    | some x =>
      rw [hf] at e
      have hc := cnd_iff.1 (List.find?_some hf)
      rw [e]
      simp only
      rw [ws_of (by decide) hc.1, wk_of (by decide) hc.1]
      rfl

/-! ### the law -/
theorem tells_l0 (l : List ES) (s : Int) (user : ByteArray) (t : Int) (hf : fits l) (h80 : l.length ≤ 80) : ∀ (n i : Nat), i + n = (garb s l).1.length → Ev (fun k => screelaw17_GcTells.l0 k l s user t l (garb s l).1 (garb s l).1 ((garb s l).1.length : Int) (i : Int)) true := by
  have hg : (garb s l).1.length ≤ 80 := by
    unfold garb
    split
    · have := List.length_filter_le (mayE s l) l; simp only [List.length_map]; omega
    · simp
  intro n
  induction n with
  | zero =>
    intro i hi
    refine Ev.step (fun k => by rw [screelaw17_GcTells.l0]) ?_
    have h2 : (left s l).1.length ≤ 1000000 := by
      unfold left
      split
      · have := List.length_filter_le (fun x => !mayE s l x) l; simp only; omega
      · simp
    refine Ev.neg (by omega) (Ev.bind (Left_ev s l hf) (Ev.bind (RLeft_ev s l hf) (Ev.bind (Visible_ev l user t hf) (Ev.bind (RVisible_ev l user t hf) (Ev.bind (Counts_ev l hf) (Ev.bind (RCounts_ev l hf) (Ev.bind (Same_self _ h2) ?_)))))))
    exact Ev.pos rfl (Ev.pos rfl (Ev.pos rfl (Ev.pos (by simp) (Ev.pos rfl (Ev.pos rfl (Ev.pos rfl (Ev.bind (Same_self l (by omega)) (Ev.val rfl))))))))
  | succ n ih =>
    intro i hi
    refine Ev.step (fun k => by rw [screelaw17_GcTells.l0]) ?_
    refine Ev.pos (by omega) (Ev.pos (by omega) (Ev.pos (by omega) (Ev.pos (by omega) (Ev.pos rfl ?_))))
    have e1 : wrap64 ((i : Int) + 1) = ((i + 1 : Nat) : Int) := by rw [w64 _ (by omega) (by omega)]; omega
    rw [e1]
    exact ih (i + 1) (by omega)
theorem GcTells : ∀ (l0 : List ES) (a1 : Int) (a2 : ByteArray) (a3 : Int), (((∀ x ∈ l0, (x.f0.size ≤ 140737488351232 ∧ (Lit.int .u64 x.f1).wf = true ∧ True ∧ x.f3.size ≤ 140737488351232)) ∧ l0.length * 48 ≤ 140737488351232)) → ((Lit.int .u64 a1).wf = true) → (a2.size ≤ 140737488351232) → ((Lit.int .u64 a3).wf = true) → ∃ k, screelaw17_GcTells.f k l0 a1 a2 a3 = some true := by
  intro l s user t _ _ _ _
  refine Ev.rounds ?_
  unfold screelaw17_GcTells.f
  refine Ev.bind awake_ev (Ev.pos rfl (Ev.bind (large_ev l) ?_))
  cases hg : lrg l with
  | true =>
    refine Ev.pos rfl ?_
    refine Ev.step (fun k => by rw [screelaw17_GcTells.j0]) ?_
    exact Ev.pos rfl (Ev.val rfl)
  | false =>
    obtain ⟨h80, hf⟩ := lrg_no hg
    refine Ev.neg (by simp) ?_
    refine Ev.step (fun k => by rw [screelaw17_GcTells.j0]) ?_
    by_cases hu : (user.size : Int) > 300
    · exact Ev.pos (decide_eq_true hu) (Ev.val rfl)
    refine Ev.neg (by rw [decide_eq_false hu]; simp) (Ev.just rfl (Ev.pos (by simp; omega) (Ev.just rfl ?_)))
    refine Ev.bind (Garbage_ev s l hf) (Ev.bind (RGarbage_ev s l hf) (Ev.pos rfl ?_))
    refine Ev.step (fun k => by rw [screelaw17_GcTells.j1]) ?_
    refine Ev.neg (by simp) ?_
    exact tells_l0 l s user t hf h80 (garb s l).1.length 0 (by omega)
end Go.Proofs.Ytcdadhgcjkgnoaa.GcS
