/- batch: what is decoded. -/
import Derived.Test.YtfgelbkhjiajfaaBat
set_option linter.unusedVariables false
set_option linter.unusedSimpArgs false
namespace Go.Proofs.Ytfgelbkhjiajfaa.BatS
open Go.RowKit Go.Proofs.Ytfgelbkhjiajfaa.P Go.Proofs.Ytfgelbkhjiajfaa.Th Go.Proofs.Ytfgelbkhjiajfaa.NumS Go.Proofs.YtfgelbkhjiajfaaW.PrintWords Go.Proofs.YtfgelbkhjiajfaaW.PrintLast Go.Proofs.YtfgelbkhjiajfaaW.PrintMore

def nu (s : List UInt8) (g : Bool) : Nat × List UInt8 × Bool := match tk s with
  | some (n, r) => (n, r, g)
  | none => (0, [], false)
theorem nu_some {s r : List UInt8} {n : Nat} (h : tk s = some (n, r)) (g : Bool) : nu s g = (n, r, g) := by unfold nu; rw [h]
theorem nu_none {s : List UInt8} (h : tk s = none) (g : Bool) : nu s g = (0, [], false) := by unfold nu; rw [h]
theorem nu_le (s : List UInt8) (g : Bool) : (nu s g).2.1.length ≤ s.length ∧ (nu s g).1 < 18446744073709551616 := by
  cases h : tk s with
  | none => rw [nu_none h]; simp
  | some q =>
    obtain ⟨n, r⟩ := q
    rw [nu_some h]
    obtain ⟨h1, h2⟩ := (tk_iff _ _ _).1 h
    exact ⟨by rw [h2]; simp, h1⟩
theorem nu_good {s r : List UInt8} {g : Bool} {n : Nat} (h : nu s g = (n, r, true)) : g = true ∧ s = short n ++ r ∧ n < 18446744073709551616 := by
  cases e : tk s with
  | none => rw [nu_none e] at h; simp at h
  | some q =>
    obtain ⟨n', r'⟩ := q
    rw [nu_some e] at h
    simp only [Prod.mk.injEq] at h
    obtain ⟨rfl, rfl, rfl⟩ := h
    obtain ⟨h1, h2⟩ := (tk_iff _ _ _).1 e
    exact ⟨rfl, h2, h1⟩
theorem nu_short {n : Nat} (h : n < 18446744073709551616) (r : List UInt8) (g : Bool) : nu (short n ++ r) g = (n, r, g) := nu_some (tk_short n r h) g
theorem number_ev (s : List UInt8) (g : Bool) (h : s.length ≤ 140737488351232) : Ev (fun k => batch_Decode.number k (lb s) g) (((nu s g).1 : Int), lb (nu s g).2.1, (nu s g).2.2) := by
  unfold batch_Decode.number
  refine Ev.bind (Take_ev s h) (Ev.val ?_)
  cases e : tk s with
  | none => rw [nu_none e]; simp [tres]
  | some q => obtain ⟨n, r⟩ := q; rw [nu_some e]; simp [tres]
def ta (s : List UInt8) (g : Bool) : List UInt8 × List UInt8 × Bool :=
  if (nu s g).2.2 = true then (if (nu s g).1 > (nu s g).2.1.length then ([], (nu s g).2.1, false) else ((nu s g).2.1.take (nu s g).1, (nu s g).2.1.drop (nu s g).1, true)) else ([], (nu s g).2.1, false)
theorem ta_le (s : List UInt8) (g : Bool) : (ta s g).2.1.length ≤ s.length ∧ (ta s g).1.length ≤ s.length := by
  have h := (nu_le s g).1
  unfold ta
  split
  · split
    · exact ⟨h, by simp⟩
    · simp; omega
  · exact ⟨h, by simp⟩
theorem take_ev (s : List UInt8) (g : Bool) (h : s.length ≤ 140737488351232) : Ev (fun k => batch_Decode.take k (lb s) g) (lb (ta s g).1, lb (ta s g).2.1, (ta s g).2.2) := by
  unfold batch_Decode.take
  refine Ev.bind (number_ev s g h) ?_
  have hl := nu_le s g
  unfold ta
  generalize nu s g = q at hl ⊢
  obtain ⟨n, r, g'⟩ := q
  simp only at hl ⊢
  cases g' with
  | false => exact Ev.neg (by simp) (Ev.val rfl)
  | true =>
    refine Ev.pos rfl ?_
    have hr : r.length ≤ 140737488351232 := Nat.le_trans hl.1 h
    have e1 : IntKind.u64.wrap ((lb r).size : Int) = (r.length : Int) := by rw [lb_size]; exact wu_nat _ (by omega)
    rw [e1]
    by_cases h1 : n > r.length
    · refine Ev.pos (by omega) (Ev.val ?_)
      rw [if_pos rfl, if_pos h1]; rfl
    · refine Ev.neg (by omega) (Ev.pos (by omega) (Ev.pos (by rw [lb_size]; omega) (Ev.val ?_)))
      rw [if_pos rfl, if_neg h1, lb_extract, lb_extract, lb_size]
      simp
theorem ta_good {s t r : List UInt8} {g : Bool} (h : ta s g = (t, r, true)) : g = true ∧ s = txt t ++ r := by
  unfold ta at h
  by_cases h1 : (nu s g).2.2 = true
  · rw [if_pos h1] at h
    by_cases h2 : (nu s g).1 > (nu s g).2.1.length
    · rw [if_pos h2] at h; simp at h
    · rw [if_neg h2] at h
      obtain ⟨n, r0, g', e⟩ : ∃ n r0 g', nu s g = (n, r0, g') := ⟨_, _, _, rfl⟩
      rw [e] at h h1 h2
      simp only at h h1 h2
      subst h1
      simp only [Prod.mk.injEq] at h
      obtain ⟨rfl, rfl, _⟩ := h
      obtain ⟨h3, h4, h5⟩ := nu_good e
      refine ⟨h3, ?_⟩
      unfold txt
      rw [List.length_take, Nat.min_eq_left (by omega), List.append_assoc, List.take_append_drop]
      exact h4
  · rw [if_neg h1] at h; simp at h
theorem ta_txt {t : List UInt8} (h : t.length < 18446744073709551616) (r : List UInt8) : ta (txt t ++ r) true = (t, r, true) := by
  unfold ta
  have e : nu (txt t ++ r) true = (t.length, t ++ r, true) := by
    unfold txt; rw [List.append_assoc]; exact nu_short h _ _
  rw [e]
  simp
/-- m operations, one behind the other. -/
def gp : Nat → List UInt8 → Bool → List OS → List UInt8 × Bool × List OS
  | 0, s, g, l => (s, g, l)
  | m + 1, s, g, l =>
    if (nu s g).1 = 1 then gp m (ta (nu s g).2.1 (nu s g).2.2).2.1 ((ta (nu s g).2.1 (nu s g).2.2).2.2 && decide ((nu s g).1 ≤ 1)) (l ++ [⟨true, lb (ta (nu s g).2.1 (nu s g).2.2).1, lb []⟩])
    else gp m (ta (ta (nu s g).2.1 (nu s g).2.2).2.1 (ta (nu s g).2.1 (nu s g).2.2).2.2).2.1 ((ta (ta (nu s g).2.1 (nu s g).2.2).2.1 (ta (nu s g).2.1 (nu s g).2.2).2.2).2.2 && decide ((nu s g).1 ≤ 1)) (l ++ [⟨false, lb (ta (nu s g).2.1 (nu s g).2.2).1, lb (ta (ta (nu s g).2.1 (nu s g).2.2).2.1 (ta (nu s g).2.1 (nu s g).2.2).2.2).1⟩])
theorem go_ev2 : ∀ (m : Nat) (s : List UInt8) (g : Bool) (l : List OS), s.length ≤ 140737488351232 → Ev (fun k => batch_Decode.go k m (lb s) g l) (lb (gp m s g l).1, (gp m s g l).2.1, (gp m s g l).2.2) := by
  intro m
  induction m with
  | zero => intro s g l _; exact Ev.val rfl
  | succ m ih =>
    intro s g l hs
    have h1 := (nu_le s g).1
    have h2 := ta_le (nu s g).2.1 (nu s g).2.2
    have h3 := ta_le (ta (nu s g).2.1 (nu s g).2.2).2.1 (ta (nu s g).2.1 (nu s g).2.2).2.2
    have ho : ∀ k, batch_Decode.go k (m + 1) (lb s) g l = (batch_Decode.number k (lb s) g).bind fun a => (batch_Decode.take k a.2.1 a.2.2).bind fun b => if a.1 = 1 then batch_Decode.go k m b.2.1 (b.2.2 && decide (a.1 ≤ 1)) (l ++ [⟨true, b.1, ⟨#[]⟩⟩]) else (batch_Decode.take k b.2.1 b.2.2).bind fun c => batch_Decode.go k m c.2.1 (c.2.2 && decide (a.1 ≤ 1)) (l ++ [⟨false, b.1, c.1⟩]) := fun k => by rw [batch_Decode.go]
    refine Ev.congr ho ?_
    refine Ev.bind (number_ev s g hs) (Ev.bind (take_ev _ _ (by omega)) ?_)
    have hd : decide ((((nu s g).1 : Nat) : Int) ≤ 1) = decide ((nu s g).1 ≤ 1) := by
      rw [Bool.eq_iff_iff]; simp only [decide_eq_true_eq]; omega
    rw [gp]
    by_cases h4 : (nu s g).1 = 1
    · rw [if_pos h4]
      refine Ev.pos (by simp only; omega) ?_
      simp only [hd]
      exact ih _ _ _ (by omega)
    · rw [if_neg h4]
      refine Ev.neg (by simp only; omega) (Ev.bind (take_ev (ta (nu s g).2.1 (nu s g).2.2).2.1 (ta (nu s g).2.1 (nu s g).2.2).2.2 (by omega)) ?_)
      simp only [hd]
      exact ih _ _ _ (by omega)
theorem gp_good : ∀ (m : Nat) (s s' : List UInt8) (g : Bool) (l l' : List OS), gp m s g l = (s', true, l') → g = true ∧ ∃ L : List OS, L.length = m ∧ l' = l ++ L ∧ s = L.flatMap opB ++ s' := by
  intro m
  induction m with
  | zero =>
    intro s s' g l l' h
    simp only [gp, Prod.mk.injEq] at h
    obtain ⟨rfl, rfl, rfl⟩ := h
    exact ⟨rfl, [], rfl, by simp, by simp⟩
  | succ m ih =>
    intro s s' g l l' h
    obtain ⟨n, r, g1, e1⟩ : ∃ n r g1, nu s g = (n, r, g1) := ⟨_, _, _, rfl⟩
    obtain ⟨t, r2, g2, e2⟩ : ∃ t r2 g2, ta r g1 = (t, r2, g2) := ⟨_, _, _, rfl⟩
    rw [gp, e1] at h
    simp only [e2] at h
    by_cases h4 : n = 1
    · rw [if_pos h4] at h
      obtain ⟨h5, L, h6, h7, h8⟩ := ih _ _ _ _ _ h
      rw [Bool.and_eq_true] at h5
      obtain ⟨h9, h10⟩ := h5
      subst h9
      obtain ⟨h11, h12⟩ := ta_good e2
      subst h11
      obtain ⟨h13, h14, _⟩ := nu_good e1
      refine ⟨h13, ⟨true, lb t, lb []⟩ :: L, by simp [h6], by rw [h7]; simp, ?_⟩
      rw [h14, h12, h4, h8]
      have e3 : short 1 = [1] := by rw [short_lt 1 (by decide)]; rfl
      rw [e3]
      simp [opB, bl_lb]
    · rw [if_neg h4] at h
      obtain ⟨v, r3, g3, e4⟩ : ∃ v r3 g3, ta r2 g2 = (v, r3, g3) := ⟨_, _, _, rfl⟩
      rw [e4] at h
      simp only at h
      obtain ⟨h5, L, h6, h7, h8⟩ := ih _ _ _ _ _ h
      rw [Bool.and_eq_true] at h5
      obtain ⟨h9, h10⟩ := h5
      have hn : n = 0 := by have := of_decide_eq_true h10; omega
      subst h9
      obtain ⟨h15, h16⟩ := ta_good e4
      subst h15
      obtain ⟨h11, h12⟩ := ta_good e2
      subst h11
      obtain ⟨h13, h14, _⟩ := nu_good e1
      refine ⟨h13, ⟨false, lb t, lb v⟩ :: L, by simp [h6], by rw [h7]; simp, ?_⟩
      rw [h14, h12, hn, h16, h8]
      have e3 : short 0 = [0] := by rw [short_lt 0 (by decide)]; rfl
      rw [e3]
      simp [opB, bl_lb]
theorem gp_ops : ∀ (L : List OS) (r : List UInt8) (l : List OS), (∀ x ∈ L, okO x = true) → gp L.length (L.flatMap opB ++ r) true l = (r, true, l ++ L) := by
  intro L
  induction L with
  | nil => intro r l _; simp [gp]
  | cons x L ih =>
    intro r l h
    have hx := of_decide_eq_true (h x (by simp))
    have hI := fun l' => ih r l' (fun y hy => h y (by simp [hy]))
    have h1 : (bl x.f1).length < 18446744073709551616 := by omega
    have h2 : (bl x.f2).length < 18446744073709551616 := by omega
    rw [List.length_cons, gp]
    by_cases hd : x.f0 = true
    · have e0 : (x :: L).flatMap opB ++ r = short 1 ++ (txt (bl x.f1) ++ (L.flatMap opB ++ r)) := by
        rw [short_lt 1 (by decide)]; simp [opB, hd]
      have e1 : nu ((x :: L).flatMap opB ++ r) true = (1, txt (bl x.f1) ++ (L.flatMap opB ++ r), true) := by rw [e0]; exact nu_short (by decide) _ _
      rw [e1]
      simp only [ta_txt h1]
      rw [if_pos trivial]
      have e2 : (⟨true, lb (bl x.f1), lb []⟩ : OS) = x := by
        rw [lb_bl, ← hx.2.2.2 hd, lb_bl]
        cases x; simp only at hd; rw [hd]
      rw [e2]
      refine (hI _).trans ?_
      simp
    · have hd2 : x.f0 = false := by simpa using hd
      have e0 : (x :: L).flatMap opB ++ r = short 0 ++ (txt (bl x.f1) ++ (txt (bl x.f2) ++ (L.flatMap opB ++ r))) := by
        rw [short_lt 0 (by decide)]; simp [opB, hd]
      have e1 : nu ((x :: L).flatMap opB ++ r) true = (0, txt (bl x.f1) ++ (txt (bl x.f2) ++ (L.flatMap opB ++ r)), true) := by rw [e0]; exact nu_short (by decide) _ _
      rw [e1]
      simp only [ta_txt h1, ta_txt h2]
      rw [if_neg (by decide)]
      have e2 : (⟨false, lb (bl x.f1), lb (bl x.f2)⟩ : OS) = x := by
        rw [lb_bl, lb_bl]
        cases x; simp only at hd2; rw [hd2]
      rw [e2]
      refine (hI _).trans ?_
      simp

/-! ### a batch that is decoded -/
def noB : Int × List OS × Int := (0, [], 2)
def decr (s : List UInt8) : Int × List OS × Int :=
  if (nu (nu s true).2.1 (nu s true).2.2).2.2 = true then
    (if (nu (nu s true).2.1 (nu s true).2.2).1 > 16 then noB else
      (if (gp (nu (nu s true).2.1 (nu s true).2.2).1 (nu (nu s true).2.1 (nu s true).2.2).2.1 true []).2.1 = true ∧ (gp (nu (nu s true).2.1 (nu s true).2.2).1 (nu (nu s true).2.1 (nu s true).2.2).2.1 true []).1 = [] ∧ mayB (gp (nu (nu s true).2.1 (nu s true).2.2).1 (nu (nu s true).2.1 (nu s true).2.2).2.1 true []).2.2 = true ∧ numB (nu s true).1 (gp (nu (nu s true).2.1 (nu s true).2.2).1 (nu (nu s true).2.1 (nu s true).2.2).2.1 true []).2.2.length = true
        then ((nu s true).1, (gp (nu (nu s true).2.1 (nu s true).2.2).1 (nu (nu s true).2.1 (nu s true).2.2).2.1 true []).2.2, 0) else noB))
  else noB
theorem gp_len : ∀ (m : Nat) (s : List UInt8) (g : Bool) (l : List OS), (gp m s g l).2.2.length = l.length + m := by
  intro m
  induction m with
  | zero => intro s g l; rfl
  | succ m ih => intro s g l; rw [gp]; split <;> (rw [ih]; simp; omega)
theorem fin_f (a : Int) (s : List UInt8) (g : Bool) (l : List OS) (hl : l.length ≤ 16) : batch_Decode.fin a (lb s) g l = some (if g = true ∧ s = [] ∧ mayB l = true ∧ numB a l.length = true then (a, l, 0) else noB) := by
  unfold batch_Decode.fin
  by_cases h1 : g = true
  · rw [if_pos h1, lb_toList]
    by_cases h2 : s = []
    · rw [if_pos h2, May_f l (by omega)]
      simp only [Option.bind_some]
      by_cases h3 : mayB l = true
      · rw [if_pos h3, num_f a l.length (mayB_len h3).1 hl]
        simp only [Option.bind_some]
        by_cases h4 : numB a l.length = true
        · rw [if_pos h4, if_pos ⟨h1, h2, h3, h4⟩]
        · rw [if_neg h4, if_neg (fun h => h4 h.2.2.2)]; rfl
      · rw [if_neg h3, if_neg (fun h => h3 h.2.2.1)]; rfl
    · rw [if_neg h2, if_neg (fun h => h2 h.2.1)]; rfl
  · rw [if_neg h1, if_neg (fun h => h1 h.1)]; rfl
theorem Decode_ev (s : List UInt8) (hs : s.length ≤ 140737488351232) : Ev (fun k => batch_Decode.f k (lb s)) (decr s) := by
  unfold batch_Decode.f
  refine Ev.bind (number_ev s true hs) ?_
  have h1 := (nu_le s true).1
  refine Ev.bind (number_ev _ _ (by omega)) ?_
  have h2 := nu_le (nu s true).2.1 (nu s true).2.2
  unfold decr
  by_cases h3 : (nu (nu s true).2.1 (nu s true).2.2).2.2 = true
  · rw [if_pos h3]
    refine Ev.pos h3 ?_
    by_cases h4 : (nu (nu s true).2.1 (nu s true).2.2).1 > 16
    · rw [if_pos h4]
      exact Ev.pos (by simp only; omega) (Ev.val rfl)
    · rw [if_neg h4]
      refine Ev.neg (by simp only; omega) (Ev.pos (by simp only; omega) ?_)
      simp only [h3, Int.toNat_natCast]
      refine Ev.bind (go_ev2 _ _ _ _ (by omega)) (Ev.val ?_)
      exact fin_f _ _ _ _ (by rw [gp_len]; simp; omega)
  · rw [if_neg h3]
    exact Ev.neg h3 (Ev.val rfl)
theorem decr_cases (s : List UInt8) : decr s = noB ∨ ∃ (a : Int) (l : List OS), mayB l = true ∧ numB a l.length = true ∧ s = enc a l ∧ decr s = (a, l, 0) := by
  unfold decr
  split
  · rename_i h1
    split
    · exact Or.inl rfl
    · split
      · rename_i h3
        right
        obtain ⟨n, r, g1, e1⟩ : ∃ n r g1, nu s true = (n, r, g1) := ⟨_, _, _, rfl⟩
        rw [e1] at h1 h3 ⊢
        simp only at h1 h3 ⊢
        obtain ⟨c, r2, g2, e2⟩ : ∃ c r2 g2, nu r g1 = (c, r2, g2) := ⟨_, _, _, rfl⟩
        rw [e2] at h1 h3 ⊢
        simp only at h1 h3 ⊢
        subst h1
        obtain ⟨x, g3, l, e3⟩ : ∃ x g3 l, gp c r2 true [] = (x, g3, l) := ⟨_, _, _, rfl⟩
        rw [e3] at h3 ⊢
        simp only at h3 ⊢
        obtain ⟨h4, h5, h6, h7⟩ := h3
        subst h4 h5
        obtain ⟨_, L, h8, h9, h10⟩ := gp_good _ _ _ _ _ _ e3
        obtain ⟨h11, h12, _⟩ := nu_good e2
        subst h11
        obtain ⟨_, h13, _⟩ := nu_good e1
        refine ⟨n, l, h6, h7, ?_, rfl⟩
        rw [h13, h12, h10]
        have h9' : l = L := by simpa using h9
        subst h9'
        unfold enc sh
        rw [← h8]; simp
      · exact Or.inl rfl
  · exact Or.inl rfl
theorem decr_enc {a : Int} {l : List OS} (h1 : mayB l = true) (h2 : numB a l.length = true) : decr (enc a l) = (a, l, 0) := by
  have hn := mayB_len h1
  have hu := numB_u h2 hn.1
  obtain ⟨n, rfl⟩ := Int.eq_ofNat_of_zero_le hu.1
  have e1 : nu (enc (n : Int) l) true = (n, short l.length ++ l.flatMap opB, true) := by
    unfold enc; rw [sh_nat]; exact nu_short (by have := hu.2; omega) _ _
  have e2 : nu (short l.length ++ l.flatMap opB) true = (l.length, l.flatMap opB, true) := nu_short (by omega) _ _
  have e3 : gp l.length (l.flatMap opB) true [] = ([], true, l) := by
    have := gp_ops l [] [] (mayB_all h1)
    simpa using this
  unfold decr
  rw [e1]
  simp only [e2, e3]
  rw [if_pos trivial, if_neg (by omega), if_pos ⟨trivial, trivial, h1, h2⟩]
theorem enc_inj {a b : Int} {l m : List OS} (h1 : mayB l = true) (h2 : numB a l.length = true) (h3 : mayB m = true) (h4 : numB b m.length = true) (h : enc a l = enc b m) : a = b ∧ l = m := by
  have e1 := decr_enc h1 h2
  have e2 := decr_enc h3 h4
  rw [h, e2] at e1
  simp only [Prod.mk.injEq] at e1
  exact ⟨e1.1.symm, e1.2.1.symm⟩
/-- No batch's bytes are a beginning of another one's. -/
theorem ops_free : ∀ (l m : List OS) (r t : List UInt8), l.length = m.length → (∀ x ∈ l, okO x = true) → (∀ x ∈ m, okO x = true) → l.flatMap opB ++ r = m.flatMap opB ++ t → l = m ∧ r = t := by
  intro l m r t hlm hl hm h
  have e1 := gp_ops l r [] hl
  have e2 := gp_ops m t [] hm
  rw [h, hlm, e2] at e1
  simp only [Prod.mk.injEq, List.nil_append, true_and] at e1
  exact ⟨e1.2.symm, e1.1.symm⟩
theorem enc_free {a b : Int} {l m : List OS} {r t : List UInt8} (h1 : mayB l = true) (h2 : numB a l.length = true) (h3 : mayB m = true) (h4 : numB b m.length = true) (h : enc a l ++ r = enc b m ++ t) : a = b ∧ l = m ∧ r = t := by
  unfold enc sh at h
  simp only [List.append_assoc] at h
  obtain ⟨e1, e2⟩ := short_free h
  obtain ⟨e3, e4⟩ := short_free e2
  obtain ⟨e5, e6⟩ := ops_free l m r t e3 (mayB_all h1) (mayB_all h3) e4
  have u1 := numB_u h2 (mayB_len h1).1
  have u2 := numB_u h4 (mayB_len h3).1
  refine ⟨?_, e5, e6⟩
  have := u1.1
  have := u2.1
  omega
end Go.Proofs.Ytfgelbkhjiajfaa.BatS
