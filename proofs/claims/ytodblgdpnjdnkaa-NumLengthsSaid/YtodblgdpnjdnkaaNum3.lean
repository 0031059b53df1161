/- num: what is fixed of it; the seven laws. -/
import Derived.Test.YtodblgdpnjdnkaaNum2
set_option linter.unusedVariables false
set_option linter.unusedSimpArgs false
namespace Go.Proofs.Ytodblgdpnjdnkaa.NumS
open Go.RowKit Go.Proofs.Ytodblgdpnjdnkaa.P Go.Proofs.Ytodblgdpnjdnkaa.Th Go.Proofs.YtodblgdpnjdnkaaW.PrintWords Go.Proofs.YtodblgdpnjdnkaaW.PrintLast Go.Proofs.YtodblgdpnjdnkaaW.PrintMore

theorem awake_ev : Ev (fun k => screelaw01_awake.f k) true := by
  unfold screelaw01_awake.f
  have hT := Ev.eq (Take_ev [172, 2, 120] (by decide)) (show tres (tk [172, 2, 120]) = (300, lb [120], true) by decide +kernel)
  have hF := Ev.eq (Take_ev [128, 0] (by decide)) (show tres (tk [128, 0]) = (0, lb [], false) by decide +kernel)
  refine Ev.bind hT (Ev.bind hF ?_)
  have hL := Long_f 300
  have hFa := Fall_f 300 (by decide)
  refine Ev.just hL (Ev.bind (Unlong_ev (long 300)) ?_)
  have hu : ures (long 300) = (300, true) := by unfold ures; rw [if_pos (long_len _), be_long _ (by decide)]; rfl
  refine Ev.just hFa (Ev.bind (Unfall_ev _) ?_)
  have hv : ufres (long (18446744073709551615 - 300)) = (300, true) := by unfold ufres; rw [if_pos (long_len _), be_long _ (by decide)]; rfl
  refine Ev.bind (Short_ev 300 (by decide)) ?_
  rw [hu, hv]
  refine Ev.pos (by rw [lb_toList]; decide +kernel) (Ev.pos rfl (Ev.pos (by rw [lb_toList]) (Ev.pos rfl (Ev.neg (by simp) ?_))))
  refine Ev.just hL (Ev.pos (by rw [lb_toList]; decide +kernel) (Ev.pos rfl (Ev.pos rfl ?_)))
  refine Ev.just hFa (Ev.pos (by rw [lb_toList]; decide +kernel) (Ev.pos rfl (Ev.pos rfl ?_)))
  refine Ev.just (Fold_f (-1) (by decide) (by decide)) (Ev.pos rfl ?_)
  refine Ev.just (Unfold_f 3 (by decide)) (Ev.pos rfl ?_)
  refine Ev.just (Fits_f 255 8) (Ev.pos rfl ?_)
  refine Ev.just (Fits_f 256 8) (Ev.val rfl)

theorem NumWrites : screelaw01_NumWrites.Pure := by
  intro a0 a1 a2 w0 w1 w2
  obtain ⟨h0, h0'⟩ := wf_u64 w0
  obtain ⟨h1, h1'⟩ := wf_i64 w1
  obtain ⟨n, rfl⟩ := Int.eq_ofNat_of_zero_le h0
  have hn : n < 18446744073709551616 := by omega
  refine Ev.rounds ?_
  unfold screelaw01_NumWrites.f
  refine Ev.bind awake_ev (Ev.pos rfl ?_)
  refine Ev.bind (Short_ev n hn) (Ev.bind (RShort_ev n hn) (Ev.pos rfl ?_))
  refine Ev.just (Long_f n) (Ev.bind (RLong_ev n hn) (Ev.pos rfl ?_))
  refine Ev.just (Fall_f n hn) (Ev.bind (RFall_ev n hn) (Ev.pos rfl ?_))
  refine Ev.just (Fold_f a1 h1 h1') (Ev.just (RFold_f a1 h1 h1') (Ev.pos rfl ?_))
  refine Ev.just (Unfold_f n hn) (Ev.just (RUnfold_f n hn) (Ev.pos rfl ?_))
  refine Ev.just (Fits_f n a2) (Ev.bind (RFits_ev n a2 hn) (Ev.val ?_))
  simp

theorem NumReads : screelaw01_NumReads.Pure := by
  intro s hs
  obtain ⟨l, rfl⟩ := ex_lb s
  rw [lb_size] at hs
  refine Ev.rounds ?_
  unfold screelaw01_NumReads.f
  refine Ev.bind awake_ev (Ev.pos rfl ?_)
  by_cases hl : (((lb l).size : Nat) : Int) > 4096
  · exact Ev.pos hl (Ev.now _)
  · refine Ev.neg hl ?_
    refine Ev.bind (Take_ev l hs) (Ev.bind (RTake_ev l hs) (Ev.pos rfl (Ev.pos rfl ?_)))
    refine Ev.step (fun k => by rw [screelaw01_NumReads.j0]) ?_
    refine Ev.neg (by simp) ?_
    refine Ev.bind (Unlong_ev l) (Ev.bind (RUnlong_ev l) (Ev.bind (Unfall_ev l) (Ev.bind (RUnfall_ev l) ?_)))
    refine Ev.pos rfl (Ev.pos (by simp) (Ev.pos rfl (Ev.val ?_)))
    simp

theorem NumBack : screelaw01_NumBack.Pure := by
  intro a0 s w0 hs
  obtain ⟨h0, h0'⟩ := wf_u64 w0
  obtain ⟨n, rfl⟩ := Int.eq_ofNat_of_zero_le h0
  have hn : n < 18446744073709551616 := by omega
  obtain ⟨l, rfl⟩ := ex_lb s
  rw [lb_size] at hs
  refine Ev.rounds ?_
  unfold screelaw01_NumBack.f
  refine Ev.bind awake_ev (Ev.pos rfl ?_)
  by_cases hl : (((lb l).size : Nat) : Int) > 4096
  · exact Ev.pos hl (Ev.now _)
  · refine Ev.neg hl ?_
    rw [lb_size] at hl
    have h10 := short_len10 n hn
    refine Ev.bind (Short_ev n hn) (Ev.pos (by rw [lb_size, lb_size]; omega) ?_)
    rw [lb_append]
    refine Ev.bind (Take_ev (short n ++ l) (by simp; omega)) ?_
    rw [tk_short n l hn]
    refine Ev.just (Long_f n) (Ev.bind (Unlong_ev (long n)) ?_)
    have hu : ures (long n) = ((n : Int), true) := by unfold ures; rw [if_pos (long_len _), be_long _ hn]
    rw [hu]
    refine Ev.just (Fall_f n hn) (Ev.bind (Unfall_ev _) ?_)
    have hv : ufres (long (18446744073709551615 - n)) = ((n : Int), true) := by
      unfold ufres; rw [if_pos (long_len _), be_long _ (by omega)]
      have : 18446744073709551615 - (18446744073709551615 - n) = n := by omega
      rw [this]
    rw [hv]
    refine Ev.pos rfl (Ev.pos rfl (Ev.pos rfl (Ev.pos rfl (Ev.pos rfl (Ev.pos rfl ?_)))))
    refine Ev.step (fun k => by rw [screelaw01_NumBack.j0]) ?_
    refine Ev.neg (by simp) ?_
    refine Ev.bind (Take_ev l hs) ?_
    cases e : tk l with
    | none => exact Ev.neg (by simp [tres]) (Ev.pos rfl (Ev.val (by simp [tres, lb_toList])))
    | some p =>
      obtain ⟨m, r⟩ := p
      obtain ⟨hm, hr⟩ := (tk_iff _ _ _).1 e
      have hlen : (short m).length + r.length = l.length := by rw [hr]; simp
      refine Ev.pos rfl (Ev.bind (Short_ev m hm) (Ev.pos ?_ (Ev.val ?_)))
      · show (lb (short m)).size + (lb r).size ≤ _
        rw [lb_size, lb_size]; omega
      · show some ((lb (short m) ++ lb r).toList == (lb l).toList) = some true
        rw [lb_append, lb_toList, lb_toList, hr]; simp

theorem mn_nat (a b : Nat) : mn (a : Int) (b : Int) = ((min a b : Nat) : Int) := by unfold mn; split <;> omega
theorem mx_nat (a b : Nat) : mx (a : Int) (b : Int) = ((max a b : Nat) : Int) := by unfold mx; split <;> omega
theorem take_both {a b : List UInt8} (h : a.take (min a.length b.length) = b.take (min a.length b.length)) : ∃ r s, a ++ r = b ++ s := by
  rcases Nat.le_total a.length b.length with hl | hl
  · rw [Nat.min_eq_left hl, List.take_length] at h
    refine ⟨b.drop a.length, [], ?_⟩
    have := List.take_append_drop a.length b
    rw [← h] at this
    simpa using this
  · rw [Nat.min_eq_right hl, List.take_length] at h
    refine ⟨[], a.drop b.length, ?_⟩
    have := List.take_append_drop b.length a
    rw [h] at this
    simpa using this.symm
theorem NumOrder : screelaw01_NumOrder.Pure := by
  intro a0 a1 w0 w1
  obtain ⟨h0, h0'⟩ := wf_u64 w0
  obtain ⟨n, rfl⟩ := Int.eq_ofNat_of_zero_le h0
  have hn : n < 18446744073709551616 := by omega
  obtain ⟨h1, h1'⟩ := wf_u64 w1
  obtain ⟨m, rfl⟩ := Int.eq_ofNat_of_zero_le h1
  have hm : m < 18446744073709551616 := by omega
  refine Ev.rounds ?_
  unfold screelaw01_NumOrder.f
  refine Ev.bind awake_ev (Ev.pos rfl ?_)
  refine Ev.just (Long_f n) (Ev.just (Long_f m) (Ev.neg ?_ ?_))
  · rw [lb_toList, lb_toList, long_less n m hn hm]
    simp
  refine Ev.just (Fall_f n hn) (Ev.just (Fall_f m hm) (Ev.neg ?_ ?_))
  · rw [lb_toList, lb_toList, long_less _ _ (by omega) (by omega)]
    have : (18446744073709551615 - n < 18446744073709551615 - m) ↔ ((n : Int) > (m : Int)) := by omega
    simp only [this]
    simp
  refine Ev.just (Long_f n) (Ev.pos (by rw [lb_size, long_len]; rfl) (Ev.just (Fall_f m hm) ?_))
  refine Ev.step (fun k => by rw [screelaw01_NumOrder.j0]) ?_
  refine Ev.neg (by rw [lb_size, long_len]; simp) (Ev.bind (Short_ev n hn) (Ev.bind (Short_ev m hm) ?_))
  have p1 := short_pos n
  have p2 := short_pos m
  rw [lb_size, lb_size, mn_nat]
  refine Ev.pos (by omega) (Ev.pos (by omega) (Ev.pos (by omega) (Ev.pos (by omega) (Ev.val ?_))))
  have et : (((min (short n).length (short m).length : Nat) : Int)).toNat = min (short n).length (short m).length := by omega
  rw [et, lb_extract, lb_extract, lb_toList, lb_toList, List.drop_zero, List.drop_zero]
  by_cases e : n = m
  · subst e; simp
  · have e2 : ¬ ((short n).take (min (short n).length (short m).length) = (short m).take (min (short n).length (short m).length)) := by
      intro h
      obtain ⟨r, s, h⟩ := take_both h
      exact e (short_free h).1
    have e1 : ((n : Int) == (m : Int)) = false := by rw [beq_eq_false_iff_ne]; omega
    have e3 : ((short n).take (min (short n).length (short m).length) == (short m).take (min (short n).length (short m).length)) = false := by rw [beq_eq_false_iff_ne]; exact e2
    rw [e1, e3]; rfl

theorem NumFolds : screelaw01_NumFolds.Pure := by
  intro a0 a1 w0 w1
  obtain ⟨h0, h0'⟩ := wf_i64 w0
  obtain ⟨h1, h1'⟩ := wf_u64 w1
  obtain ⟨n, rfl⟩ := Int.eq_ofNat_of_zero_le h1
  have hn : n < 18446744073709551616 := by omega
  obtain ⟨f0, f1⟩ := fold_range a0 h0 h0'
  obtain ⟨g0, g1⟩ := unfold_range n hn
  have hfu : num_Unfold.f (fold a0) = some a0 := by
    obtain ⟨m, hm⟩ := Int.eq_ofNat_of_zero_le f0
    rw [hm, Unfold_f m (by omega), ← hm, unfold_fold]
  refine Ev.rounds ?_
  unfold screelaw01_NumFolds.f
  refine Ev.bind awake_ev (Ev.pos rfl ?_)
  refine Ev.just (Fold_f a0 h0 h0') (Ev.just hfu (Ev.pos rfl ?_))
  refine Ev.just (Unfold_f n hn) (Ev.just (Fold_f _ g0 g1) ?_)
  rw [fold_unfold _ (by omega)]
  refine Ev.step (fun k => by rw [screelaw01_NumFolds.j0]) ?_
  refine Ev.neg (by simp) ?_
  by_cases hr : a0 ≥ -4611686018427387904 ∧ a0 < 4611686018427387904
  · refine Ev.pos hr.1 (Ev.step (fun k => by rw [screelaw01_NumFolds.j1]) ?_)
    refine Ev.pos (by simpa using hr.2) (Ev.just (Fold_f a0 h0 h0') (Ev.pos ?_ (Ev.just (Fold_f a0 h0 h0') (Ev.val ?_))))
    · rw [Int.tmod_eq_emod_of_nonneg f0, beq_iff_eq, Bool.eq_iff_iff, decide_eq_true_eq, beq_iff_eq]
      unfold fold; split <;> omega
    · congr 1; rw [decide_eq_true_eq]; unfold fold; split <;> omega
  · by_cases hq : a0 ≥ -4611686018427387904
    · refine Ev.pos hq (Ev.step (fun k => by rw [screelaw01_NumFolds.j1]) ?_)
      exact Ev.neg (by simp; omega) (Ev.now _)
    · refine Ev.neg hq (Ev.step (fun k => by rw [screelaw01_NumFolds.j1]) ?_)
      exact Ev.neg (by simp) (Ev.now _)

/-- How many bits a number has. -/
def blen (n : Nat) : Nat := if n = 0 then 0 else blen (n / 2) + 1
termination_by n
decreasing_by omega
theorem blen_zero : blen 0 = 0 := by rw [blen, if_pos rfl]
theorem blen_pos (n : Nat) (h : 0 < n) : blen n = blen (n / 2) + 1 := by rw [blen, if_neg (by omega)]
theorem blen_lt (n : Nat) : n < 2 ^ blen n := by
  induction n using Nat.strongRecOn with
  | _ n ih =>
    rcases Nat.eq_zero_or_pos n with h | h
    · subst h; rw [blen_zero]; decide
    · rw [blen_pos n h, Nat.pow_succ]
      have := ih (n / 2) (by omega)
      omega
theorem blen_le (n : Nat) (h : 0 < n) : 2 ^ (blen n - 1) ≤ n := by
  induction n using Nat.strongRecOn with
  | _ n ih =>
    rw [blen_pos n h]
    rcases Nat.eq_zero_or_pos (n / 2) with h2 | h2
    · rw [h2, blen_zero]; simp; omega
    · have := ih (n / 2) (by omega) h2
      have e : blen (n / 2) = blen (n / 2) - 1 + 1 := by rw [blen_pos _ h2]; omega
      rw [show blen (n / 2) + 1 - 1 = blen (n / 2) - 1 + 1 by omega, Nat.pow_succ]
      omega
theorem blen_of_lt (j : Nat) : ∀ n, n < 2 ^ j → blen n ≤ j := by
  induction j with
  | zero => intro n h; have : n = 0 := by simpa using h
            subst this; rw [blen_zero]; omega
  | succ j ih =>
    intro n h
    rcases Nat.eq_zero_or_pos n with h2 | h2
    · subst h2; rw [blen_zero]; omega
    · rw [blen_pos n h2]
      have := ih (n / 2) (by rw [Nat.pow_succ] at h; omega)
      omega
theorem fits_blen (n : Nat) : fits n (blen n : Int) = true := by
  unfold fits; rw [Bool.or_eq_true, decide_eq_true_eq, decide_eq_true_eq]
  right; have : ((blen n : Int)).toNat = blen n := by omega
  rw [this]; exact blen_lt n
theorem fits_less (n : Nat) (h : 0 < n) (h64 : n < 18446744073709551616) : fits n ((blen n : Int) - 1) = false := by
  have h1 := blen_of_lt 64 n (by simpa using h64)
  have h2 := blen_le n h
  unfold fits; rw [Bool.or_eq_false_iff, decide_eq_false_iff_not, decide_eq_false_iff_not]
  refine ⟨by omega, ?_⟩
  have : ((blen n : Int) - 1).toNat = blen n - 1 := by omega
  rw [this]; omega
theorem fits_more (n : Nat) (a b : Int) (h : a ≤ b) (hf : fits n a = true) : fits n b = true := by
  unfold fits at *
  rw [Bool.or_eq_true, decide_eq_true_eq, decide_eq_true_eq] at *
  rcases hf with hf | hf
  · left; omega
  · right
    exact Nat.lt_of_lt_of_le hf (Nat.pow_le_pow_right (by decide) (by omega))
theorem nfits_l0 (n : Nat) (hn : n < 18446744073709551616) : ∀ (x h : Nat), x < 18446744073709551616 → h + blen x = blen n → h ≤ 64 →
    Ev (fun k => screelaw01_NumFits.l0 k (n : Int) (h : Int) (x : Int)) true := by
  intro x
  induction x using Nat.strongRecOn with
  | _ x ih =>
    intro h hx hb hh
    refine Ev.step (fun k => by rw [screelaw01_NumFits.l0]) ?_
    rcases Nat.eq_zero_or_pos x with h0 | h0
    · subst h0
      rw [blen_zero, Nat.add_zero] at hb
      refine Ev.neg (by omega) (Ev.just (Fits_f n _) ?_)
      rw [hb]
      refine Ev.pos (fits_blen n) ?_
      have h64 : fits n 64 = true := by unfold fits; rfl
      by_cases hz : (blen n : Int) = 0
      · exact Ev.pos hz (Ev.just (Fits_f n 64) (Ev.val (by rw [h64])))
      · refine Ev.neg hz ?_
        have hpos : 0 < n := by
          rcases Nat.eq_zero_or_pos n with q | q
          · subst q; rw [blen_zero] at hz; exact absurd rfl hz
          · exact q
        rw [w64 _ (by omega) (by omega)]
        refine Ev.just (Fits_f n _) (Ev.neg (by rw [fits_less n hpos hn]; simp) (Ev.just (Fits_f n 64) (Ev.val (by rw [h64]))))
    · refine Ev.pos (by omega) ?_
      have t1 : IntKind.u64.wrap (Int.tdiv (x : Int) 2) = ((x / 2 : Nat) : Int) := by
        rw [Int.tdiv_eq_ediv_of_nonneg (by omega), wu_in _ (by omega) (by omega)]; omega
      have t2 : wrap64 ((h : Int) + 1) = ((h + 1 : Nat) : Int) := by rw [w64 _ (by omega) (by omega)]; omega
      have hbx := blen_pos x h0
      have hbn := blen_of_lt 64 n (by simpa using hn)
      rw [t1, t2]
      exact ih (x / 2) (by omega) (h + 1) (by omega) (by omega) (by omega)
theorem NumFits : screelaw01_NumFits.Pure := by
  intro a0 a1 a2 w0 w1 w2
  obtain ⟨h0, h0'⟩ := wf_u64 w0
  obtain ⟨n, rfl⟩ := Int.eq_ofNat_of_zero_le h0
  have hn : n < 18446744073709551616 := by omega
  have hj : Ev (fun k => screelaw01_NumFits.j0 k (n : Int) false) true := by
    refine Ev.step (fun k => by rw [screelaw01_NumFits.j0]) ?_
    exact Ev.neg (by simp) (nfits_l0 n hn n 0 hn (by simp) (by omega))
  refine Ev.rounds ?_
  unfold screelaw01_NumFits.f
  refine Ev.bind awake_ev (Ev.pos rfl ?_)
  by_cases hb : a2 ≥ a1
  · refine Ev.pos hb (Ev.just (Fits_f n a1) ?_)
    by_cases hf : fits n a1 = true
    · refine Ev.pos hf (Ev.just (Fits_f n a2) ?_)
      rw [fits_more n a1 a2 hb hf]; exact hj
    · exact Ev.neg hf hj
  · exact Ev.neg hb hj

theorem short_blen (m : Nat) : ∀ n, n < 128 ^ m → (short n).length = max ((blen n + 6) / 7) 1 := by
  induction m with
  | zero => intro n h; have : n = 0 := by simpa using h
            subst this; rw [blen_zero, short_lt _ (by decide)]; rfl
  | succ m ih =>
    intro n h
    rcases Nat.lt_or_ge n 128 with h1 | h1
    · have := blen_of_lt 7 n h1
      rw [short_lt n h1]; simp; omega
    · have := ih (n / 128) (by rw [Nat.div_lt_iff_lt_mul (by decide)]; rw [Nat.pow_succ] at h; exact h)
      rw [short_ge n h1, List.length_cons, this]
      have b1 := blen_pos n (by omega)
      have b2 := blen_pos (n / 2) (by omega)
      have b3 := blen_pos (n / 2 / 2) (by omega)
      have b4 := blen_pos (n / 2 / 2 / 2) (by omega)
      have b5 := blen_pos (n / 2 / 2 / 2 / 2) (by omega)
      have b6 := blen_pos (n / 2 / 2 / 2 / 2 / 2) (by omega)
      have b7 := blen_pos (n / 2 / 2 / 2 / 2 / 2 / 2) (by omega)
      have e : n / 2 / 2 / 2 / 2 / 2 / 2 / 2 = n / 128 := by simp only [Nat.div_div_eq_div_mul]
      rw [e] at b7
      have b8 := blen_pos (n / 128) (by omega)
      omega
theorem nlen_l0 (n : Nat) (l : List UInt8) (hl : l.length ≤ 4096) (hn : n < 18446744073709551616) : ∀ (x h : Nat), x < 18446744073709551616 → h + blen x = blen n → h ≤ 64 →
    Ev (fun k => screelaw01_NumLengths.l0 k (n : Int) (lb l) (h : Int) (x : Int)) true := by
  intro x
  induction x using Nat.strongRecOn with
  | _ x ih =>
    intro h hx hb hh
    refine Ev.step (fun k => by rw [screelaw01_NumLengths.l0]) ?_
    rcases Nat.eq_zero_or_pos x with h0 | h0
    · subst h0
      rw [blen_zero, Nat.add_zero] at hb
      refine Ev.neg (by omega) (Ev.bind (Short_ev n hn) ?_)
      have hs := short_blen 10 n (Nat.lt_of_lt_of_le hn (by decide))
      have h10 := short_len10 n hn
      have e1 : mx (wrap64 (Int.tdiv (wrap64 ((h : Int) + 6)) 7)) 1 = (((short n).length : Nat) : Int) := by
        have q1 : wrap64 ((h : Int) + 6) = (h : Int) + 6 := w64 _ (by omega) (by omega)
        have q2 : wrap64 (((h : Int) + 6) / 7) = ((h : Int) + 6) / 7 := w64 _ (by omega) (by omega)
        rw [q1, Int.tdiv_eq_ediv_of_nonneg (by omega), q2, hs, ← hb]
        unfold mx; split <;> omega
      refine Ev.pos (by rw [e1, lb_size]) (Ev.pos (by rw [lb_size, lb_size]; omega) ?_)
      rw [lb_append]
      refine Ev.bind (Take_ev (short n ++ l) (by simp; omega)) ?_
      rw [tk_short n l hn]
      exact Ev.pos rfl (Ev.val (by simp [tres]))
    · refine Ev.pos (by omega) ?_
      have t1 : IntKind.u64.wrap (Int.tdiv (x : Int) 2) = ((x / 2 : Nat) : Int) := by
        rw [Int.tdiv_eq_ediv_of_nonneg (by omega), wu_in _ (by omega) (by omega)]; omega
      have t2 : wrap64 ((h : Int) + 1) = ((h + 1 : Nat) : Int) := by rw [w64 _ (by omega) (by omega)]; omega
      have hbx := blen_pos x h0
      have hbn := blen_of_lt 64 n (by simpa using hn)
      rw [t1, t2]
      exact ih (x / 2) (by omega) (h + 1) (by omega) (by omega) (by omega)
theorem NumLengths : screelaw01_NumLengths.Pure := by
  intro a0 s w0 hs
  obtain ⟨h0, h0'⟩ := wf_u64 w0
  obtain ⟨n, rfl⟩ := Int.eq_ofNat_of_zero_le h0
  have hn : n < 18446744073709551616 := by omega
  obtain ⟨l, rfl⟩ := ex_lb s
  refine Ev.rounds ?_
  unfold screelaw01_NumLengths.f
  refine Ev.bind awake_ev (Ev.pos rfl ?_)
  by_cases hl : (((lb l).size : Nat) : Int) > 4096
  · exact Ev.pos hl (Ev.now _)
  · refine Ev.neg hl ?_
    rw [lb_size] at hl
    exact nlen_l0 n l (by omega) hn n 0 hn (by simp) (by omega)
end Go.Proofs.Ytodblgdpnjdnkaa.NumS
