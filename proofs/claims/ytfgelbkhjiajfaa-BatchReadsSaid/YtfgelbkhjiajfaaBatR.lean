/- batch: what the reference comes to. -/
import Derived.Test.YtfgelbkhjiajfaaBat3
import Derived.Test.YtfgelbkhjiajfaaNumB
set_option linter.unusedVariables false
set_option linter.unusedSimpArgs false
namespace Go.Proofs.Ytfgelbkhjiajfaa.BatS
open Go.RowKit Go.Proofs.Ytfgelbkhjiajfaa.P Go.Proofs.Ytfgelbkhjiajfaa.Th Go.Proofs.Ytfgelbkhjiajfaa.NumS Go.Proofs.YtfgelbkhjiajfaaW.PrintWords Go.Proofs.YtfgelbkhjiajfaaW.PrintLast Go.Proofs.YtfgelbkhjiajfaaW.PrintMore

def okR (x : OS) : Bool := decide (1 ≤ (bl x.f1).length ∧ (bl x.f1).length ≤ 100 ∧ (bl x.f2).length ≤ 100 ∧ (x.f0 = true → bl x.f2 = []))
theorem RMay_l0 (l : List OS) (hl : l.length ≤ 1000000) : ∀ (n i : Nat), i + n = l.length → Ev (fun k => screeref05_May.l0 k l (i : Int)) ((l.drop i).all okO && decide (1 ≤ l.length ∧ l.length ≤ 16)) := by
  intro n
  induction n with
  | zero =>
    intro i hi
    refine Ev.step (fun k => by rw [screeref05_May.l0]) ?_
    refine Ev.neg (by omega) ?_
    rw [List.drop_eq_nil_of_le (by omega), List.all_nil, Bool.true_and]
    by_cases h : (l.length : Int) ≥ 1
    · refine Ev.pos h (Ev.val ?_)
      congr 1; rw [Bool.eq_iff_iff]; simp only [decide_eq_true_eq]; omega
    · refine Ev.neg h (Ev.val ?_)
      congr 1; symm; rw [decide_eq_false_iff_not]; omega
  | succ n ih =>
    intro i hi
    have h1 : i < l.length := by omega
    refine Ev.step (fun k => by rw [screeref05_May.l0]) ?_
    refine Ev.pos (by omega) (Ev.pos (by omega) ?_)
    rw [rdO h1, List.drop_eq_getElem_cons h1, List.all_cons, size_bl, size_bl, w64 _ (by omega) (by omega)]
    have hI := ih (i + 1) (by omega)
    have no : okO l[i] = false → Ev (fun _ : Nat => some false) (okO l[i] && (l.drop (i + 1)).all okO && decide (1 ≤ l.length ∧ l.length ≤ 16)) := by
      intro h; rw [h]; exact Ev.val rfl
    by_cases h2 : (bl l[i].f1).length < 1
    · refine Ev.pos (by omega) (no ?_)
      unfold okO; rw [decide_eq_false_iff_not]; intro h; omega
    · refine Ev.neg (by omega) ?_
      by_cases h3 : (bl l[i].f1).length > 100
      · refine Ev.pos (by omega) (no ?_)
        unfold okO; rw [decide_eq_false_iff_not]; intro h; omega
      · refine Ev.neg (by omega) ?_
        by_cases h4 : (bl l[i].f2).length > 100
        · refine Ev.pos (by omega) (no ?_)
          unfold okO; rw [decide_eq_false_iff_not]; intro h; omega
        · refine Ev.neg (by omega) ?_
          by_cases h5 : l[i].f0 = true
          · refine Ev.pos h5 ?_
            by_cases h6 : (bl l[i].f2).length > 0
            · refine Ev.pos (by omega) (no ?_)
              unfold okO; rw [decide_eq_false_iff_not]; intro h
              have := h.2.2.2 h5; rw [this] at h6; simp at h6
            · refine Ev.neg (by omega) ?_
              have : okO l[i] = true := by
                unfold okO; rw [decide_eq_true_eq]
                exact ⟨by omega, by omega, by omega, fun _ => List.length_eq_zero_iff.1 (by omega)⟩
              rw [this, Bool.true_and]
              exact hI
          · refine Ev.neg h5 ?_
            have : okO l[i] = true := by
              unfold okO; rw [decide_eq_true_eq]
              exact ⟨by omega, by omega, by omega, fun h => absurd h h5⟩
            rw [this, Bool.true_and]
            exact hI
theorem RMay_ev (l : List OS) (hl : l.length ≤ 1000000) : Ev (fun k => screeref05_May.f k l) (mayB l) := by
  unfold screeref05_May.f
  refine Ev.eq (RMay_l0 l hl l.length 0 (by omega)) ?_
  rw [List.drop_zero, Bool.and_comm]; rfl
theorem RSh_ev {n : Int} (h : u64 n) : Ev (fun k => screeref01_Short.f k n) (lb (sh n)) := by
  obtain ⟨m, rfl⟩ := Int.eq_ofNat_of_zero_le h.1
  exact RShort_ev m (by have := h.2; omega)
theorem Text_ev (s : ByteArray) (h : (bl s).length ≤ 1000000) : Ev (fun k => screeref05_Text.f k s) (lb (txt (bl s))) := by
  unfold screeref05_Text.f
  rw [size_bl, wu_nat _ (by omega)]
  have h4 := short_len10 (bl s).length (by omega)
  refine Ev.bind (RShort_ev _ (by omega)) (Ev.pos (by rw [lb_size]; omega) (Ev.val ?_))
  have : s = lb (bl s) := (lb_bl s).symm
  rw [this, lb_append, bl_lb]; rfl
theorem REnc_l0 (l : List OS) (hl : l.length ≤ 16) (hok : ∀ x ∈ l, okO x = true) : ∀ (n i : Nat) (acc : List UInt8), i + n = l.length → acc.length ≤ 100 + 203 * i → Ev (fun k => screeref05_Encode.l0 k l (lb acc) (i : Int)) (lb (acc ++ (l.drop i).flatMap opB), 0) := by
  intro n
  induction n with
  | zero =>
    intro i acc hi ha
    refine Ev.step (fun k => by rw [screeref05_Encode.l0]) ?_
    refine Ev.neg (by omega) (Ev.val ?_)
    rw [List.drop_eq_nil_of_le (by omega)]; simp
  | succ n ih =>
    intro i acc hi ha
    have h1 : i < l.length := by omega
    have hx := hok l[i] (List.getElem_mem h1)
    have hk := okO_len hx
    have t1 := txt_len _ hk.1
    have t2 := txt_len _ hk.2
    have ho := (opB_len hx).1
    have hI := ih (i + 1) (acc ++ opB l[i]) (by omega) (by rw [List.length_append]; omega)
    refine Ev.step (fun k => by rw [screeref05_Encode.l0]) ?_
    refine Ev.pos (by omega) (Ev.pos (by omega) ?_)
    rw [rdO h1, w64 _ (by omega) (by omega), List.drop_eq_getElem_cons h1, List.flatMap_cons]
    have e1 : (⟨#[1]⟩ : ByteArray) = lb [1] := rfl
    have e0 : (⟨#[0]⟩ : ByteArray) = lb [0] := rfl
    by_cases hd : l[i].f0 = true
    · have eo : opB l[i] = 1 :: txt (bl l[i].f1) := by unfold opB; rw [if_pos hd]
      refine Ev.pos hd (Ev.bind (Text_ev _ (by omega)) (Ev.pos (by rw [lb_size]; omega) ?_))
      rw [e1, lb_append]
      refine Ev.pos (by rw [lb_size, lb_size]; simp; omega) ?_
      rw [lb_append]
      rw [eo] at hI
      refine Ev.eq hI ?_
      rw [eo]; simp
    · have eo : opB l[i] = 0 :: (txt (bl l[i].f1) ++ txt (bl l[i].f2)) := by unfold opB; rw [if_neg hd]
      refine Ev.neg hd (Ev.bind (Text_ev _ (by omega)) (Ev.pos (by rw [lb_size]; omega) (Ev.bind (Text_ev _ (by omega)) ?_)))
      rw [e0, lb_append]
      refine Ev.pos (by rw [lb_size, lb_size]; simp; omega) ?_
      rw [lb_append]
      refine Ev.pos (by rw [lb_size, lb_size]; simp; omega) ?_
      rw [lb_append]
      rw [eo] at hI
      refine Ev.eq hI ?_
      rw [eo]; simp
theorem REncode_ev (a : Int) (l : List OS) (ha : u64 a) (hl : l.length ≤ 1000000) : Ev (fun k => screeref05_Encode.f k a l) (encr a l) := by
  unfold screeref05_Encode.f
  refine Ev.bind (RMay_ev l hl) ?_
  by_cases h1 : mayB l = true
  · have hn := mayB_len h1
    refine Ev.pos h1 ?_
    have bad : numB a l.length = false → Ev (fun k => screeref05_Encode.j0 k a l true) (encr a l) := by
      intro h
      refine Ev.step (fun k => by rw [screeref05_Encode.j0]) ?_
      refine Ev.pos rfl (Ev.val ?_)
      unfold encr; rw [if_pos h1, if_neg (by rw [h]; simp)]; rfl
    by_cases h2 : a < 1
    · refine Ev.pos h2 (bad ?_)
      unfold numB; rw [decide_eq_false_iff_not]; omega
    · refine Ev.neg h2 ?_
      have e1 : IntKind.u64.wrap (l.length : Int) = l.length := wu_nat _ (by omega)
      have e2 : IntKind.u64.wrap (1099511627776 - (l.length : Int)) = 1099511627776 - (l.length : Int) := wu_in _ (by omega) (by omega)
      have e3 : IntKind.u64.wrap (1099511627776 - (l.length : Int) + 1) = 1099511627777 - (l.length : Int) := by rw [wu_in _ (by omega) (by omega)]; omega
      rw [e1, e2, e3]
      by_cases h3 : a > 1099511627777 - (l.length : Int)
      · rw [decide_eq_true h3]
        refine bad ?_
        unfold numB; rw [decide_eq_false_iff_not]; omega
      · rw [decide_eq_false h3]
        have h4 : numB a l.length = true := decide_eq_true ⟨by omega, by omega⟩
        have hs := sh_len ha
        have hs1 := short1 l.length (by omega)
        refine Ev.step (fun k => by rw [screeref05_Encode.j0]) ?_
        rw [e1]
        refine Ev.neg (by simp) (Ev.bind (RSh_ev ha) (Ev.bind (RShort_ev l.length (by omega)) (Ev.pos (by rw [lb_size, lb_size]; omega) ?_)))
        rw [lb_append]
        refine Ev.eq (REnc_l0 l hn.2 (mayB_all h1) l.length 0 _ (by omega) (by rw [List.length_append]; omega)) ?_
        rw [encr_yes h1 h4, List.drop_zero]
        unfold enc; rw [List.append_assoc]
  · refine Ev.neg h1 (Ev.val ?_)
    unfold encr; rw [if_neg h1]; rfl
theorem wu_wu (a b : Int) : IntKind.u64.wrap (IntKind.u64.wrap a + b) = IntKind.u64.wrap (a + b) := by rw [wu, wu, wu]; omega
theorem REnt_l0 (a : Int) (l : List OS) (hl : l.length ≤ 1000000) : ∀ (n i : Nat) (acc : List ES), i + n = l.length → acc.length = i → Ev (fun k => screeref05_Entries.l0 k (IntKind.u64.wrap (a + i)) l acc (i : Int)) (acc ++ ents a i (l.drop i)) := by
  intro n
  induction n with
  | zero =>
    intro i acc hi ha
    refine Ev.step (fun k => by rw [screeref05_Entries.l0]) ?_
    refine Ev.neg (by omega) (Ev.val ?_)
    rw [List.drop_eq_nil_of_le (by omega)]; simp [ents]
  | succ n ih =>
    intro i acc hi ha
    have h1 : i < l.length := by omega
    refine Ev.step (fun k => by rw [screeref05_Entries.l0]) ?_
    refine Ev.pos (by omega) (Ev.pos (by omega) (Ev.pos (by omega) ?_))
    rw [rdO h1, w64 ((i : Int) + 1) (by omega) (by omega), wu_wu]
    have := ih (i + 1) (acc ++ [ent a i l[i]]) (by omega) (by simp [ha])
    have e : a + (i : Int) + 1 = a + ((i + 1 : Nat) : Int) := by omega
    rw [e]
    refine Ev.eq this ?_
    rw [List.drop_eq_getElem_cons h1, ents]
    simp
theorem REntries_ev (a : Int) (l : List OS) (ha : u64 a) (hl : l.length ≤ 1000000) : Ev (fun k => screeref05_Entries.f k a l) (ents a 0 l) := by
  unfold screeref05_Entries.f
  have := REnt_l0 a l hl l.length 0 [] (by omega) rfl
  have e : IntKind.u64.wrap (a + ((0 : Nat) : Int)) = a := by rw [wu_in _ (by have := ha.1; omega) (by have := ha.2; omega)]; simp
  rw [e] at this
  simpa using this
theorem BatchWrites : ∀ (a0 : Int) (l1 : List OS), ((Lit.int .u64 a0).wf = true) → (((∀ x ∈ l1, (True ∧ x.f1.size ≤ 140737488351232 ∧ x.f2.size ≤ 140737488351232)) ∧ l1.length * 40 ≤ 140737488351232)) → ∃ k, screelaw05_BatchWrites.f k a0 l1 = some true := by
  intro a l ha ⟨_, hl⟩
  have hu := wf_u64 ha
  refine Ev.rounds ?_
  unfold screelaw05_BatchWrites.f
  refine Ev.bind awake_ev (Ev.pos rfl (Ev.bind (large_ev l) ?_))
  cases hg : lrg l with
  | true => exact Ev.pos rfl (Ev.val rfl)
  | false =>
    have hlr := lrg_no hg
    have h40 := hlr.1
    refine Ev.neg (by simp) (Ev.just rfl (Ev.pos (by simp; omega) (Ev.just rfl ?_)))
    simp only [List.nil_append]
    refine Ev.bind (Encode_ev a l (by omega)) (Ev.bind (REncode_ev a l hu (by omega)) (Ev.bind (Entries_ev a l (by omega)) (Ev.bind (REntries_ev a l hu (by omega)) ?_)))
    refine Ev.pos rfl (Ev.pos rfl (Ev.just (May_f l (by omega)) (Ev.bind (RMay_ev l (by omega)) (Ev.neg (by simp) ?_))))
    have e0 : (((ents a 0 l).length : Int) != ((ents a 0 l).length : Int)) = false := by simp
    rw [e0]
    refine Ev.step (fun k => by rw [screelaw05_BatchWrites.j0]) ?_
    refine Ev.neg (by simp) ?_
    rw [ents_len]
    have loop : ∀ (n i s : Nat), i + n = l.length → s + siz (l.drop i) = siz l → s ≤ 600 * i → Ev (fun k => screelaw05_BatchWrites.l0 k l l (ents a 0 l) (ents a 0 l) (s : Int) (l.length : Int) (i : Int)) true := by
      intro n
      induction n with
      | zero =>
        intro i s hi hs h6
        refine Ev.step (fun k => by rw [screelaw05_BatchWrites.l0]) ?_
        refine Ev.neg (by omega) (Ev.bind (Size_ev l h40 hlr.2) ?_)
        rw [List.drop_eq_nil_of_le (by omega)] at hs
        have hs2 : s = siz l := by simpa [siz] using hs
        refine Ev.pos (by rw [hs2]) (Ev.bind (Same_self l (by omega)) (Ev.val rfl))
      | succ n ih =>
        intro i s hi hs h6
        have h1 : i < l.length := by omega
        have h2 := hlr.2 l[i] (List.getElem_mem h1)
        refine Ev.step (fun k => by rw [screelaw05_BatchWrites.l0]) ?_
        refine Ev.pos (by omega) (Ev.pos (by omega) (Ev.pos (by rw [ents_len]; omega) (Ev.pos (by rw [ents_len]; omega) (Ev.neg (by simp) (Ev.pos (by omega) ?_)))))
        rw [rdO h1, size_bl, size_bl, w64 ((i : Int) + 1) (by omega) (by omega)]
        rw [w64 (((bl l[i].f1).length : Int) + ((bl l[i].f2).length : Int)) (by omega) (by omega)]
        rw [w64 _ (by omega) (by omega)]
        rw [List.drop_eq_getElem_cons h1] at hs
        have e1 : siz (l[i] :: l.drop (i + 1)) = (bl l[i].f1).length + (bl l[i].f2).length + siz (l.drop (i + 1)) := by unfold siz; rw [List.map_cons, List.sum_cons]
        rw [e1] at hs
        have := ih (i + 1) (s + ((bl l[i].f1).length + (bl l[i].f2).length)) (by omega) (by omega) (by omega)
        have e2 : ((s + ((bl l[i].f1).length + (bl l[i].f2).length) : Nat) : Int) = (s : Int) + (((bl l[i].f1).length : Int) + ((bl l[i].f2).length : Int)) := by omega
        rw [e2] at this
        exact this
    exact loop l.length 0 0 (by omega) (by simp) (by omega)

/-! ### the reference's Decode -/
def tn (s : List UInt8) : List UInt8 × List UInt8 × Bool := if (ta s true).2.2 = true then ta s true else ([], [], false)
theorem tn_le (s : List UInt8) : (tn s).2.1.length ≤ s.length := by
  unfold tn; split
  · exact (ta_le s true).1
  · simp
theorem taken_ev (s : List UInt8) (h : s.length ≤ 1000000) : Ev (fun k => screeref05_taken.f k (lb s)) (lb (tn s).1, lb (tn s).2.1, (tn s).2.2) := by
  unfold screeref05_taken.f
  refine Ev.bind (RTake_ev s (by omega)) ?_
  unfold tn ta
  have hl := nu_le s true
  cases e : tk s with
  | none =>
    rw [nu_none e]
    refine Ev.neg (by simp [tres]) (Ev.val ?_)
    simp; rfl
  | some q =>
    obtain ⟨n, r⟩ := q
    rw [nu_some e] at hl ⊢
    simp only at hl
    simp only [tres]
    have e1 : IntKind.u64.wrap ((lb r).size : Int) = (r.length : Int) := by rw [lb_size]; exact wu_nat _ (by omega)
    have e2 : wrap64 (n : Int) = n ∨ n > r.length := by
      by_cases h1 : n > r.length
      · exact Or.inr h1
      · exact Or.inl (w64 (n : Int) (by omega) (by omega))
    refine Ev.pos trivial ?_
    by_cases h1 : n > r.length
    · refine Ev.pos (by rw [e1]; omega) (Ev.val ?_)
      simp [h1]; rfl
    · have e3 := e2.resolve_right h1
      refine Ev.neg (by rw [e1]; omega) (Ev.pos (by rw [e3]; omega) (Ev.pos (by rw [e3, lb_size]; omega) (Ev.val ?_)))
      rw [e3, lb_extract, lb_extract, lb_size]
      simp [h1]
theorem tri (p : List UInt8 × List UInt8 × Bool) (h : p.2.2 = true) : p = (p.1, p.2.1, true) := by
  obtain ⟨a, b, c⟩ := p
  simp only at h
  subst h; rfl
theorem RDec_l0 (whole : List UInt8) (a : Int) (ha : u64 a) (c : Nat) (hc : c ≤ 16) : ∀ (n i : Nat) (s : List UInt8) (acc : List OS), i + n = c → acc.length = i → s.length ≤ 1000000 →
    ∃ r, Ev (fun k => screeref05_Decode.l0 k (lb s) (lb whole) a (c : Int) acc (i : Int)) r ∧
      ((r = noB) ∨ ∃ L, mayB L = true ∧ numB a L.length = true ∧ whole = enc a L ∧ r = (a, L, 0)) ∧
      (∀ L : List OS, L.length = n → (∀ x ∈ L, okO x = true) → s = L.flatMap opB → mayB (acc ++ L) = true → numB a (acc ++ L).length = true → whole = enc a (acc ++ L) → r = (a, acc ++ L, 0)) := by
  intro n
  induction n with
  | zero =>
    intro i s acc hi hacc hs
    have hE := REncode_ev a acc ha (by omega)
    by_cases h : mayB acc = true ∧ numB a acc.length = true ∧ enc a acc = whole
    · refine ⟨(a, acc, 0), ?_, Or.inr ⟨acc, h.1, h.2.1, h.2.2.symm, rfl⟩, ?_⟩
      · refine Ev.step (fun k => by rw [screeref05_Decode.l0]) ?_
        refine Ev.neg (by omega) (Ev.bind hE ?_)
        rw [encr_yes h.1 h.2.1]
        refine Ev.pos rfl (Ev.pos ?_ (Ev.val rfl))
        simp only [lb_toList]
        exact h.2.2
      · intro L hL _ _ _ _ _
        rw [List.eq_nil_of_length_eq_zero hL, List.append_nil]
    · refine ⟨noB, ?_, Or.inl rfl, ?_⟩
      · refine Ev.step (fun k => by rw [screeref05_Decode.l0]) ?_
        refine Ev.neg (by omega) (Ev.bind hE ?_)
        rcases encr_cases a acc with ⟨h1, h2, e⟩ | ⟨_, d, hd, e⟩
        · rw [e]
          refine Ev.pos rfl (Ev.neg ?_ (Ev.val rfl))
          simp only [lb_toList]
          exact fun e3 => h ⟨h1, h2, e3⟩
        · rw [e]
          exact Ev.neg (by simp only; omega) (Ev.val rfl)
      · intro L hL _ _ h1 h2 h3
        rw [List.eq_nil_of_length_eq_zero hL, List.append_nil] at h1 h2 h3
        exact absurd ⟨h1, h2, h3.symm⟩ h
  | succ n ih =>
    intro i s acc hi hacc hs
    have hd : ∀ k, screeref05_Decode.l0 (k + 1) (lb s) (lb whole) a (c : Int) acc (i : Int) = screeref05_Decode.l0 (k + 1) (lb s) (lb whole) a (c : Int) acc (i : Int) := fun _ => rfl
    have e1 : IntKind.u64.wrap ((i : Int) + 1) = ((i + 1 : Nat) : Int) := by rw [wu_in _ (by omega) (by omega)]; omega
    cases s with
    | nil =>
      refine ⟨noB, ?_, Or.inl rfl, ?_⟩
      · refine Ev.step (fun k => by rw [screeref05_Decode.l0]) ?_
        exact Ev.pos (by omega) (Ev.pos (by rw [lb_size]; rfl) (Ev.val rfl))
      · intro L hL hok h1 _ _ _
        cases L with
        | nil => simp at hL
        | cons x L =>
          have := (opB_len (hok x (by simp))).2
          have h2 := congrArg List.length h1
          simp only [List.flatMap_cons, List.length_append, List.length_nil] at h2
          omega
    | cons b t =>
      have ht : t.length + 1 ≤ 1000000 := by simpa using hs
      have hx : (lb (b :: t)).extract 1 (lb (b :: t)).size = lb t := by rw [lb_extract, lb_size]; simp
      have hb : bt (lb (b :: t)) 0 = (b.toNat : Int) := bt_app [] b t
      have hbq : (((b.toNat : Nat) : Int) == 1) = decide (b = 1) := by
        rw [Bool.eq_iff_iff]; simp only [beq_iff_eq, decide_eq_true_eq]
        constructor
        · intro h; exact u8_ext (by have : b.toNat = 1 := by omega
                                    rw [this]; rfl)
        · intro h; rw [h]; rfl
      have l1 := tn_le t
      have l2 := tn_le (tn t).2.1
      -- the two ways that go on
      have head : ∀ r, (∀ g : Bool, g = (tn t).2.2 → Ev (fun k => screeref05_Decode.j2 k (lb (tn t).2.1) (lb whole) a (c : Int) acc (i : Int) g (g && !(decide (b = 1))) (decide (b = 1)) (lb (tn t).1) (⟨#[]⟩ : ByteArray)) r) → Ev (fun k => screeref05_Decode.l0 k (lb (b :: t)) (lb whole) a (c : Int) acc (i : Int)) r := by
        intro r hr
        refine Ev.step (fun k => by rw [screeref05_Decode.l0]) ?_
        refine Ev.pos (by omega) (Ev.neg (by rw [lb_size, List.length_cons]; omega) (Ev.pos (by rw [lb_size, List.length_cons]; omega) (Ev.pos (by rw [lb_size, List.length_cons]; omega) ?_)))
        rw [hx, hb, hbq]
        refine Ev.bind (taken_ev t (by omega)) ?_
        have := hr (tn t).2.2 rfl
        cases hg : (tn t).2.2 with
        | true =>
          rw [hg] at this
          refine Ev.pos rfl ?_
          rw [Bool.true_and] at this
          exact this
        | false =>
          rw [hg] at this
          refine Ev.neg (by simp) ?_
          rw [Bool.false_and] at this
          exact this
      by_cases hg : (tn t).2.2 = true
      · have hta : ta t true = ((tn t).1, (tn t).2.1, true) := by
          unfold tn at hg ⊢
          by_cases h2 : (ta t true).2.2 = true
          · rw [if_pos h2]
            exact tri _ h2
          · rw [if_neg h2] at hg; simp at hg
        have htt := (ta_good hta).2
        by_cases hb1 : b = 1
        · -- taken away
          obtain ⟨r, hr1, hr2, hr3⟩ := ih (i + 1) (tn t).2.1 (acc ++ [⟨true, lb (tn t).1, lb []⟩]) (by omega) (by simp [hacc]) (by omega)
          refine ⟨r, head r ?_, hr2, ?_⟩
          · intro g hgg
            rw [hg] at hgg
            subst hgg
            rw [decide_eq_true hb1]
            refine Ev.step (fun k => by rw [screeref05_Decode.j2]) ?_
            refine Ev.neg (by simp) (Ev.pos rfl (Ev.pos (by omega) ?_))
            rw [e1]
            exact hr1
          · intro L hL hok h1 h2 h3 h4
            cases L with
            | nil => simp at hL
            | cons x L =>
              have hox := of_decide_eq_true (hok x (by simp))
              have hd1 : x.f0 = true := by
                by_cases hd1 : x.f0 = true
                · exact hd1
                · simp [opB, hd1] at h1
                  rw [hb1] at h1
                  simp at h1
              have h5 : t = txt (bl x.f1) ++ L.flatMap opB := by
                simp [opB, hd1] at h1
                exact h1.2
              have h6 := ta_txt (t := bl x.f1) (by omega) (L.flatMap opB)
              rw [← h5, hta] at h6
              simp only [Prod.mk.injEq] at h6
              have e2 : (⟨true, lb (tn t).1, lb []⟩ : OS) = x := by
                rw [h6.1, lb_bl, ← hox.2.2.2 hd1, lb_bl]
                cases x; simp only at hd1; rw [hd1]
              rw [e2] at hr3
              have h7 := hr3 L (by simpa using hL) (fun y hy => hok y (by simp [hy])) h6.2.1 (by rw [List.append_assoc]; exact h2) (by rw [List.append_assoc]; exact h3) (by rw [List.append_assoc]; exact h4)
              rw [h7, List.append_assoc]; rfl
        · by_cases hg2 : (tn (tn t).2.1).2.2 = true
          · have hta2 : ta (tn t).2.1 true = ((tn (tn t).2.1).1, (tn (tn t).2.1).2.1, true) := by
              generalize hq : (tn t).2.1 = q at hg2 ⊢
              unfold tn at hg2 ⊢
              by_cases h2 : (ta q true).2.2 = true
              · rw [if_pos h2]
                exact tri _ h2
              · rw [if_neg h2] at hg2; simp at hg2
            obtain ⟨r, hr1, hr2, hr3⟩ := ih (i + 1) (tn (tn t).2.1).2.1 (acc ++ [⟨false, lb (tn t).1, lb (tn (tn t).2.1).1⟩]) (by omega) (by simp [hacc]) (by omega)
            refine ⟨r, head r ?_, hr2, ?_⟩
            · intro g hgg
              rw [hg] at hgg
              subst hgg
              rw [decide_eq_false hb1]
              refine Ev.step (fun k => by rw [screeref05_Decode.j2]) ?_
              refine Ev.pos (by simp) (Ev.bind (taken_ev _ (by omega)) (Ev.pos hg2 (Ev.pos (by omega) ?_)))
              rw [e1]
              exact hr1
            · intro L hL hok h1 h2 h3 h4
              cases L with
              | nil => simp at hL
              | cons x L =>
                have hox := of_decide_eq_true (hok x (by simp))
                have hd1 : x.f0 = false := by
                  by_cases hd1 : x.f0 = true
                  · simp [opB, hd1] at h1
                    exact absurd h1.1 hb1
                  · simpa using hd1
                have h5 : t = txt (bl x.f1) ++ (txt (bl x.f2) ++ L.flatMap opB) := by
                  simp [opB, hd1] at h1
                  exact h1.2
                have h6 := ta_txt (t := bl x.f1) (by omega) (txt (bl x.f2) ++ L.flatMap opB)
                rw [← h5, hta] at h6
                simp only [Prod.mk.injEq] at h6
                have h8 := ta_txt (t := bl x.f2) (by omega) (L.flatMap opB)
                rw [← h6.2.1, hta2] at h8
                simp only [Prod.mk.injEq] at h8
                have e2 : (⟨false, lb (tn t).1, lb (tn (tn t).2.1).1⟩ : OS) = x := by
                  rw [h6.1, h8.1, lb_bl, lb_bl]
                  cases x; simp only at hd1; rw [hd1]
                rw [e2] at hr3
                have h7 := hr3 L (by simpa using hL) (fun y hy => hok y (by simp [hy])) h8.2.1 (by rw [List.append_assoc]; exact h2) (by rw [List.append_assoc]; exact h3) (by rw [List.append_assoc]; exact h4)
                rw [h7, List.append_assoc]; rfl
          · refine ⟨noB, head noB ?_, Or.inl rfl, ?_⟩
            · intro g hgg
              rw [hg] at hgg
              subst hgg
              rw [decide_eq_false hb1]
              refine Ev.step (fun k => by rw [screeref05_Decode.j2]) ?_
              exact Ev.pos (by simp) (Ev.bind (taken_ev _ (by omega)) (Ev.neg hg2 (Ev.val rfl)))
            · intro L hL hok h1 h2 h3 h4
              exfalso
              cases L with
              | nil => simp at hL
              | cons x L =>
                have hox := of_decide_eq_true (hok x (by simp))
                have hd1 : x.f0 = false := by
                  by_cases hd1 : x.f0 = true
                  · simp [opB, hd1] at h1
                    exact absurd h1.1 hb1
                  · simpa using hd1
                have h5 : t = txt (bl x.f1) ++ (txt (bl x.f2) ++ L.flatMap opB) := by
                  simp [opB, hd1] at h1
                  exact h1.2
                have h6 := ta_txt (t := bl x.f1) (by omega) (txt (bl x.f2) ++ L.flatMap opB)
                rw [← h5, hta] at h6
                simp only [Prod.mk.injEq] at h6
                have h8 := ta_txt (t := bl x.f2) (by omega) (L.flatMap opB)
                rw [← h6.2.1] at h8
                apply hg2
                unfold tn at h8 ⊢
                generalize ta t true = q at h8 ⊢
                rw [h8]; rfl
      · refine ⟨noB, head noB ?_, Or.inl rfl, ?_⟩
        · intro g hgg
          have hgf : g = false := by rw [hgg]; simpa using hg
          subst hgf
          refine Ev.step (fun k => by rw [screeref05_Decode.j2]) ?_
          exact Ev.neg (by simp) (Ev.neg (by simp) (Ev.val rfl))
        · intro L hL hok h1 h2 h3 h4
          exfalso
          cases L with
          | nil => simp at hL
          | cons x L =>
            have hox := of_decide_eq_true (hok x (by simp))
            have h5 : ∃ z, t = txt (bl x.f1) ++ z := by
              by_cases hd1 : x.f0 = true
              · simp [opB, hd1] at h1
                exact ⟨_, h1.2⟩
              · simp [opB, hd1] at h1
                exact ⟨_, h1.2⟩
            obtain ⟨z, h5⟩ := h5
            have h6 := ta_txt (t := bl x.f1) (by omega) z
            rw [← h5] at h6
            apply hg
            unfold tn
            rw [h6]; rfl
theorem RDecode_ev (s : List UInt8) (hs : s.length ≤ 8192) : Ev (fun k => screeref05_Decode.f k (lb s)) (decr s) := by
  have bad : ∀ (a c : Int) (z : ByteArray), (∀ (b : Int) (l : List OS), mayB l = true → numB b l.length = true → s ≠ enc b l) → Ev (fun k => screeref05_Decode.j0 k (lb s) a c z true) (decr s) := by
    intro a c z h
    refine Ev.step (fun k => by rw [screeref05_Decode.j0]) ?_
    refine Ev.pos rfl (Ev.val ?_)
    rcases decr_cases s with e | ⟨b, m, h3, h4, h5, e⟩
    · rw [e]; rfl
    · exact absurd h5 (h b m h3 h4)
  unfold screeref05_Decode.f
  refine Ev.bind (RTake_ev s (by omega)) ?_
  cases e1 : tk s with
  | none =>
    simp only [tres]
    refine Ev.bind (RTake_ev [] (by simp)) (Ev.neg (by simp) (bad _ _ _ ?_))
    intro b l h1 h2 h3
    have := nu_good (s := s) (g := true) (n := b.toNat) (r := short l.length ++ l.flatMap opB) (by
      rw [h3]; unfold enc sh
      exact nu_short (by have hq := numB_u h2 (mayB_len h1).1; have hq1 := hq.1; have hq2 := hq.2; omega) _ _)
    have h4 := (tk_iff s (short l.length ++ l.flatMap opB) b.toNat).2 ⟨this.2.2, this.2.1⟩
    rw [e1] at h4; cases h4
  | some q =>
    obtain ⟨a, r⟩ := q
    have ha := (tk_iff _ _ _).1 e1
    simp only [tres]
    have hr : r.length ≤ s.length := by rw [ha.2]; simp
    refine Ev.bind (RTake_ev r (by omega)) (Ev.pos trivial ?_)
    have shape : ∀ (b : Int) (l : List OS), mayB l = true → numB b l.length = true → s = enc b l → (a : Int) = b ∧ r = short l.length ++ l.flatMap opB := by
      intro b l h1 h2 h3
      have h4 := ha.2
      rw [h3] at h4
      unfold enc sh at h4
      obtain ⟨e2, e3⟩ := short_free h4
      have := (numB_u h2 (mayB_len h1).1).1
      exact ⟨by omega, e3.symm⟩
    cases e2 : tk r with
    | none =>
      refine Ev.neg (by simp [tres]) (bad _ _ _ ?_)
      intro b l h1 h2 h3
      have h4 := (shape b l h1 h2 h3).2
      have := (tk_iff r (l.flatMap opB) l.length).2 ⟨by have := mayB_len h1; omega, h4⟩
      rw [e2] at this; cases this
    | some q2 =>
      obtain ⟨c, z⟩ := q2
      have hc := (tk_iff _ _ _).1 e2
      simp only [tres]
      refine Ev.pos trivial ?_
      show Ev (fun n => screeref05_Decode.j0 n (lb s) (a : Int) (c : Int) (lb z) (decide ((c : Int) > 16))) (decr s)
      have shape2 : ∀ (b : Int) (l : List OS), mayB l = true → numB b l.length = true → s = enc b l → (a : Int) = b ∧ c = l.length ∧ z = l.flatMap opB := by
        intro b l h1 h2 h3
        have h4 := shape b l h1 h2 h3
        have h5 := hc.2
        rw [h4.2] at h5
        obtain ⟨e3, e4⟩ := short_free h5
        exact ⟨h4.1, e3.symm, e4.symm⟩
      by_cases h16 : c > 16
      · have : decide ((c : Int) > 16) = true := decide_eq_true (by omega)
        rw [this]
        refine bad _ _ _ ?_
        intro b l h1 h2 h3
        have := (shape2 b l h1 h2 h3).2.1
        have := mayB_len h1
        omega
      · have : decide ((c : Int) > 16) = false := decide_eq_false (by omega)
        rw [this]
        have hz : z.length ≤ r.length := by rw [hc.2]; simp
        obtain ⟨R, hr1, hr2, hr3⟩ := RDec_l0 s (a : Int) ⟨by omega, by omega⟩ c (by omega) c 0 z [] (by omega) rfl (by omega)
        refine Ev.step (fun k => by rw [screeref05_Decode.j0]) ?_
        refine Ev.neg (by simp) ?_
        refine Ev.eq hr1 ?_
        rcases decr_cases s with e | ⟨b, m, h3, h4, h5, e⟩
        · rcases hr2 with h | ⟨L, h6, h7, h8, _⟩
          · rw [h, e]
          · have := decr_enc h6 h7
            rw [← h8, e] at this
            simp [noB] at this
        · have h6 := shape2 b m h3 h4 h5
          have := hr3 m h6.2.1.symm (mayB_all h3) h6.2.2 (by simpa using h3) (by rw [h6.1]; simpa using h4) (by rw [h6.1]; simpa using h5)
          rw [this, e, h6.1]; rfl
theorem BatchReads : ∀ (a0 : ByteArray), a0.size ≤ 140737488351232 → ∃ k, screelaw05_BatchReads.f k a0 = some true := by
  intro s hs
  obtain ⟨t, rfl⟩ := ex_lb s
  rw [lb_size] at hs
  refine Ev.rounds ?_
  unfold screelaw05_BatchReads.f
  refine Ev.bind awake_ev (Ev.pos rfl ?_)
  by_cases h1 : ((lb t).size : Int) > 8192
  · exact Ev.pos h1 (Ev.val rfl)
  · refine Ev.neg h1 ?_
    rw [lb_size] at h1
    refine Ev.bind (Decode_ev t hs) (Ev.bind (RDecode_ev t (by omega)) (Ev.pos rfl ?_))
    have hl : (decr t).2.1.length ≤ 1000000 := by
      rcases decr_cases t with e | ⟨b, m, h3, h4, h5, e⟩
      · rw [e]; simp [noB]
      · rw [e]; have := mayB_len h3; simp only; omega
    exact Ev.bind (Same_self _ hl) (Ev.pos rfl (Ev.val (by simp)))
end Go.Proofs.Ytfgelbkhjiajfaa.BatS
