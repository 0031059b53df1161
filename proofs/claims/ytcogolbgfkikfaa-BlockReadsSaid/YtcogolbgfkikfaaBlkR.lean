/- block: what the reference's Encode comes to. -/
import Derived.Test.YtcogolbgfkikfaaPx0
import Derived.Test.YtcogolbgfkikfaaPx9
import Derived.Test.YtcogolbgfkikfaaPx10
import Derived.Test.YtcogolbgfkikfaaBlkB
import Derived.Test.YtcogolbgfkikfaaNumR
import Derived.Test.YtcogolbgfkikfaaNumV
set_option linter.unusedVariables false
set_option linter.unusedSimpArgs false
namespace Go.Proofs.Ytcogolbgfkikfaa.BlkS
open Go.RowKit Go.Proofs.Ytcogolbgfkikfaa.P Go.Proofs.Ytcogolbgfkikfaa.Th Go.Proofs.Ytcogolbgfkikfaa.NumS Go.Proofs.YtcogolbgfkikfaaW.PrintWords Go.Proofs.YtcogolbgfkikfaaW.PrintLast Go.Proofs.YtcogolbgfkikfaaW.PrintMore

theorem rshared_l0 (a b : List UInt8) (ha : min a.length b.length ≤ 1000000000) : ∀ (n i : Nat), i + n = min a.length b.length → Ev (fun k => screeref09_Shared.l0 k (lb a) (lb b) (i : Int)) ((i + comm (a.drop i) (b.drop i) : Nat) : Int) := by
  intro n
  induction n with
  | zero =>
    intro i hi
    refine Ev.step (fun k => by rw [screeref09_Shared.l0]) ?_
    rw [lb_size, lb_size]
    rcases Nat.le_total a.length b.length with h | h
    · refine Ev.neg (by omega) (Ev.val ?_)
      rw [List.drop_eq_nil_of_le (show a.length ≤ i by omega), comm_nil]; rfl
    · by_cases h2 : (i : Int) < (a.length : Int)
      · refine Ev.pos h2 (Ev.neg (by omega) (Ev.val ?_))
        rw [List.drop_eq_nil_of_le (show b.length ≤ i by omega), comm_nil']; rfl
      · refine Ev.neg h2 (Ev.val ?_)
        rw [List.drop_eq_nil_of_le (show a.length ≤ i by omega), comm_nil]; rfl
  | succ n ih =>
    intro i hi
    have h1 : i < a.length := by omega
    have h2 : i < b.length := by omega
    refine Ev.step (fun k => by rw [screeref09_Shared.l0]) ?_
    refine Ev.pos (by rw [lb_size]; omega) (Ev.pos (by rw [lb_size]; omega) (Ev.pos (by omega) ?_))
    rw [bt_nat a i h1, bt_nat b i h2, List.drop_eq_getElem_cons h1, List.drop_eq_getElem_cons h2, comm_cons]
    by_cases h : a[i] = b[i]
    · rw [if_pos h]
      refine Ev.pos (by rw [h]) ?_
      rw [w64 _ (by omega) (by omega)]
      refine Ev.eq (ih (i + 1) (by omega)) ?_
      congr 1; omega
    · rw [if_neg h]
      exact Ev.neg (fun e => h (u8_ext (by omega))) (Ev.val rfl)
theorem RShared_ev (a b : List UInt8) (ha : min a.length b.length ≤ 1000000000) : Ev (fun k => screeref09_Shared.f k (lb a) (lb b)) ((comm a b : Nat) : Int) := by
  unfold screeref09_Shared.f
  refine Ev.eq (rshared_l0 a b ha (min a.length b.length) 0 (by omega)) ?_
  simp
theorem RAh_f (x y : ES) : screeref07_Ahead.f x.f0 x.f1 y.f0 y.f1 = some (ltE x y) := by
  unfold screeref07_Ahead.f ltE
  rw [toL_bl, toL_bl]
  by_cases h1 : Op.bytesLess (bl x.f0) (bl y.f0) = true
  · rw [h1]; simp
  · rw [show Op.bytesLess (bl x.f0) (bl y.f0) = false by simpa using h1]
    by_cases h2 : bl x.f0 = bl y.f0
    · simp [h2]
    · simp [h2]
theorem rrow_l0 (l : List ES) (hl : l.length ≤ 1000000) : ∀ (n i : Nat), i + n = l.length → Ev (fun k => screeref08_Row.l0 k l (i : Int)) (sorted (l.drop i)) := by
  intro n
  induction n with
  | zero =>
    intro i hi
    refine Ev.step (fun k => by rw [screeref08_Row.l0]) ?_
    rw [w64 ((i : Int) + 1) (by omega) (by omega)]
    refine Ev.neg (by omega) (Ev.val ?_)
    rw [List.drop_eq_nil_of_le (by omega)]; rfl
  | succ n ih =>
    intro i hi
    have h1 : i < l.length := by omega
    have e1 : wrap64 ((i : Int) + 1) = ((i + 1 : Nat) : Int) := by rw [w64 _ (by omega) (by omega)]; omega
    refine Ev.step (fun k => by rw [screeref08_Row.l0]) ?_
    rw [e1]
    clear e1
    by_cases h2 : i + 1 < l.length
    · refine Ev.pos (by omega) (Ev.pos (by omega) (Ev.pos (by omega) (Ev.pos (by omega) ?_)))
      rw [rdE h1, rdE h2, sorted_drop l i h2]
      refine Ev.just (RAh_f _ _) ?_
      cases ltE l[i] l[i + 1] with
      | true => exact Ev.pos rfl (Ev.eq (ih (i + 1) (by omega)) (by simp))
      | false => exact Ev.neg (by simp) (Ev.val rfl)
    · refine Ev.neg (by omega) (Ev.val ?_)
      rw [List.drop_eq_getElem_cons h1, List.drop_eq_nil_of_le (by omega)]; rfl
theorem RRow_ev (l : List ES) (hl : l.length ≤ 1000000) : Ev (fun k => screeref08_Row.f k l) (sorted l) := by
  unfold screeref08_Row.f
  exact Ev.eq (rrow_l0 l hl l.length 0 (by omega)) (by simp)
theorem RMay_f (x : ES) : screeref07_May.f x.f0 x.f1 x.f2 x.f3 = some (okE x) := by
  unfold screeref07_May.f okE
  rw [size_bl, size_bl]
  by_cases h0 : ((bl x.f0).length : Int) ≥ 1
  · rw [if_pos h0]
    by_cases h1 : ((bl x.f0).length : Int) ≤ 100
    · rw [if_pos h1]
      by_cases h2 : ((bl x.f3).length : Int) ≤ 100
      · rw [if_pos h2]
        cases hd : x.f2
        · rw [if_neg (by simp)]
          by_cases h3 : x.f1 ≥ 1
          · rw [if_pos h3]
            congr 1; rw [Bool.eq_iff_iff]; simp only [decide_eq_true_eq]
            exact ⟨fun h4 => ⟨by omega, by omega, by omega, by simp, by omega, h4⟩, fun h4 => h4.2.2.2.2.2⟩
          · rw [if_neg h3]
            congr 1; symm; rw [decide_eq_false_iff_not]; intro h4; omega
        · rw [if_pos rfl]
          by_cases h5 : ((bl x.f3).length : Int) = 0
          · rw [if_pos h5]
            have h6 : bl x.f3 = [] := List.length_eq_zero_iff.1 (by omega)
            by_cases h3 : x.f1 ≥ 1
            · rw [if_pos h3]
              congr 1; rw [Bool.eq_iff_iff]; simp only [decide_eq_true_eq]
              exact ⟨fun h4 => ⟨by omega, by omega, by omega, fun _ => h6, by omega, h4⟩, fun h4 => h4.2.2.2.2.2⟩
            · rw [if_neg h3]
              congr 1; symm; rw [decide_eq_false_iff_not]; intro h4; omega
          · rw [if_neg h5]
            congr 1; symm; rw [decide_eq_false_iff_not]; intro h4
            have := h4.2.2.2.1 rfl
            rw [this] at h5; simp at h5
      · rw [if_neg h2]
        congr 1; symm; rw [decide_eq_false_iff_not]; intro h3; omega
    · rw [if_neg h1]
      congr 1; symm; rw [decide_eq_false_iff_not]; intro h3; omega
  · rw [if_neg h0]
    congr 1; symm; rw [decide_eq_false_iff_not]; intro h3; omega
theorem RSh_ev {n : Int} (h : u64 n) : Ev (fun k => screeref01_Short.f k n) (lb (sh n)) := by
  obtain ⟨m, rfl⟩ := Int.eq_ofNat_of_zero_le h.1
  exact RShort_ev m (by have := h.2; omega)
theorem RText_ev (s : List UInt8) (h : s.length ≤ 1000000) : Ev (fun k => screeref05_Text.f k (lb s)) (lb (short s.length ++ s)) := by
  unfold screeref05_Text.f
  rw [lb_size, wu_nat _ (by omega)]
  have h4 := short_len10 s.length (by omega)
  exact Ev.bind (RShort_ev _ (by omega)) (Ev.pos (by rw [lb_size]; omega) (Ev.val (by rw [lb_append])))
theorem renc_l0 (L : List ES) (hL : L.length ≤ 32) : ∀ (n i : Nat) (acc : List UInt8) (st : List UInt8), i + n = L.length → acc.length ≤ 300 * i → st.length ≤ 8 * i →
    Ev (fun k => screeref09_Encode.l0 k L (lb acc) (lb st) (i : Int)) (if (L.drop i).all okE = true then (lb (acc ++ bodyB i (prev L i) (L.drop i) ++ (st ++ (startsB i acc.length (prev L i) (L.drop i)).flatMap long) ++ long L.length), 0) else (lb [], 2)) := by
  intro n
  induction n with
  | zero =>
    intro i acc st hi ha hs
    rw [List.drop_eq_nil_of_le (show L.length ≤ i by omega)]
    refine Ev.step (fun k => by rw [screeref09_Encode.l0]) ?_
    refine Ev.neg (by omega) (Ev.pos (by rw [lb_size, lb_size]; omega) ?_)
    rw [wu_nat _ (by omega)]
    refine Ev.bind (RLong_ev _ (by omega)) ?_
    rw [lb_append]
    refine Ev.pos (by rw [lb_size, lb_size, List.length_append, long_len]; omega) (Ev.val ?_)
    rw [lb_append]
    simp [bodyB, startsB]
  | succ n ih =>
    intro i acc st hi ha hs
    have h1 : i < L.length := by omega
    have e1 : wrap64 ((i : Int) + 1) = ((i + 1 : Nat) : Int) := by rw [w64 _ (by omega) (by omega)]; omega
    have et : Int.tmod (i : Int) 4 = ((i % 4 : Nat) : Int) := by clear e1; rw [Int.tmod_eq_emod_of_nonneg (by omega)]; omega
    rw [List.drop_eq_getElem_cons h1]
    generalize hx : L[i] = x
    have hp : prev L (i + 1) = bl x.f0 := by rw [prev_succ h1, hx]
    refine Ev.step (fun k => by rw [screeref09_Encode.l0]) ?_
    refine Ev.pos (by omega) (Ev.pos (by omega) ?_)
    rw [rdE h1, hx, et]
    refine Ev.just (RMay_f x) ?_
    rw [List.all_cons]
    cases hok : okE x with
    | false => exact Ev.neg (by simp) (Ev.val (by simp [lb_nil]))
    | true =>
      rw [Bool.true_and]
      refine Ev.pos rfl ?_
      have ho := okE_iff hok
      have hu := okE_u hok
      have l4 := sh_len hu
      -- the entry's bytes, whatever is shared
      have ent : ∀ (st' : List UInt8), st'.length ≤ 8 * (i + 1) → st' ++ (startsB (i + 1) (acc ++ entB (shB i (prev L i) x) x).length (bl x.f0) (L.drop (i + 1))).flatMap long = st ++ (startsB i acc.length (prev L i) (x :: L.drop (i + 1))).flatMap long →
          Ev (fun k => screeref09_Encode.j2 k L (lb acc) (lb st') (i : Int) ((shB i (prev L i) x : Nat) : Int) x.f0 x.f1 x.f2 x.f3) (if (L.drop (i + 1)).all okE = true then (lb (acc ++ bodyB i (prev L i) (x :: L.drop (i + 1)) ++ (st ++ (startsB i acc.length (prev L i) (x :: L.drop (i + 1))).flatMap long) ++ long L.length), 0) else (lb [], 2)) := by
        intro st' hst' heq
        have hn := shB_le i (prev L i) x
        have hel := entB_len hok hn
        have hI := ih (i + 1) (acc ++ entB (shB i (prev L i) x) x) st' (by omega) (by rw [List.length_append]; omega) (by omega)
        rw [hp, heq] at hI
        have hI2 : Ev (fun k => screeref09_Encode.l0 k L (lb (acc ++ entB (shB i (prev L i) x) x)) (lb st') ((i + 1 : Nat) : Int)) (if (L.drop (i + 1)).all okE = true then (lb (acc ++ bodyB i (prev L i) (x :: L.drop (i + 1)) ++ (st ++ (startsB i acc.length (prev L i) (x :: L.drop (i + 1))).flatMap long) ++ long L.length), 0) else (lb [], 2)) := by
          refine Ev.eq hI ?_
          simp [bodyB]
        clear hI ih
        generalize hm : shB i (prev L i) x = m at hn hel hI2 ⊢
        have l2 := short_len10 m (by omega)
        have l3 := short_len10 ((bl x.f0).drop m).length (by rw [List.length_drop]; omega)
        have l5 := short_len10 (bl x.f3).length (by omega)
        have e4 : x.f0.extract ((m : Int)).toNat x.f0.size = lb ((bl x.f0).drop m) := by
          have : x.f0 = lb (bl x.f0) := (lb_bl x.f0).symm
          rw [this, lb_extract, lb_size, bl_lb, Int.toNat_natCast, List.take_length]
        have j3 : ∀ c : UInt8, (if x.f2 = true then (1 : UInt8) else 0) = c → Ev (fun k => screeref09_Encode.j3 k L (lb acc) (lb st') (i : Int) (m : Int) (lb [c]) x.f0 x.f1 x.f2 x.f3) (if (L.drop (i + 1)).all okE = true then (lb (acc ++ bodyB i (prev L i) (x :: L.drop (i + 1)) ++ (st ++ (startsB i acc.length (prev L i) (x :: L.drop (i + 1))).flatMap long) ++ long L.length), 0) else (lb [], 2)) := by
          intro c hc
          have hE : entB m x = short m ++ (short ((bl x.f0).drop m).length ++ (bl x.f0).drop m) ++ sh x.f1 ++ [c] ++ (short (bl x.f3).length ++ bl x.f3) := by
            unfold entB; rw [hc, List.length_drop]; simp
          refine Ev.step (fun k => by rw [screeref09_Encode.j3]) ?_
          rw [e1, wu_nat m (by omega)]
          clear e1 et
          refine Ev.bind (RShort_ev m (by omega)) (Ev.pos (by omega) (Ev.pos (by rw [size_bl]; omega) ?_))
          rw [e4]
          have ht := RText_ev (bl x.f3) (by omega)
          rw [lb_bl] at ht
          have hld : ((bl x.f0).drop m).length ≤ 100 := by rw [List.length_drop]; omega
          generalize hd : (bl x.f0).drop m = d at hE l3 hld
          refine Ev.bind (RText_ev d (by omega)) (Ev.pos (by simp only [lb_size, List.length_append]; omega) (Ev.bind (RSh_ev hu) ?_))
          simp only [lb_append]
          refine Ev.pos (by simp only [lb_size, List.length_append]; omega) (Ev.pos (by simp only [lb_size, List.length_append, List.length_cons, List.length_nil]; omega) (Ev.bind ht ?_))
          simp only [lb_append]
          refine Ev.pos (by simp only [lb_size, List.length_append, List.length_cons, List.length_nil]; omega) (Ev.pos (by simp only [lb_size, List.length_append, List.length_cons, List.length_nil]; omega) ?_)
          rw [hE] at hI2
          exact hI2
        refine Ev.step (fun k => by rw [screeref09_Encode.j2]) ?_
        by_cases h2 : x.f2 = true
        · exact Ev.pos h2 (j3 1 (by rw [if_pos h2]))
        · exact Ev.neg h2 (j3 0 (by rw [if_neg h2]))
      clear ih
      by_cases hm : i % 4 = 0
      · have hsh : shB i (prev L i) x = 0 := by unfold shB; rw [if_pos hm]
        have hst : startsB i acc.length (prev L i) (x :: L.drop (i + 1)) = acc.length :: startsB (i + 1) (acc ++ entB (shB i (prev L i) x) x).length (bl x.f0) (L.drop (i + 1)) := by
          rw [startsB, if_pos hm, List.length_append]; rfl
        have hE := ent (st ++ long acc.length) (by rw [List.length_append, long_len]; omega) (by rw [hst]; simp)
        rw [hsh] at hE
        refine Ev.pos (by rw [hm]; rfl) ?_
        rw [lb_size, wu_nat _ (by omega)]
        refine Ev.bind (RLong_ev _ (by omega)) (Ev.pos (by rw [lb_size, lb_size, long_len]; omega) ?_)
        rw [lb_append]
        exact hE
      · have hst : startsB i acc.length (prev L i) (x :: L.drop (i + 1)) = startsB (i + 1) (acc ++ entB (shB i (prev L i) x) x).length (bl x.f0) (L.drop (i + 1)) := by
          rw [startsB, if_neg hm, List.length_append]; rfl
        have hE := ent st (by omega) (by rw [hst])
        refine Ev.neg (by omega) ?_
        clear e1 et
        obtain ⟨j, rfl⟩ : ∃ j, i = j + 1 := ⟨i - 1, by omega⟩
        have h5 : j < L.length := by omega
        have e4 : wrap64 (((j + 1 : Nat) : Int) - 1) = (j : Int) := by rw [w64 _ (by omega) (by omega)]; omega
        rw [e4]
        clear e4
        refine Ev.pos (by omega) (Ev.pos (by omega) ?_)
        rw [rdE h5]
        have hq := prev_succ h5
        have hsh : shB (j + 1) (prev L (j + 1)) x = comm (bl L[j].f0) (bl x.f0) := by unfold shB; rw [if_neg hm, hq]
        have hs2 := RShared_ev (bl L[j].f0) (bl x.f0) (by omega)
        rw [lb_bl, lb_bl] at hs2
        rw [hsh] at hE
        exact Ev.bind hs2 hE
theorem REncode_ev (l : List ES) (hl : l.length ≤ 1000000) : Ev (fun k => screeref09_Encode.f k l) (encr l) := by
  unfold screeref09_Encode.f
  have bad : rowB l = false → Ev (fun k => screeref09_Encode.j0 k l true) (encr l) := by
    intro h
    refine Ev.step (fun k => by rw [screeref09_Encode.j0]) ?_
    refine Ev.pos rfl (Ev.val ?_)
    unfold encr; rw [h]; rfl
  have nope : ¬ (1 ≤ l.length ∧ l.length ≤ 32) → rowB l = false := by
    intro h; unfold rowB; rw [decide_eq_false h]; rfl
  by_cases h1 : (l.length : Int) < 1
  · exact Ev.pos h1 (bad (nope (by omega)))
  refine Ev.neg h1 ?_
  by_cases h2 : (l.length : Int) > 32
  · exact Ev.pos h2 (bad (nope (by omega)))
  refine Ev.neg h2 (Ev.bind (RRow_ev l hl) ?_)
  cases hs : sorted l with
  | false => exact bad (by unfold rowB; rw [hs]; simp)
  | true =>
    refine Ev.step (fun k => by rw [screeref09_Encode.j0]) ?_
    refine Ev.neg (by simp) (Ev.eq (renc_l0 l (by omega) l.length 0 [] [] (by omega) (by simp) (by simp)) ?_)
    unfold encr rowB encB
    rw [hs, decide_eq_true (show 1 ≤ l.length ∧ l.length ≤ 32 from ⟨by omega, by omega⟩)]
    simp [prev]
end Go.Proofs.Ytcogolbgfkikfaa.BlkS
