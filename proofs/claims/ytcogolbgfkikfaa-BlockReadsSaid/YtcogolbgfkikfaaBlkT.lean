/- block: what the reference's Decode and Seek come to; the law of what any bytes are. -/
import Derived.Test.YtcogolbgfkikfaaPx0
import Derived.Test.YtcogolbgfkikfaaPx7
import Derived.Test.YtcogolbgfkikfaaPx9
import Derived.Test.YtcogolbgfkikfaaPx11
import Derived.Test.YtcogolbgfkikfaaPx12
import Derived.Test.YtcogolbgfkikfaaPx13
import Derived.Test.YtcogolbgfkikfaaBlkR
import Derived.Test.YtcogolbgfkikfaaBlkE
import Derived.Test.YtcogolbgfkikfaaNumB
set_option linter.unusedVariables false
set_option linter.unusedSimpArgs false
namespace Go.Proofs.Ytcogolbgfkikfaa.BlkS
open Go.RowKit Go.Proofs.Ytcogolbgfkikfaa.P Go.Proofs.Ytcogolbgfkikfaa.Th Go.Proofs.Ytcogolbgfkikfaa.NumS Go.Proofs.YtcogolbgfkikfaaW.PrintWords Go.Proofs.YtcogolbgfkikfaaW.PrintLast Go.Proofs.YtcogolbgfkikfaaW.PrintMore

theorem RCount_ev (s : List UInt8) (hs : s.length ≤ 100000000) : Ev (fun k => screeref09_Count.f k (lb s)) ((cntB s : Nat) : Int) := by
  unfold screeref09_Count.f
  rw [lb_size]
  by_cases h : s.length < 8
  · refine Ev.pos (by omega) (Ev.val ?_)
    unfold cntB; rw [if_pos h]; rfl
  · have e1 : wrap64 ((s.length : Int) - 8) = ((s.length - 8 : Nat) : Int) := by rw [w64 _ (by omega) (by omega)]; omega
    rw [e1]
    refine Ev.neg (by omega) (Ev.pos (by omega) (Ev.pos (by omega) ?_))
    rw [Int.toNat_natCast, lb_extract, List.take_length]
    refine Ev.bind (RUnlong_ev _) ?_
    have hl : (s.drop (s.length - 8)).length = 8 := by rw [List.length_drop]; omega
    unfold ures
    rw [if_pos hl]
    clear e1
    have hb := be_lt8 _ hl
    unfold cntB
    rw [if_neg h]
    generalize be 0 (s.drop (s.length - 8)) = b at hb ⊢
    by_cases h1 : b < 1
    · rw [if_pos (Or.inl h1)]
      exact Ev.pos (by omega) (Ev.val rfl)
    · refine Ev.neg (by omega) ?_
      by_cases h2 : b > 32
      · rw [if_pos (Or.inr h2)]
        exact Ev.pos (by omega) (Ev.val rfl)
      · refine Ev.neg (by omega) (Ev.val ?_)
        rw [if_neg (by omega), w64 _ (by omega) (by omega)]
def tkn (s : List UInt8) : Option (List UInt8 × List UInt8) := match tk s with
  | none => none
  | some (n, r) => if n > r.length then none else some (r.take n, r.drop n)
def knres : Option (List UInt8 × List UInt8) → ByteArray × ByteArray × Bool
  | none => (lb [], lb [], false)
  | some (a, b) => (lb a, lb b, true)
theorem tk_le {s r : List UInt8} {n : Nat} (h : tk s = some (n, r)) : r.length ≤ s.length ∧ n < 18446744073709551616 := by
  have := (tk_iff s r n).1 h
  rw [this.2, List.length_append]
  exact ⟨by omega, this.1⟩
theorem tkn_le {s a b : List UInt8} (h : tkn s = some (a, b)) : a.length + b.length ≤ s.length := by
  unfold tkn at h
  cases e : tk s with
  | none => rw [e] at h; cases h
  | some nr =>
    obtain ⟨n, r⟩ := nr
    rw [e] at h
    have := tk_le e
    simp only at h
    split at h
    · cases h
    · cases h; rw [List.length_take, List.length_drop]; omega
theorem tkn_app (a b : List UInt8) (h : a.length < 18446744073709551616) : tkn (short a.length ++ (a ++ b)) = some (a, b) := by
  unfold tkn
  rw [tk_short _ _ h]
  simp
theorem Rtaken_ev (s : List UInt8) (hs : s.length ≤ 100000000) : Ev (fun k => screeref09_taken.f k (lb s)) (knres (tkn s)) := by
  unfold screeref09_taken.f tkn
  refine Ev.bind (RTake_ev s (by omega)) ?_
  cases e : tk s with
  | none => exact Ev.neg (by simp [tres]) (Ev.val rfl)
  | some nr =>
    obtain ⟨n, r⟩ := nr
    have h := tk_le e
    refine Ev.pos rfl ?_
    simp only [tres, lb_size]
    rw [wu_nat r.length (by omega)]
    by_cases h1 : n > r.length
    · rw [if_pos h1]
      exact Ev.pos (by omega) (Ev.val rfl)
    · rw [if_neg h1]
      rw [w64 (n : Int) (by omega) (by omega)]
      refine Ev.neg (by omega) (Ev.pos (by omega) (Ev.pos (by omega) (Ev.val ?_)))
      rw [Int.toNat_natCast, lb_extract, lb_extract, List.take_length, List.drop_zero]
      rfl
def rstep (s key : List UInt8) : Option (ES × List UInt8) := match tk s with
  | none => none
  | some (n, more) => if n > key.length then none else match tkn more with
    | none => none
    | some (text, behind) => match tk behind with
      | none => none
      | some (seq, after) => match after with
        | [] => none
        | c :: rest => match tkn rest with
          | none => none
          | some (value, last) => some (⟨lb (key.take n ++ text), (seq : Int), ((c.toNat : Int) == 1), lb value⟩, last)
def rgo : Nat → List UInt8 → List UInt8 → List ES → Option (List ES)
  | 0, _, _, acc => some acc
  | m + 1, s, key, acc => match rstep s key with
    | none => none
    | some (x, r) => rgo m r (bl x.f0) (acc ++ [x])
def rfin (s : List UInt8) : Option (List ES) → List ES × Int
  | none => ([], 2)
  | some l => if (encr l).2 = 0 then (if (encr l).1.toList = s then (l, 0) else ([], 2)) else ([], 2)
theorem rgo_ev (s : List UInt8) (hs : s.length ≤ 1000000) : ∀ (m i : Nat) (rest key : List UInt8) (acc : List ES), i + m = cntB s → acc.length ≤ i → rest.length + key.length ≤ 1000000 →
    Ev (fun k => screeref09_Decode.l0 k (lb s) (lb rest) acc (lb key) (i : Int)) (rfin s (rgo m rest key acc)) := by
  have hc := cntB_le s
  intro m
  induction m with
  | zero =>
    intro i rest key acc hi ha hr
    refine Ev.step (fun k => by rw [screeref09_Decode.l0]) ?_
    refine Ev.bind (RCount_ev s (by omega)) (Ev.neg (by omega) (Ev.bind (REncode_ev acc (by omega)) ?_))
    simp only [rgo, rfin, lb_toList]
    by_cases h1 : (encr acc).2 = 0
    · refine Ev.pos h1 ?_
      rw [if_pos h1]
      by_cases h2 : (encr acc).1.toList = s
      · exact Ev.pos h2 (Ev.val (by rw [if_pos h2]))
      · exact Ev.neg h2 (Ev.val (by rw [if_neg h2]))
    · exact Ev.neg h1 (Ev.val (by rw [if_neg h1]))
  | succ m ih =>
    intro i rest key acc hi ha hr
    have e1 : wrap64 ((i : Int) + 1) = ((i + 1 : Nat) : Int) := by rw [w64 _ (by omega) (by omega)]; omega
    have bad1 : ∀ (a : Int) (b : ByteArray), Ev (fun k => screeref09_Decode.j1 k (lb s) acc (lb key) (i : Int) a b true) (([], 2) : List ES × Int) := by
      intro a b
      refine Ev.step (fun k => by rw [screeref09_Decode.j1]) ?_
      exact Ev.pos rfl (Ev.val rfl)
    have bad2 : ∀ (k2 : ByteArray) (a : Int) (b : ByteArray), Ev (fun k => screeref09_Decode.j2 k (lb s) acc k2 (i : Int) a b true) (([], 2) : List ES × Int) := by
      intro k2 a b
      refine Ev.step (fun k => by rw [screeref09_Decode.j2]) ?_
      exact Ev.pos rfl (Ev.val rfl)
    refine Ev.step (fun k => by rw [screeref09_Decode.l0]) ?_
    refine Ev.bind (RCount_ev s (by omega)) (Ev.pos (by clear e1; omega) (Ev.bind (RTake_ev rest (by clear e1; omega)) ?_))
    rw [rgo, rstep]
    cases t1 : tk rest with
    | none => exact Ev.neg (by simp [tres]) (bad1 _ _)
    | some nm =>
      obtain ⟨n, more⟩ := nm
      have l1 := tk_le t1
      refine Ev.pos rfl ?_
      simp only [tres, lb_size]
      rw [wu_nat key.length (by clear e1; omega)]
      by_cases h1 : n > key.length
      · rw [if_pos h1, decide_eq_true (show (n : Int) > (key.length : Int) by clear e1; omega)]
        exact bad1 _ _
      rw [if_neg h1, decide_eq_false (show ¬ (n : Int) > (key.length : Int) by clear e1; omega)]
      refine Ev.step (fun k => by rw [screeref09_Decode.j1]) ?_
      refine Ev.neg (by simp) (Ev.bind (Rtaken_ev more (by clear e1; omega)) ?_)
      cases t2 : tkn more with
      | none => exact Ev.neg (by simp [knres]) (Ev.val rfl)
      | some tb =>
        obtain ⟨text, behind⟩ := tb
        have l2 := tkn_le t2
        refine Ev.pos rfl ?_
        simp only [knres, lb_size]
        rw [w64 (n : Int) (by clear e1; omega) (by clear e1; omega)]
        refine Ev.pos (by clear e1; omega) (Ev.pos (by clear e1; omega) ?_)
        rw [Int.toNat_natCast, lb_extract, List.drop_zero]
        have lk : (key.take n).length ≤ key.length := by rw [List.length_take]; exact Nat.min_le_right _ _
        refine Ev.pos (by rw [lb_size]; clear e1; omega) (Ev.bind (RTake_ev behind (by clear e1; omega)) ?_)
        rw [lb_append]
        cases t3 : tk behind with
        | none => exact Ev.neg (by simp [tres]) (bad2 _ _ _)
        | some sa =>
          obtain ⟨seq, after⟩ := sa
          have l3 := tk_le t3
          refine Ev.pos rfl ?_
          simp only [tres, lb_size]
          cases after with
          | nil => exact bad2 _ _ _
          | cons c r =>
            rw [List.length_cons] at l3
            have hz : ((((c :: r).length : Nat) : Int) == 0) = false := by rw [beq_eq_false_iff_ne, List.length_cons]; clear e1; omega
            rw [hz]
            refine Ev.step (fun k => by rw [screeref09_Decode.j2]) ?_
            simp only [lb_size]
            refine Ev.neg (by simp) (Ev.pos (by rw [List.length_cons]; clear e1; omega) ?_)
            have ex : (lb (c :: r)).extract 1 (c :: r).length = lb r := by rw [lb_extract, List.take_length]; rfl
            rw [ex]
            refine Ev.bind (Rtaken_ev r (by clear e1; omega)) ?_
            cases t4 : tkn r with
            | none => exact Ev.neg (by simp [knres]) (Ev.val rfl)
            | some vl =>
              obtain ⟨value, last⟩ := vl
              have l4 := tkn_le t4
              refine Ev.pos rfl (Ev.pos (by rw [List.length_cons]; clear e1; omega) (Ev.pos (by clear e1; omega) ?_))
              have hb : bt (lb (c :: r)) 0 = (c.toNat : Int) := bt_nat (c :: r) 0 (by simp)
              rw [hb, e1]
              simp only [knres]
              refine Ev.eq (ih (i + 1) last (key.take n ++ text) (acc ++ [(⟨lb (key.take n ++ text), (seq : Int), ((c.toNat : Int) == 1), lb value⟩ : ES)]) (by clear e1; omega) (by rw [List.length_append]; simp; clear e1; omega) (by rw [List.length_append]; clear e1; omega)) ?_
              rw [bl_lb]
theorem rstep_ent (n : Nat) (p : List UInt8) (x : ES) (rest : List UInt8) (h : okE x = true) (hn : n ≤ (bl x.f0).length) (hp : n ≤ p.length) (hk : p.take n = (bl x.f0).take n) : rstep (entB n x ++ rest) p = some (x, rest) := by
  have h1 := okE_iff h
  have hu := okE_u h
  unfold rstep entB
  rw [List.append_assoc, tk_short _ _ (by omega)]
  simp only
  rw [if_neg (by omega), List.append_assoc, List.append_assoc]
  have hd : (bl x.f0).length - n = ((bl x.f0).drop n).length := by rw [List.length_drop]
  rw [hd, tkn_app _ _ (by rw [List.length_drop]; omega)]
  simp only
  rw [List.append_assoc]
  unfold sh
  rw [tk_short _ _ (by omega)]
  simp only [List.cons_append]
  rw [List.append_assoc, tkn_app _ _ (by omega)]
  simp only [Option.some.injEq, Prod.mk.injEq, and_true]
  rw [hk, List.take_append_drop, lb_bl, lb_bl]
  obtain ⟨a, b, c, d⟩ := x
  have : ((b.toNat : Nat) : Int) = b := Int.toNat_of_nonneg hu.1
  cases c <;> simp [this]
theorem rgo_body : ∀ (l : List ES) (i : Nat) (p t : List UInt8) (acc : List ES), (∀ x ∈ l, okE x = true) → rgo l.length (bodyB i p l ++ t) p acc = some (acc ++ l) := by
  intro l
  induction l with
  | nil => intro i p t acc _; simp [rgo]
  | cons x l ih =>
    intro i p t acc h
    have h1 := sh_ok i p x
    rw [List.length_cons, rgo, bodyB, List.append_assoc, rstep_ent _ _ _ _ (h x (by simp)) (shB_le i p x) h1.1 h1.2]
    simp only
    rw [ih (i + 1) (bl x.f0) t _ (fun y hy => h y (by simp [hy]))]
    simp
theorem rfin_decr (s : List UInt8) : rfin s (rgo (cntB s) s [] []) = decr s := by
  obtain ⟨d, hd⟩ : ∃ d, decr s = d := ⟨_, rfl⟩
  obtain ⟨l, e⟩ := d
  rcases decr_ok hd with ⟨rfl, hr, rfl⟩ | ⟨rfl, rfl⟩
  · rw [hd, cnt_enc (rowB_len hr)]
    have : rgo l.length (encB l) [] [] = some l := by
      unfold encB
      rw [List.append_assoc, rgo_body l 0 [] _ [] (rowB_all hr)]
      simp
    rw [this]
    unfold rfin encr
    simp [hr, lb_toList]
  · rw [hd]
    cases hg : rgo (cntB s) s [] [] with
    | none => rfl
    | some l =>
      unfold rfin
      simp only
      by_cases h1 : (encr l).2 = 0
      · rw [if_pos h1]
        by_cases h2 : (encr l).1.toList = s
        · exfalso
          rcases encr_cases l with ⟨hr, e3⟩ | ⟨_, e3⟩
          · rw [e3, lb_toList] at h2
            rw [← h2, decr_enc hr] at hd
            cases hd
          · rw [e3] at h1; simp at h1
        · rw [if_neg h2]
      · rw [if_neg h1]
theorem RDecode_ev (s : List UInt8) (hs : s.length ≤ 1000000) : Ev (fun k => screeref09_Decode.f k (lb s)) (decr s) := by
  unfold screeref09_Decode.f
  exact Ev.eq (rgo_ev s hs (cntB s) 0 s [] [] (by omega) (by simp) (by simp; omega)) (rfin_decr s)
theorem RAhead_f (x : ES) (key : List UInt8) (seq : Int) : screeref07_Ahead.f x.f0 x.f1 (lb key) seq = some (ahB x key seq) := by
  have := RAh_f x ⟨lb key, seq, false, lb []⟩
  rw [ah_lt]; exact this
theorem rseek_l0 (l : List ES) (hl : l.length ≤ 1000000) (key : List UInt8) (seq : Int) : ∀ (n i : Nat), i + n = l.length → Ev (fun k => screeref09_Seek.l0 k (lb key) seq l (i : Int)) (block_Seek.ans ((l.drop i).find? (fun x => !(ahB x key seq)))) := by
  intro n
  induction n with
  | zero =>
    intro i hi
    refine Ev.step (fun k => by rw [screeref09_Seek.l0]) ?_
    refine Ev.neg (by omega) (Ev.val ?_)
    rw [List.drop_eq_nil_of_le (by omega)]; rfl
  | succ n ih =>
    intro i hi
    have h1 : i < l.length := by omega
    have e1 : wrap64 ((i : Int) + 1) = ((i + 1 : Nat) : Int) := by rw [w64 _ (by omega) (by omega)]; omega
    refine Ev.step (fun k => by rw [screeref09_Seek.l0]) ?_
    refine Ev.pos (by omega) (Ev.pos (by omega) ?_)
    rw [rdE h1, e1, List.drop_eq_getElem_cons h1, List.find?_cons]
    refine Ev.just (RAhead_f l[i] key seq) ?_
    cases ahB l[i] key seq with
    | true => exact Ev.pos rfl (ih (i + 1) (by omega))
    | false => exact Ev.neg (by simp) (Ev.val rfl)
theorem RSeek_ev (s key : List UInt8) (seq : Int) (hs : s.length ≤ 1000000) : ∃ r, Ev (fun k => screeref09_Seek.f k (lb s) (lb key) seq) r ∧ Ev (fun k => block_Seek.f k (lb s) (lb key) seq) r := by
  obtain ⟨d, hd⟩ : ∃ d, decr s = d := ⟨_, rfl⟩
  obtain ⟨l, e⟩ := d
  have hR := RDecode_ev s hs
  rw [hd] at hR
  rcases decr_ok hd with ⟨rfl, hr, rfl⟩ | ⟨rfl, rfl⟩
  · refine ⟨_, ?_, Seek_first hr key seq⟩
    unfold screeref09_Seek.f
    have := rowB_len hr
    refine Ev.bind hR (Ev.pos rfl (Ev.eq (rseek_l0 l (by omega) key seq l.length 0 (by omega)) ?_))
    simp
  · refine ⟨_, ?_, Seek_bad (by omega) (fun l h => by rw [hd] at h; cases h)⟩
    unfold screeref09_Seek.f
    exact Ev.bind hR (Ev.neg (by simp) (Ev.val rfl))
theorem BlockReads : ∀ (a0 : ByteArray) (a1 : ByteArray) (a2 : Int), a0.size ≤ 140737488351232 → a1.size ≤ 140737488351232 → (Lit.int .u64 a2).wf = true → ∃ k, screelaw09_BlockReads.f k a0 a1 a2 = some true := by
  intro s key seq _ _ _
  obtain ⟨s, rfl⟩ := ex_lb s
  obtain ⟨key, rfl⟩ := ex_lb key
  refine Ev.rounds ?_
  unfold screelaw09_BlockReads.f
  simp only [lb_size]
  refine Ev.bind awake_ev (Ev.pos rfl ?_)
  have big : Ev (fun k => screelaw09_BlockReads.j0 k (lb s) (lb key) seq true) true := by
    refine Ev.step (fun k => by rw [screelaw09_BlockReads.j0]) ?_
    exact Ev.pos rfl (Ev.val rfl)
  by_cases h1 : (s.length : Int) > 8192
  · exact Ev.pos h1 big
  refine Ev.neg h1 ?_
  by_cases h2 : (key.length : Int) > 300
  · rw [decide_eq_true h2]; exact big
  rw [decide_eq_false h2]
  refine Ev.step (fun k => by rw [screelaw09_BlockReads.j0]) ?_
  obtain ⟨r, hr1, hr2⟩ := RSeek_ev s key seq (by omega)
  have hl : (decr s).1.length ≤ 1000000 := by
    obtain ⟨d, hd⟩ : ∃ d, decr s = d := ⟨_, rfl⟩
    obtain ⟨l, e⟩ := d
    rw [hd]
    rcases decr_ok hd with ⟨_, hr, _⟩ | ⟨_, rfl⟩
    · have := rowB_len hr; simp only; omega
    · simp
  refine Ev.neg (by simp) (Ev.bind (Decode_ev s (by omega)) (Ev.bind (RDecode_ev s (by omega)) (Ev.bind hr2 (Ev.bind hr1 (Ev.bind (Same_self _ hl) (Ev.pos rfl (Ev.pos rfl ?_)))))))
  refine Ev.pos (by simp) (Ev.pos (by simp) (Ev.pos rfl ?_))
  exact Ev.bind (Count_ev s (by omega)) (Ev.bind (RCount_ev s (by omega)) (Ev.val (by simp)))
end Go.Proofs.Ytcogolbgfkikfaa.BlkS
