/- The reference's Make; how many bits are set; what is fixed of bloom. -/
import Derived.Test.YthgefbabajpelaaBloom2
set_option linter.unusedVariables false
set_option linter.unusedSimpArgs false
namespace Go.Proofs.Ythgefbabajpelaa.BloomS
open Go.RowKit Go.Proofs.Ythgefbabajpelaa.P Go.Proofs.Ythgefbabajpelaa.Th Go.Proofs.YthgefbabajpelaaW.PrintWords Go.Proofs.YthgefbabajpelaaW.PrintLast Go.Proofs.YthgefbabajpelaaW.PrintMore

def setB (S : List Bool) (ps : List Int) : List Bool := ps.foldl (fun S p => S.set p.toNat true) S
theorem setB_len : ∀ (ps : List Int) (S : List Bool), (setB S ps).length = S.length
  | [], S => rfl
  | p :: ps, S => by rw [setB, List.foldl_cons]; exact (setB_len ps _).trans (by simp)
theorem setB_get : ∀ (ps : List Int) (S : List Bool) (q : Nat), (∀ p ∈ ps, 0 ≤ p) → q < S.length → (setB S ps).getD q false = (S.getD q false || decide ((q : Int) ∈ ps))
  | [], S, q, _, _ => by simp [setB]
  | p :: ps, S, q, h, hq => by
    have h0 := h p (by simp)
    rw [setB, List.foldl_cons]
    have := setB_get ps (S.set p.toNat true) q (fun x hx => h x (by simp [hx])) (by simpa using hq)
    rw [setB] at this
    rw [this]
    by_cases e : q = p.toNat
    · have e1 : (S.set p.toNat true).getD q false = true := by
        rw [e, List.getD_eq_getElem?_getD, List.getElem?_set_self (by omega)]; rfl
      have e2 : (q : Int) ∈ p :: ps := by rw [List.mem_cons]; left; omega
      rw [e1, decide_eq_true e2]; simp
    · have e1 : (S.set p.toNat true).getD q false = S.getD q false := by
        rw [List.getD_eq_getElem?_getD, List.getElem?_set_ne (by omega), List.getD_eq_getElem?_getD]
      have e2 : ((q : Int) ∈ p :: ps) ↔ (q : Int) ∈ ps := by
        rw [List.mem_cons]
        constructor
        · rintro (h1 | h1)
          · omega
          · exact h1
        · exact .inr
      rw [e1]
      simp only [e2]
theorem rmake_l1 (X : List ByteArray) (x4 : Int) (i : Int) {r : ByteArray × Int} : ∀ (rest pre : List Int) (S : List Bool), (pre ++ rest).length ≤ 4 → (∀ p ∈ rest, 0 ≤ p ∧ p < (S.length : Int)) →
    Ev (fun k => screeref10_Make.l0 k X x4 (setB S rest) (wrap64 (i + 1))) r → Ev (fun k => screeref10_Make.l1 k X x4 S i (pre ++ rest) (pre.length : Int)) r := by
  intro rest
  induction rest with
  | nil =>
    intro pre S hl hp hr
    refine Ev.step (fun k => by rw [screeref10_Make.l1]) ?_
    exact Ev.neg (by simp) hr
  | cons p rest ih =>
    intro pre S hl hp hr
    have hl' : pre.length + (rest.length + 1) ≤ 4 := by simpa using hl
    obtain ⟨p0, p1⟩ := hp p (by simp)
    have er : rd (pre ++ p :: rest) (pre.length : Int) = p := by simp [rd]
    have e2 : wrap64 ((pre.length : Int) + 1) = ((pre.length + 1 : Nat) : Int) := by rw [w64 _ (by omega) (by omega)]; omega
    refine Ev.step (fun k => by rw [screeref10_Make.l1]) ?_
    rw [er, e2]
    refine Ev.pos (by simp; omega) (Ev.pos (by omega) (Ev.pos p0 (Ev.pos p1 ?_)))
    have := ih (pre ++ [p]) (S.set p.toNat true) (by simpa using hl) (fun q hq => by simpa using hp q (by simp [hq])) hr
    simpa using this
theorem rmake_l0 (m : Nat) (hm : m ≤ 1001) {r : ByteArray × Int} : ∀ (rest pre : List (List UInt8)) (S : List Bool), S.length = 8 * m → (pre ++ rest).length ≤ 1000 → (∀ l ∈ rest, l.length ≤ 140737488351232) →
    Ev (fun k => screeref10_Make.l2 k (m : Int) (setB S (places rest (8 * (m : Int)))) (List.replicate m 0) 0) r →
    Ev (fun k => screeref10_Make.l0 k ((pre ++ rest).map lb) (m : Int) S (pre.length : Int)) r := by
  intro rest
  induction rest with
  | nil =>
    intro pre S hS hl hk hr
    refine Ev.step (fun k => by rw [screeref10_Make.l0]) ?_
    refine Ev.neg (by simp) (Ev.pos (by omega) (Ev.pos (by omega) ?_))
    exact hr
  | cons l rest ih =>
    intro pre S hS hl hk hr
    have hl' : pre.length + (rest.length + 1) ≤ 1000 := by simpa using hl
    have er : rdOf ByteArray.empty ((pre ++ l :: rest).map lb) (pre.length : Int) = lb l := by simp [rdOf]
    have e1 : wrap64 (8 * (m : Int)) = 8 * (m : Int) := w64 _ (by omega) (by omega)
    refine Ev.step (fun k => by rw [screeref10_Make.l0]) ?_
    rw [er, e1]
    refine Ev.pos (by simp; omega) (Ev.pos (by omega) (Ev.bind (RBits_ev l _ (hk l (by simp)) (by omega)) ?_))
    refine rmake_l1 _ _ _ (bitsOf l (8 * (m : Int))) [] S (by have := bitsOf_less l (8 * (m : Int)); simpa using this) (by rw [hS]; intro p hp; have := bitsOf_in l (8 * (m : Int)) (by omega) p hp; omega) ?_
    have e2 : wrap64 ((pre.length : Int) + 1) = ((pre.length + 1 : Nat) : Int) := by rw [w64 _ (by omega) (by omega)]; omega
    rw [e2]
    have := ih (pre ++ [l]) (setB S (bitsOf l (8 * (m : Int)))) (by rw [setB_len]; exact hS) (by simpa using hl) (fun x hx => hk x (by simp [hx])) (by
      have e3 : setB (setB S (bitsOf l (8 * (m : Int)))) (places rest (8 * (m : Int))) = setB S (places (l :: rest) (8 * (m : Int))) := by
        unfold setB places
        rw [List.flatMap_cons, List.foldl_append]
      rw [e3]; exact hr)
    simpa using this
/-- A byte out of bits: the highest first. -/
def bv (S : List Bool) (i : Nat) : Nat → Nat
  | 0 => 0
  | c + 1 => 2 * bv S i c + (if S.getD (8 * i + 7 - c) false = true then 1 else 0)
theorem bv_lt (S : List Bool) (i : Nat) : ∀ c, bv S i c < 2 ^ c
  | 0 => by simp [bv]
  | c + 1 => by
    have := bv_lt S i c
    rw [bv, Nat.pow_succ]
    split <;> omega
theorem bv_bit (S : List Bool) (i : Nat) : ∀ c t, c ≤ 8 → t < c → (bv S i c).testBit t = S.getD (8 * i + 8 - c + t) false
  | 0, t, _, h => by omega
  | c + 1, t, hc, h => by
    rw [tb_div, bv]
    cases t with
    | zero =>
      have e : 8 * i + 8 - (c + 1) + 0 = 8 * i + 7 - c := by omega
      rw [e]
      cases S.getD (8 * i + 7 - c) false <;> simp <;> omega
    | succ t =>
      have e : 8 * i + 8 - (c + 1) + (t + 1) = 8 * i + 8 - c + t := by omega
      rw [e, ← bv_bit S i c t (by omega) (by omega), tb_div]
      have e2 : (2 * bv S i c + (if S.getD (8 * i + 7 - c) false = true then 1 else 0)) / 2 ^ (t + 1) = bv S i c / 2 ^ t := by
        rw [Nat.pow_succ, Nat.mul_comm (2 ^ t), ← Nat.div_div_eq_div_mul]
        congr 1
        split <;> omega
      rw [e2]
theorem rmake_l3 (m : Nat) (hm : m ≤ 1001) (S : List Bool) (hS : S.length = 8 * m) (i : Nat) (hi : i < m) {r : ByteArray × Int} : ∀ (d c : Nat) (X : List Int), c + d = 8 → X.length = m → rd X (i : Int) = ((bv S i c : Nat) : Int) →
    Ev (fun k => screeref10_Make.l2 k (m : Int) S (X.set i ((bv S i 8 : Nat) : Int)) (wrap64 ((i : Int) + 1))) r →
    Ev (fun k => screeref10_Make.l3 k (m : Int) S X (i : Int) (7 - (c : Int))) r := by
  intro d
  induction d with
  | zero =>
    intro c X hc hX hrd hr
    have hc : c = 8 := by omega
    subst hc
    refine Ev.step (fun k => by rw [screeref10_Make.l3]) ?_
    refine Ev.neg (by omega) ?_
    have e : X.set i ((bv S i 8 : Nat) : Int) = X := by
      rw [← hrd]
      apply List.ext_getElem? 
      intro j
      by_cases hj : i = j
      · subst hj
        rw [List.getElem?_set_self (by omega)]
        unfold rd
        rw [Int.toNat_natCast, List.getD_eq_getElem?_getD, List.getElem?_eq_getElem (by omega)]; rfl
      · rw [List.getElem?_set_ne hj]
    rw [e] at hr
    exact hr
  | succ d ih =>
    intro c X hc hX hrd hr
    have hlt := bv_lt S i c
    have hp : 2 ^ c ≤ 2 ^ 7 := Nat.pow_le_pow_right (by decide) (by omega)
    have e1 : ((bv S i c : Nat) : Int) * 2 % 256 = ((2 * bv S i c : Nat) : Int) := by omega
    have e2 : wrap64 (8 * (i : Int)) = 8 * (i : Int) := w64 _ (by omega) (by omega)
    have e3 : wrap64 (8 * (i : Int) + (7 - (c : Int))) = ((8 * i + 7 - c : Nat) : Int) := by rw [w64 _ (by omega) (by omega)]; omega
    have e4 : wrap64 (7 - (c : Int) - 1) = 7 - ((c + 1 : Nat) : Int) := by rw [w64 _ (by omega) (by omega)]; omega
    have er : rdOf false S ((8 * i + 7 - c : Nat) : Int) = S.getD (8 * i + 7 - c) false := by unfold rdOf; rw [Int.toNat_natCast]
    refine Ev.step (fun k => by rw [screeref10_Make.l3]) ?_
    rw [hrd, e1, e2, e3, e4, er, Int.toNat_natCast]
    refine Ev.pos (by omega) (Ev.pos (by omega) (Ev.pos (by omega) (Ev.just rfl ?_)))
    refine Ev.pos (by omega) (Ev.pos (by omega) ?_)
    have er2 : rd (X.set i ((2 * bv S i c : Nat) : Int)) (i : Int) = ((2 * bv S i c : Nat) : Int) := by
      unfold rd
      rw [Int.toNat_natCast, List.getD_eq_getElem?_getD, List.getElem?_set_self (by omega)]; rfl
    have hset : ∀ (Y : List Int) (a b : Int), (Y.set i a).set i b = Y.set i b := fun Y a b => by rw [List.set_set]
    by_cases hb : S.getD (8 * i + 7 - c) false = true
    · refine Ev.pos hb ?_
      have e5 : (((2 * bv S i c : Nat) : Int) + 1) % 256 = ((bv S i (c + 1) : Nat) : Int) := by
        rw [bv, if_pos hb]; omega
      rw [er2, e5, hset]
      refine ih (c + 1) _ (by omega) (by simpa using hX) ?_ (by rw [hset]; exact hr)
      unfold rd
      rw [Int.toNat_natCast, List.getD_eq_getElem?_getD, List.getElem?_set_self (by omega)]; rfl
    · refine Ev.neg hb ?_
      have e5 : ((2 * bv S i c : Nat) : Int) = ((bv S i (c + 1) : Nat) : Int) := by
        rw [bv, if_neg hb, Nat.add_zero]
      rw [e5]
      refine ih (c + 1) _ (by omega) (by simpa using hX) ?_ (by rw [hset]; exact hr)
      unfold rd
      rw [Int.toNat_natCast, List.getD_eq_getElem?_getD, List.getElem?_set_self (by omega)]; rfl
def bytesB (S : List Bool) (m : Nat) : List UInt8 := (List.range m).map fun i => UInt8.ofNat (bv S i 8)
theorem rmake_l2 (m : Nat) (hm : m ≤ 1001) (S : List Bool) (hS : S.length = 8 * m) : ∀ (d i : Nat), i + d = m →
    Ev (fun k => screeref10_Make.l2 k (m : Int) S ((List.range i).map (fun j => ((bv S j 8 : Nat) : Int)) ++ List.replicate d 0) (i : Int)) (lb (bytesB S m), 0) := by
  intro d
  induction d with
  | zero =>
    intro i hi
    have hi : i = m := by omega
    subst hi
    refine Ev.step (fun k => by rw [screeref10_Make.l2]) ?_
    refine Ev.neg (by omega) (Ev.val ?_)
    rw [son]
    unfold bytesB ofI
    simp [Function.comp_def]
  | succ d ih =>
    intro i hi
    refine Ev.step (fun k => by rw [screeref10_Make.l2]) ?_
    refine Ev.pos (by omega) ?_
    refine rmake_l3 m hm S hS i (by omega) 8 0 _ (by omega) (by simp; omega) ?_ ?_
    · unfold rd
      rw [Int.toNat_natCast, List.getD_eq_getElem?_getD, List.getElem?_append_right (by simp)]
      simp [bv, List.replicate_succ]
    · have e1 : wrap64 ((i : Int) + 1) = ((i + 1 : Nat) : Int) := by rw [w64 _ (by omega) (by omega)]; omega
      rw [e1]
      have e2 : ((List.range i).map (fun j => ((bv S j 8 : Nat) : Int)) ++ List.replicate (d + 1) 0).set i ((bv S i 8 : Nat) : Int) = (List.range (i + 1)).map (fun j => ((bv S j 8 : Nat) : Int)) ++ List.replicate d 0 := by
        rw [List.set_append_right _ _ (by simp), List.range_succ]
        simp [List.replicate_succ]
      rw [e2]
      exact ih (i + 1) (by omega)
theorem bytesB_bit (S : List Bool) (m : Nat) (hS : S.length = 8 * m) (q : Nat) (hq : q < 8 * m) : bitN (bytesB S m) q = S.getD q false := by
  unfold bitN bytesB
  have e : ((List.range m).map fun i => UInt8.ofNat (bv S i 8)).getD (q / 8) 0 = UInt8.ofNat (bv S (q / 8) 8) := by
    rw [List.getD_eq_getElem?_getD, List.getElem?_map, List.getElem?_range (by omega)]; rfl
  have hlt := bv_lt S (q / 8) 8
  rw [e, u8_ofNat_toNat _ hlt, bv_bit S (q / 8) 8 (q % 8) (by omega) (by omega)]
  congr 1; omega
theorem RMake_ev (ks : List (List UInt8)) (hk : ks.length ≤ 1000 → ∀ l ∈ ks, l.length ≤ 140737488351232) : Ev (fun k => screeref10_Make.f k (ks.map lb)) (makeS ks) := by
  unfold screeref10_Make.f makeS
  by_cases h : ks.length > 1000
  · rw [if_pos h]; exact Ev.pos (by simp; omega) (Ev.now _)
  · rw [if_neg h]
    refine Ev.neg (by simp; omega) ?_
    rw [List.length_map]
    have e1 : wrap64 ((ks.length : Int) + 1) = ((ks.length + 1 : Nat) : Int) := by rw [w64 _ (by omega) (by omega)]; omega
    have e2 : wrap64 (8 * ((ks.length + 1 : Nat) : Int)) = ((8 * (ks.length + 1) : Nat) : Int) := by rw [w64 _ (by omega) (by omega)]; omega
    rw [e1, e2, Int.toNat_natCast]
    refine Ev.pos (by omega) (Ev.pos (by omega) ?_)
    have hl0 : (List.replicate (8 * (ks.length + 1)) false).length = 8 * (ks.length + 1) := by simp
    refine rmake_l0 (ks.length + 1) (by omega) ks [] _ hl0 (by simpa using (by omega : ks.length ≤ 1000)) (hk (by omega)) ?_
    have hS : (setB (List.replicate (8 * (ks.length + 1)) false) (places ks (8 * ((ks.length + 1 : Nat) : Int)))).length = 8 * (ks.length + 1) := by rw [setB_len]; simp
    refine Ev.eq (rmake_l2 (ks.length + 1) (by omega) _ hS (ks.length + 1) 0 (by omega)) ?_
    congr 2
    have hpl := places_in ks (8 * ((ks.length + 1 : Nat) : Int)) (by omega)
    have en : (8 * ((ks.length : Int) + 1)) = 8 * ((ks.length + 1 : Nat) : Int) := by omega
    rw [en]
    apply bits_ext
    · rw [filt_len _ _ hpl]; simp [bytesB]
    · intro q hq
      have hq' : q < 8 * (ks.length + 1) := by simpa [bytesB] using hq
      rw [bytesB_bit _ _ hS q hq', filt_bit _ _ hpl, setB_get _ _ q (fun p hp => (hpl p hp).1) (by simpa using hq')]
      have : (List.replicate (8 * (ks.length + 1)) false).getD q false = false := by
        rw [List.getD_eq_getElem?_getD, List.getElem?_replicate]; split <;> rfl
      rw [this, Bool.false_or]
end Go.Proofs.Ythgefbabajpelaa.BloomS
