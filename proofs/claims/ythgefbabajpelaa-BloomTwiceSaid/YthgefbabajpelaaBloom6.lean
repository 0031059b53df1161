/- Three more laws of bloom. -/
import Derived.Test.YthgefbabajpelaaBloom5
set_option linter.unusedVariables false
set_option linter.unusedSimpArgs false
namespace Go.Proofs.Ythgefbabajpelaa.BloomS
open Go.RowKit Go.Proofs.Ythgefbabajpelaa.P Go.Proofs.Ythgefbabajpelaa.Th Go.Proofs.YthgefbabajpelaaW.PrintWords Go.Proofs.YthgefbabajpelaaW.PrintLast Go.Proofs.YthgefbabajpelaaW.PrintMore

theorem makeS_same_places (xs ys : List (List UInt8)) (hl : xs.length = ys.length) (h : ∀ x, x ∈ xs ↔ x ∈ ys) : makeS xs = makeS ys := by
  unfold makeS
  rw [hl]
  by_cases g : ys.length > 1000
  · rw [if_pos g, if_pos g]
  · rw [if_neg g, if_neg g]
    have en : (8 * ((ys.length : Int) + 1)) = 8 * ((ys.length + 1 : Nat) : Int) := by omega
    have p1 := places_in xs (8 * ((ys.length : Int) + 1)) (by omega)
    have p2 := places_in ys (8 * ((ys.length : Int) + 1)) (by omega)
    rw [en] at p1 p2 ⊢
    rw [filt_congr (ys.length + 1) _ _ p1 p2]
    intro x
    unfold places
    rw [List.mem_flatMap, List.mem_flatMap]
    constructor
    · rintro ⟨l, h1, h2⟩; exact ⟨l, (h l).1 h1, h2⟩
    · rintro ⟨l, h1, h2⟩; exact ⟨l, (h l).2 h1, h2⟩

/-! ### order -/
def turnAt (n t i : Nat) : Nat := (n - 1 - i + t) % n
theorem turn_int (n t i : Nat) (hi : i < n) (hn : n ≤ 1000) (ht : t < 256) :
    Int.tmod (wrap64 ((wrap64 ((wrap64 ((n : Int) - 1)) - (i : Int))) + (wrap64 (t : Int)))) (n : Int) = ((turnAt n t i : Nat) : Int) := by
  have e1 : wrap64 ((n : Int) - 1) = (n : Int) - 1 := w64 _ (by omega) (by omega)
  have e2 : wrap64 ((n : Int) - 1 - (i : Int)) = (n : Int) - 1 - (i : Int) := w64 _ (by omega) (by omega)
  have e3 : wrap64 (t : Int) = (t : Int) := w64 _ (by omega) (by omega)
  have e4 : wrap64 ((n : Int) - 1 - (i : Int) + (t : Int)) = ((n - 1 - i + t : Nat) : Int) := by rw [w64 _ (by omega) (by omega)]; omega
  rw [e1, e2, e3, e4, Int.tmod_eq_emod_of_nonneg (by omega)]
  unfold turnAt
  rw [← Int.natCast_emod]
theorem order_l0 (ks : List (List UInt8)) (hl : ks.length ≤ 1000) (h0 : 0 < ks.length) (t : Nat) (ht : t < 256) (hk : ∀ l ∈ ks, l.length ≤ 140737488351232) : ∀ (d i : Nat), i + d = ks.length →
    Ev (fun k => screelaw10_BloomOrder.l0 k (ks.map lb) (t : Int) (((ks.map lb).length : Nat) : Int) (((List.range i).map fun j => ks.getD (turnAt ks.length t j) []).map lb) (((ks.map lb).length : Nat) : Int) (i : Int)) true := by
  intro d
  induction d with
  | zero =>
    intro i hi
    have hi : i = ks.length := by omega
    subst hi
    refine Ev.step (fun k => by rw [screelaw10_BloomOrder.l0]) ?_
    refine Ev.neg (by simp) (Ev.bind (Make_ev ks (fun _ => hk)) ?_)
    have hmem : ∀ x, x ∈ ks ↔ x ∈ (List.range ks.length).map fun j => ks.getD (turnAt ks.length t j) [] := by
      intro x
      constructor
      · intro hx
        obtain ⟨j, hj⟩ := List.getElem?_of_mem hx
        have hjl : j < ks.length := (List.getElem?_eq_some_iff.1 hj).1
        refine List.mem_map.2 ⟨(ks.length - 1 - j + t) % ks.length, List.mem_range.2 (Nat.mod_lt _ h0), ?_⟩
        have e : turnAt ks.length t ((ks.length - 1 - j + t) % ks.length) = j := by
          unfold turnAt
          have hm := Nat.div_add_mod (ks.length - 1 - j + t) ks.length
          have hlt := Nat.mod_lt (ks.length - 1 - j + t) h0
          generalize (ks.length - 1 - j + t) / ks.length = q at hm
          have e2 : ks.length - 1 - (ks.length - 1 - j + t) % ks.length + t = j + ks.length * q := by omega
          rw [e2, Nat.add_mul_mod_self_left, Nat.mod_eq_of_lt hjl]
        rw [e, List.getD_eq_getElem?_getD, hj]; rfl
      · intro hx
        obtain ⟨j, _, rfl⟩ := List.mem_map.1 hx
        have hlt : turnAt ks.length t j < ks.length := Nat.mod_lt _ h0
        rw [List.getD_eq_getElem?_getD, List.getElem?_eq_getElem hlt]
        exact List.getElem_mem hlt
    have hk2 : ∀ l ∈ (List.range ks.length).map (fun j => ks.getD (turnAt ks.length t j) []), l.length ≤ 140737488351232 := fun l hl' => hk l ((hmem l).2 hl')
    refine Ev.bind (Make_ev _ (fun _ => hk2)) ?_
    have hs := makeS_same_places ks ((List.range ks.length).map fun j => ks.getD (turnAt ks.length t j) []) (by simp) hmem
    rw [← hs]
    have m2 : (makeS ks).2 = 0 := by unfold makeS; rw [if_neg (by omega)]
    exact Ev.pos m2 (Ev.pos m2 (Ev.val (by simp)))
  | succ d ih =>
    intro i hi
    have e2 : wrap64 ((i : Int) + 1) = ((i + 1 : Nat) : Int) := by rw [w64 _ (by omega) (by omega)]; omega
    have ett := turn_int ks.length t i (by omega) hl ht
    have hlt : turnAt ks.length t i < ks.length := Nat.mod_lt _ h0
    refine Ev.step (fun k => by rw [screelaw10_BloomOrder.l0]) ?_
    have el : (((ks.map lb).length : Nat) : Int) = (ks.length : Int) := by rw [List.length_map]
    rw [el, ett, e2]
    refine Ev.pos (by omega) (Ev.neg (by omega) (Ev.pos (by omega) (Ev.pos (by omega) (Ev.pos (by simp; omega) ?_))))
    have er : rdOf ByteArray.empty (ks.map lb) ((turnAt ks.length t i : Nat) : Int) = lb (ks.getD (turnAt ks.length t i) []) := by
      simp [rdOf, hlt]
    rw [er]
    have := ih (i + 1) (by omega)
    rw [List.range_succ, List.map_append, List.map_append, el] at this
    exact this
theorem BloomOrder : ∀ (l0 : List ByteArray) (a1 : Int), (((∀ x ∈ l0, x.size ≤ 140737488351232) ∧ l0.length * 16 ≤ 140737488351232)) → ((Lit.int .u8 a1).wf = true) → ∃ k, screelaw10_BloomOrder.f k l0 a1 = some true := by
  intro l0 a1 ⟨hks, hlen⟩ w1
  obtain ⟨t0, t1⟩ := wf_u8 w1
  obtain ⟨t, rfl⟩ := Int.eq_ofNat_of_zero_le t0
  obtain ⟨ks, rfl⟩ := ex_map l0
  rw [List.length_map] at hlen
  have hk : ∀ l ∈ ks, l.length ≤ 140737488351232 := fun l hl => by have := hks (lb l) (List.mem_map.2 ⟨l, hl, rfl⟩); rwa [lb_size] at this
  obtain ⟨b, hb, _⟩ := large_ev ks (by omega) hk
  have htrue : Ev (fun k => screelaw10_BloomOrder.j0 k (ks.map lb) (t : Int) true) true := by
    refine Ev.step (fun k => by rw [screelaw10_BloomOrder.j0]) ?_
    exact Ev.pos rfl (Ev.now _)
  refine Ev.rounds ?_
  unfold screelaw10_BloomOrder.f
  refine Ev.bind awake_ev (Ev.pos rfl (Ev.bind hb ?_))
  cases b with
  | true => exact Ev.pos rfl htrue
  | false =>
    refine Ev.neg (by simp) ?_
    by_cases g1 : (((ks.map lb).length : Nat) : Int) > 1000
    · exact Ev.pos g1 htrue
    · refine Ev.neg g1 ?_
      by_cases g2 : (((ks.map lb).length : Nat) : Int) = 0
      · have : ((((ks.map lb).length : Nat) : Int) == 0) = true := by simpa using g2
        rw [this]; exact htrue
      · have : ((((ks.map lb).length : Nat) : Int) == 0) = false := by rw [beq_eq_false_iff_ne]; exact g2
        rw [this]
        rw [List.length_map] at g1 g2
        refine Ev.step (fun k => by rw [screelaw10_BloomOrder.j0]) ?_
        refine Ev.neg (by simp) ?_
        exact order_l0 ks (by omega) (by omega) t (by omega) hk ks.length 0 (by omega)

/-! ### twice -/
theorem twice_l0 (x0 x1 x7 : ByteArray) (l m : List UInt8) (hx0 : x0 = lb l) (hx1 : x1 = lb m) (hl : l.length ≤ 140737488351232) (hm : m.length ≤ 140737488351232) (b : List Int) (hb : b.length ≤ 4) : ∀ (d i : Nat), i + d = b.length → Ev (fun k => screelaw10_BloomTwice.l0 k x0 x1 x7 0 x7 0 b b (b.length : Int) (i : Int)) true := by
  intro d
  induction d with
  | zero =>
    intro i hi
    refine Ev.step (fun k => by rw [screelaw10_BloomTwice.l0]) ?_
    refine Ev.neg (by omega) (Ev.pos rfl (Ev.pos rfl (Ev.pos rfl ?_)))
    subst hx0 hx1
    by_cases h : (lb l).toList = (lb m).toList
    · refine Ev.pos h (Ev.bind (Mix_ev l hl) (Ev.bind (Mix_ev m hm) (Ev.val ?_)))
      rw [lb_toList, lb_toList] at h
      rw [h]; simp
    · exact Ev.neg h (Ev.now _)
  | succ d ih =>
    intro i hi
    have e2 : wrap64 ((i : Int) + 1) = ((i + 1 : Nat) : Int) := by rw [w64 _ (by omega) (by omega)]; omega
    refine Ev.step (fun k => by rw [screelaw10_BloomTwice.l0]) ?_
    rw [e2]
    exact Ev.pos (by omega) (Ev.pos (by omega) (Ev.pos (by omega) (Ev.pos (by omega) (Ev.pos rfl (ih (i + 1) (by omega))))))
theorem BloomTwice : screelaw10_BloomTwice.Pure := by
  intro a0 a1 n h0 h1 w2
  obtain ⟨n0, n1⟩ := wf_u16 w2
  obtain ⟨l, rfl⟩ := ex_lb a0
  obtain ⟨m, rfl⟩ := ex_lb a1
  rw [lb_size] at h0 h1
  have htrue : Ev (fun k => screelaw10_BloomTwice.j0 k (lb l) (lb m) n true) true := by
    refine Ev.step (fun k => by rw [screelaw10_BloomTwice.j0]) ?_
    exact Ev.pos rfl (Ev.now _)
  have hfalse : Ev (fun k => screelaw10_BloomTwice.j0 k (lb l) (lb m) n false) true := by
    refine Ev.step (fun k => by rw [screelaw10_BloomTwice.j0]) ?_
    have hA : Ev (fun k => bloom_Make.f k [lb l, lb l, lb m]) (makeS [l, l, m]) := Make_ev [l, l, m] (fun _ x hx => by simp at hx; rcases hx with rfl | rfl <;> assumption)
    have hB : Ev (fun k => bloom_Make.f k [lb m, lb l, lb m]) (makeS [m, l, m]) := Make_ev [m, l, m] (fun _ x hx => by simp at hx; rcases hx with rfl | rfl | rfl <;> assumption)
    have hs : makeS [l, l, m] = makeS [m, l, m] := makeS_same_places _ _ rfl (fun x => by simp; intro h; exact .inr h)
    have m2 : (makeS [l, l, m]).2 = 0 := by unfold makeS; rw [if_neg (by simp)]
    have e1 : wrap64 n = n := w64 _ (by omega) (by omega)
    rw [e1]
    refine Ev.neg (by simp) (Ev.bind hA (Ev.bind hB (Ev.bind (Bits_ev l n h0 (by omega)) (Ev.bind (Bits_ev l n h0 (by omega)) (Ev.pos rfl ?_)))))
    rw [← hs, m2]
    exact twice_l0 _ _ _ l m rfl rfl h0 h1 (bitsOf l n) (bitsOf_less l n) (bitsOf l n).length 0 (by omega)
  refine Ev.rounds ?_
  unfold screelaw10_BloomTwice.f
  refine Ev.bind awake_ev (Ev.pos rfl ?_)
  by_cases g1 : (((lb l).size : Nat) : Int) > 300
  · exact Ev.pos g1 htrue
  · refine Ev.neg g1 ?_
    by_cases g2 : (((lb m).size : Nat) : Int) > 300
    · rw [decide_eq_true g2]; exact htrue
    · rw [decide_eq_false g2]; exact hfalse

/-! ### a bit less -/
theorem bits_l0 (l : List UInt8) (x2 x7 : Int) (b : List Int) (m : Nat) (hm : m ≤ 100) {r : Bool} (hr : Ev (fun k => screelaw10_BloomBits.l1 k (lb l) x2 x7 b (toI (List.replicate m 255)) (b.length : Int) 0) r) :
    ∀ (d i : Nat), i + d = m → Ev (fun k => screelaw10_BloomBits.l0 k (lb l) x2 x7 b (List.replicate i 255 ++ List.replicate d 0) (m : Int) (i : Int)) r := by
  intro d
  induction d with
  | zero =>
    intro i hi
    have hi : i = m := by omega
    subst hi
    refine Ev.step (fun k => by rw [screelaw10_BloomBits.l0]) ?_
    refine Ev.neg (by omega) ?_
    have e : toI (List.replicate i 255) = List.replicate i 255 ++ List.replicate 0 0 := by simp [toI]
    rw [← e]; exact hr
  | succ d ih =>
    intro i hi
    have e2 : wrap64 ((i : Int) + 1) = ((i + 1 : Nat) : Int) := by rw [w64 _ (by omega) (by omega)]; omega
    refine Ev.step (fun k => by rw [screelaw10_BloomBits.l0]) ?_
    rw [e2, Int.toNat_natCast]
    refine Ev.pos (by omega) (Ev.pos (by omega) (Ev.pos (by simp; omega) ?_))
    have e3 : (List.replicate i (255 : Int) ++ List.replicate (d + 1) 0).set i 255 = List.replicate (i + 1) 255 ++ List.replicate d 0 := by
      rw [List.set_append_right _ _ (by simp), List.replicate_succ' (n := i)]
      simp [List.replicate_succ]
    rw [e3]
    exact ih (i + 1) (by omega)
theorem u8_andNot (j : Nat) (hj : j < 8) : Go.bits .andNot .u8 255 (shl .u8 1 (j : Int)) = ((255 - 2 ^ j : Nat) : Int) := by
  have : ∀ y : Fin 8, Go.bits .andNot .u8 255 (shl .u8 1 (y.val : Int)) = ((255 - 2 ^ y.val : Nat) : Int) := by decide +kernel
  exact this ⟨j, hj⟩
theorem tb_less (j : Nat) (hj : j < 8) : (255 - 2 ^ j).testBit j = false := by
  have : ∀ y : Fin 8, (255 - 2 ^ y.val).testBit y.val = false := by decide +kernel
  exact this ⟨j, hj⟩
theorem bits_l1 (l : List UInt8) (hl : l.length ≤ 140737488351232) (w m : Nat) (hw : w < 256) (h1 : 1 ≤ m) (hm : m ≤ 100) : ∀ (d i : Nat), i + d = 4 →
    Ev (fun k => screelaw10_BloomBits.l1 k (lb l) (w : Int) (m : Int) (bitsOf l (8 * (m : Int))) (toI (List.replicate m 255)) 4 (i : Int)) true := by
  intro d
  have hlen := bitsOf_len l (8 * (m : Int)) (by omega)
  have hin := bitsOf_in l (8 * (m : Int)) (by omega)
  induction d with
  | zero =>
    intro i hi
    have hi : i = 4 := by omega
    subst hi
    refine Ev.step (fun k => by rw [screelaw10_BloomBits.l1]) ?_
    have e1 : wrap64 (w : Int) = (w : Int) := w64 _ (by omega) (by omega)
    have e2 : Int.tmod (w : Int) 4 = ((w % 4 : Nat) : Int) := by rw [Int.tmod_eq_emod_of_nonneg (by omega)]; omega
    have hlt : w % 4 < (bitsOf l (8 * (m : Int))).length := by rw [hlen]; omega
    have hmem : (bitsOf l (8 * (m : Int)))[w % 4] ∈ bitsOf l (8 * (m : Int)) := List.getElem_mem hlt
    have er : rd (bitsOf l (8 * (m : Int))) ((w % 4 : Nat) : Int) = (bitsOf l (8 * (m : Int)))[w % 4] := by
      unfold rd
      rw [Int.toNat_natCast, List.getD_eq_getElem?_getD, List.getElem?_eq_getElem hlt]; rfl
    have el : (((bitsOf l (8 * (m : Int))).length : Nat) : Int) = 4 := by rw [hlen]; rfl
    rw [el, e1, e2, er]
    obtain ⟨p0, p1⟩ := hin _ hmem
    generalize hp : (bitsOf l (8 * (m : Int)))[w % 4] = p at hmem p0 p1
    obtain ⟨q, rfl⟩ := Int.eq_ofNat_of_zero_le p0
    have e3 : wrap64 (Int.tdiv (q : Int) 8) = ((q / 8 : Nat) : Int) := by rw [Int.tdiv_eq_ediv_of_nonneg (by omega), w64 _ (by omega) (by omega)]; omega
    have e4 : Int.tmod (q : Int) 8 = ((q % 8 : Nat) : Int) := by rw [Int.tmod_eq_emod_of_nonneg (by omega)]; omega
    have e5 : rd (toI (List.replicate m 255)) ((q / 8 : Nat) : Int) = 255 := by
      unfold rd
      have : q / 8 < m := by omega
      rw [Int.toNat_natCast]
      simp [toI, this]
    rw [e3, e4, e5, Int.toNat_natCast, u8_andNot _ (by omega)]
    refine Ev.neg (by omega) (Ev.neg (by omega) (Ev.pos (by omega) (Ev.pos (by omega) (Ev.pos (by omega) (Ev.pos (by simp [toI]; omega) (Ev.pos (by omega) ?_))))))
    have e6 : strOfNums ((toI (List.replicate m 255)).set (q / 8) ((255 - 2 ^ (q % 8) : Nat) : Int)) = lb ((List.replicate m 255).set (q / 8) (UInt8.ofNat (255 - 2 ^ (q % 8)))) := by
      rw [son]
      congr 1
      simp [ofI, toI, List.map_set]
    rw [e6]
    refine Ev.bind (May_ev _ l hl (by simp; omega)) (Ev.val ?_)
    have hmay : mayS ((List.replicate m 255).set (q / 8) (UInt8.ofNat (255 - 2 ^ (q % 8)))) l = false := by
      unfold mayS
      have e7 : ((List.replicate m (255 : UInt8)).set (q / 8) (UInt8.ofNat (255 - 2 ^ (q % 8)))).length = m := by simp
      rw [e7, List.all_eq_false]
      refine ⟨(q : Int), hmem, ?_⟩
      rw [Int.toNat_natCast]
      have e8 : ((List.replicate m (255 : UInt8)).set (q / 8) (UInt8.ofNat (255 - 2 ^ (q % 8)))).getD (q / 8) 0 = UInt8.ofNat (255 - 2 ^ (q % 8)) := by
        rw [List.getD_eq_getElem?_getD, List.getElem?_set_self (by simp; omega)]; rfl
      unfold bitN
      rw [e8, u8_ofNat_toNat _ (Nat.lt_of_le_of_lt (Nat.sub_le _ _) (by decide)), tb_less _ (by omega)]
      simp
    rw [hmay]; rfl
  | succ d ih =>
    intro i hi
    have e2 : wrap64 ((i : Int) + 1) = ((i + 1 : Nat) : Int) := by rw [w64 _ (by omega) (by omega)]; omega
    have e3 : wrap64 (8 * (m : Int)) = 8 * (m : Int) := w64 _ (by omega) (by omega)
    have hlt : i < (bitsOf l (8 * (m : Int))).length := by rw [hlen]; omega
    have er : rd (bitsOf l (8 * (m : Int))) (i : Int) = (bitsOf l (8 * (m : Int)))[i] := by
      unfold rd
      rw [Int.toNat_natCast, List.getD_eq_getElem?_getD, List.getElem?_eq_getElem hlt]; rfl
    obtain ⟨p0, p1⟩ := hin _ (List.getElem_mem hlt)
    refine Ev.step (fun k => by rw [screelaw10_BloomBits.l1]) ?_
    rw [e2, e3, er]
    exact Ev.pos (by omega) (Ev.pos (by omega) (Ev.pos (by omega) (Ev.neg (by omega) (Ev.neg (by omega) (ih (i + 1) (by omega))))))
theorem BloomBits : screelaw10_BloomBits.Pure := by
  intro a0 a1 a2 h0 w1 w2
  obtain ⟨n0, n1⟩ := wf_u8 w1
  obtain ⟨n, rfl⟩ := Int.eq_ofNat_of_zero_le n0
  obtain ⟨v0, v1⟩ := wf_u8 w2
  obtain ⟨w, rfl⟩ := Int.eq_ofNat_of_zero_le v0
  obtain ⟨l, rfl⟩ := ex_lb a0
  rw [lb_size] at h0
  refine Ev.rounds ?_
  unfold screelaw10_BloomBits.f
  refine Ev.bind awake_ev (Ev.pos rfl ?_)
  by_cases g1 : (((lb l).size : Nat) : Int) > 300
  · exact Ev.pos g1 (Ev.now _)
  · refine Ev.neg g1 ?_
    have e1 : Int.tmod (n : Int) 100 = ((n % 100 : Nat) : Int) := by rw [Int.tmod_eq_emod_of_nonneg (by omega)]; omega
    have e2 : wrap64 ((n % 100 : Nat) : Int) = ((n % 100 : Nat) : Int) := w64 _ (by omega) (by omega)
    have e3 : wrap64 (((n % 100 : Nat) : Int) + 1) = ((n % 100 + 1 : Nat) : Int) := by rw [w64 _ (by omega) (by omega)]; omega
    have e4 : wrap64 (8 * ((n % 100 + 1 : Nat) : Int)) = 8 * ((n % 100 + 1 : Nat) : Int) := w64 _ (by omega) (by omega)
    rw [e1, e2, e3, e4]
    have hm : n % 100 + 1 ≤ 100 := by omega
    have h1 : 1 ≤ n % 100 + 1 := by omega
    generalize n % 100 + 1 = m at hm h1
    have hlen := bitsOf_len l (8 * (m : Int)) (by omega)
    have z0 : bitsOf l 0 = [] := by unfold bitsOf; rw [if_pos (by omega)]
    have z1 : bitsOf l (-1) = [] := by unfold bitsOf; rw [if_pos (by omega)]
    refine Ev.bind (Bits_ev l _ h0 (by omega)) (Ev.pos (by rw [hlen]; rfl) ?_)
    refine Ev.bind (Bits_ev l 0 h0 (by omega)) (Ev.pos (by rw [z0]; rfl) ?_)
    refine Ev.bind (Bits_ev l (-1) h0 (by omega)) ?_
    rw [z1]
    refine Ev.step (fun k => by rw [screelaw10_BloomBits.j0]) ?_
    refine Ev.neg (by simp) (Ev.pos (by omega) (Ev.pos (by omega) (Ev.just rfl ?_)))
    have el : (((List.replicate (m : Int).toNat (0 : Int)).length : Nat) : Int) = (m : Int) := by simp
    rw [el, Int.toNat_natCast]
    have hl4 : (((bitsOf l (8 * (m : Int))).length : Nat) : Int) = 4 := by rw [hlen]; rfl
    have := bits_l0 l (w : Int) (m : Int) (bitsOf l (8 * (m : Int))) m hm (r := true) (by rw [hl4]; exact bits_l1 l h0 w m (by omega) h1 hm 4 0 (by omega)) m 0 (by omega)
    simpa using this
end Go.Proofs.Ythgefbabajpelaa.BloomS
