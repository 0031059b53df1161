/- How many bits are set; keys too large; what is fixed of bloom; the laws. -/
import Derived.Test.YthgefbabajpelaaBloom3
set_option linter.unusedVariables false
set_option linter.unusedSimpArgs false
namespace Go.Proofs.Ythgefbabajpelaa.BloomS
open Go.RowKit Go.Proofs.Ythgefbabajpelaa.P Go.Proofs.Ythgefbabajpelaa.Th Go.Proofs.YthgefbabajpelaaW.PrintWords Go.Proofs.YthgefbabajpelaaW.PrintLast Go.Proofs.YthgefbabajpelaaW.PrintMore

/-! ### how many bits are set -/
def b2n (b : Bool) : Nat := if b then 1 else 0
def cntP (f : Nat → Bool) : Nat → Nat
  | 0 => 0
  | d + 1 => cntP f d + b2n (f d)
theorem cntP_le (f : Nat → Bool) : ∀ d, cntP f d ≤ d
  | 0 => Nat.le_refl _
  | d + 1 => by have := cntP_le f d; unfold cntP b2n; split <;> omega
theorem cntP_congr {f g : Nat → Bool} : ∀ d, (∀ q, q < d → f q = g q) → cntP f d = cntP g d
  | 0, _ => rfl
  | d + 1, h => by rw [cntP, cntP, cntP_congr d (fun q hq => h q (by omega)), h d (by omega)]
def popc (c : Nat) : Nat := b2n (c.testBit 0) + b2n (c.testBit 1) + b2n (c.testBit 2) + b2n (c.testBit 3) + b2n (c.testBit 4) + b2n (c.testBit 5) + b2n (c.testBit 6) + b2n (c.testBit 7)
theorem cnt_byte (F : List UInt8) (i : Nat) : cntP (bitN F) (8 * (i + 1)) = cntP (bitN F) (8 * i) + popc (F.getD i 0).toNat := by
  have e : 8 * (i + 1) = 8 * i + 1 + 1 + 1 + 1 + 1 + 1 + 1 + 1 := by omega
  have b : ∀ t, t < 8 → bitN F (8 * i + t) = (F.getD i 0).toNat.testBit t := by
    intro t ht
    unfold bitN
    have e1 : (8 * i + t) / 8 = i := by omega
    have e2 : (8 * i + t) % 8 = t := by omega
    rw [e1, e2]
  have b0 := b 0 (by omega); have b1 := b 1 (by omega); have b2 := b 2 (by omega); have b3 := b 3 (by omega)
  have b4 := b 4 (by omega); have b5 := b 5 (by omega); have b6 := b 6 (by omega); have b7 := b 7 (by omega)
  simp only [Nat.add_zero] at b0
  rw [e]
  simp only [cntP, popc, Nat.add_assoc, Nat.reduceAdd, b0, b1, b2, b3, b4, b5, b6, b7]
theorem kern : ∀ y : Fin 256, y.val ≠ 0 → Go.bits .and .u8 (y.val : Int) (((y.val : Int) - 1) % 256) = ((y.val &&& (y.val - 1) : Nat) : Int) ∧ popc (y.val &&& (y.val - 1)) + 1 = popc y.val ∧ y.val &&& (y.val - 1) < y.val := by decide +kernel
theorem full_l1 (F : List UInt8) (i : Nat) (hi : i < F.length) (hF : F.length ≤ 140737488351232) {r : Int} : ∀ (c x : Nat), c < 256 → x + popc c ≤ 9000000000000000000 →
    Ev (fun k => bloom_Full.l0 k (lb F) ((x + popc c : Nat) : Int) (((lb F).size : Nat) : Int) ((i + 1 : Nat) : Int)) r →
    Ev (fun k => bloom_Full.l1 k (lb F) (x : Int) (c : Int) (((lb F).size : Nat) : Int) (i : Int)) r := by
  intro c
  induction c using Nat.strongRecOn with
  | _ c ih =>
    intro x hc hx hr
    have e1 : wrap64 ((i : Int) + 1) = ((i + 1 : Nat) : Int) := by rw [w64 _ (by omega) (by omega)]; omega
    refine Ev.step (fun k => by rw [bloom_Full.l1]) ?_
    by_cases h0 : c = 0
    · subst h0
      have hp : popc 0 = 0 := by decide
      rw [hp, Nat.add_zero] at hr
      rw [e1]
      exact Ev.pos rfl hr
    · obtain ⟨k1, k2, k3⟩ := kern ⟨c, hc⟩ h0
      have k1 : Go.bits .and .u8 (c : Int) (((c : Int) - 1) % 256) = ((c &&& (c - 1) : Nat) : Int) := k1
      have k2 : popc (c &&& (c - 1)) + 1 = popc c := k2
      have k3 : c &&& (c - 1) < c := k3
      have e3 : x + 1 + popc (c &&& (c - 1)) = x + popc c := by rw [Nat.add_assoc, Nat.add_comm 1, k2]
      have hx1 : x < 9000000000000000001 := Nat.lt_of_le_of_lt (Nat.le_trans (Nat.le_add_right _ _) hx) (by decide)
      have e2 : wrap64 ((x : Int) + 1) = ((x + 1 : Nat) : Int) := by
        clear k1 k2 k3 e3 hx hr ih
        rw [w64 _ (by omega) (by omega)]; omega
      have h0' : ¬ (c : Int) = 0 := by
        clear k1 k2 k3 e3 hx hr ih
        omega
      rw [k1, e2]
      clear k1
      refine Ev.neg h0' ?_
      exact ih (c &&& (c - 1)) k3 (x + 1) (Nat.lt_trans k3 hc) (by rw [e3]; exact hx) (by rw [e3]; exact hr)
def cnt (F : List UInt8) : Nat := cntP (bitN F) (8 * F.length)
theorem full_l0 (F : List UInt8) (hF : F.length ≤ 140737488351232) : ∀ (d i : Nat), i + d = F.length →
    Ev (fun k => bloom_Full.l0 k (lb F) ((cntP (bitN F) (8 * i) : Nat) : Int) (((lb F).size : Nat) : Int) (i : Int)) ((cnt F : Nat) : Int) := by
  intro d
  induction d with
  | zero =>
    intro i hi
    have hi : i = F.length := by omega
    subst hi
    refine Ev.step (fun k => by rw [bloom_Full.l0]) ?_
    unfold cnt
    exact Ev.neg (by rw [lb_size]; omega) (Ev.now _)
  | succ d ih =>
    intro i hi
    have hc := u8_lt (F.getD i 0)
    have hle := cntP_le (bitN F) (8 * i)
    have hle2 := cntP_le (bitN F) (8 * (i + 1))
    have hb := cnt_byte F i
    refine Ev.step (fun k => by rw [bloom_Full.l0]) ?_
    refine Ev.pos (by rw [lb_size]; omega) (Ev.pos (by omega) (Ev.pos (by rw [lb_size]; omega) ?_))
    rw [bt_getD F i (by omega)]
    refine full_l1 F i (by omega) hF _ _ hc (by omega) ?_
    rw [← hb]
    exact ih (i + 1) (by omega)
theorem Full_ev (F : List UInt8) (hF : F.length ≤ 140737488351232) : Ev (fun k => bloom_Full.f k (lb F)) ((cnt F : Nat) : Int) :=
  full_l0 F hF F.length 0 (by omega)
theorem rfull_l0 (F : List UInt8) (hF : F.length ≤ 140737488351232) : ∀ (d p : Nat), p + d = 8 * F.length →
    Ev (fun k => screeref10_Full.l0 k (lb F) ((cntP (bitN F) p : Nat) : Int) (p : Int)) ((cnt F : Nat) : Int) := by
  intro d
  induction d with
  | zero =>
    intro p hp
    have hp : p = 8 * F.length := by omega
    subst hp
    refine Ev.step (fun k => by rw [screeref10_Full.l0]) ?_
    have e1 : wrap64 (8 * (((lb F).size : Nat) : Int)) = 8 * (F.length : Int) := by rw [lb_size]; exact w64 _ (by omega) (by omega)
    rw [e1]
    unfold cnt
    exact Ev.neg (by omega) (Ev.now _)
  | succ d ih =>
    intro p hp
    have hle := cntP_le (bitN F) p
    refine Ev.step (fun k => by rw [screeref10_Full.l0]) ?_
    have e1 : wrap64 (8 * (((lb F).size : Nat) : Int)) = 8 * (F.length : Int) := by rw [lb_size]; exact w64 _ (by omega) (by omega)
    have e2 : wrap64 ((p : Int) + 1) = ((p + 1 : Nat) : Int) := by rw [w64 _ (by omega) (by omega)]; omega
    have e3 : wrap64 (((cntP (bitN F) p : Nat) : Int) + 1) = ((cntP (bitN F) p + 1 : Nat) : Int) := by rw [w64 _ (by omega) (by omega)]; omega
    rw [e1, e2, e3]
    refine Ev.pos (by omega) (Ev.bind (Set_ev F (p : Int) (by omega) (by omega) (by omega)) ?_)
    rw [Int.toNat_natCast]
    have hs := ih (p + 1) (by omega)
    rw [cntP] at hs
    cases hb : bitN F p with
    | true => rw [hb] at hs; exact Ev.pos rfl hs
    | false => rw [hb] at hs; exact Ev.neg (by simp) hs
theorem RFull_ev (F : List UInt8) (hF : F.length ≤ 140737488351232) : Ev (fun k => screeref10_Full.f k (lb F)) ((cnt F : Nat) : Int) :=
  rfull_l0 F hF (8 * F.length) 0 (by omega)

/-! ### keys too many, or too large -/
theorem ex_map (l : List ByteArray) : ∃ ks : List (List UInt8), l = ks.map lb := ⟨l.map bl, by
  rw [List.map_map]
  have : (lb ∘ bl) = (fun x => x) := by funext x; exact lb_bl x
  rw [this, List.map_id']⟩
theorem large_l0 : ∀ (rest pre : List (List UInt8)), (pre ++ rest).length ≤ 17592186044416 → (∀ l ∈ rest, l.length ≤ 140737488351232) → ∃ b : Bool, Ev (fun k => screelaw10_large.l0 k ((pre ++ rest).map lb) (pre.length : Int)) b ∧
    (b = false → (pre ++ rest).length ≤ 1001 → ∀ l ∈ rest, l.length ≤ 300) := by
  intro rest
  induction rest with
  | nil =>
    intro pre hl hk
    refine ⟨false, ?_, fun _ _ l hl => by simp at hl⟩
    refine Ev.step (fun k => by rw [screelaw10_large.l0]) (Ev.neg (by simp) ?_)
    refine Ev.step (fun k => by rw [screelaw10_large.j2]) (Ev.neg (by simp) (Ev.now _))
  | cons l rest ih =>
    intro pre hl hk
    have hl' : pre.length + (rest.length + 1) ≤ 17592186044416 := by simpa using hl
    have hlen : (pre ++ l :: rest).length = pre.length + (rest.length + 1) := by simp
    by_cases h1 : pre.length ≤ 1000
    · have er : rdOf ByteArray.empty ((pre ++ l :: rest).map lb) (pre.length : Int) = lb l := by simp [rdOf]
      have e2 : wrap64 ((pre.length : Int) + 1) = ((pre.length + 1 : Nat) : Int) := by rw [w64 _ (by omega) (by omega)]; omega
      by_cases h2 : l.length > 300
      · refine ⟨true, ?_, by simp⟩
        refine Ev.step (fun k => by rw [screelaw10_large.l0]) (Ev.pos (by simp; omega) ?_)
        refine Ev.step (fun k => by rw [screelaw10_large.j2]) (Ev.pos (by simp; omega) (Ev.pos (by omega) (Ev.pos (by simp; omega) ?_)))
        rw [er]
        exact Ev.pos (by rw [lb_size]; omega) (Ev.now _)
      · obtain ⟨b, hb, hb2⟩ := ih (pre ++ [l]) (by simpa using hl) (fun x hx => hk x (by simp [hx]))
        refine ⟨b, ?_, fun h3 h4 x hx => ?_⟩
        · refine Ev.step (fun k => by rw [screelaw10_large.l0]) (Ev.pos (by simp; omega) ?_)
          refine Ev.step (fun k => by rw [screelaw10_large.j2]) (Ev.pos (by simp; omega) (Ev.pos (by omega) (Ev.pos (by simp; omega) ?_)))
          rw [er, e2]
          refine Ev.neg (by rw [lb_size]; omega) ?_
          simpa using hb
        · rcases List.mem_cons.1 hx with rfl | hx
          · omega
          · exact hb2 h3 (by simpa using h4) x hx
    · refine ⟨false, ?_, fun _ h => ?_⟩
      · refine Ev.step (fun k => by rw [screelaw10_large.l0]) (Ev.pos (by simp; omega) ?_)
        refine Ev.step (fun k => by rw [screelaw10_large.j2]) (Ev.neg (by simp; omega) (Ev.now _))
      · intro x hx
        have hr : rest = [] := by
          apply List.eq_nil_of_length_eq_zero; omega
        subst hr
        omega
end Go.Proofs.Ythgefbabajpelaa.BloomS
