/- What the printed functions of num, and of its reference, come to: over lists of bytes. -/
import Derived.Test.YtachminlgcndnaaPx
import Derived.Test.YtachminlgcndnaaTh2
set_option linter.unusedVariables false
set_option linter.unusedSimpArgs false
namespace Go.Proofs.Ytachminlgcndnaa.NumS
open Go.RowKit Go.Proofs.Ytachminlgcndnaa.P Go.Proofs.Ytachminlgcndnaa.Th Go.Proofs.YtachminlgcndnaaW.PrintWords Go.Proofs.YtachminlgcndnaaW.PrintLast Go.Proofs.YtachminlgcndnaaW.PrintMore

theorem Long_f (n : Nat) : num_Long.f (n : Int) = some (lb (long n)) := by
  unfold num_Long.f
  congr 1
  rw [son]
  congr 1
  simp only [num_Long.bs, ofI, long, longk, List.map_cons, List.map_nil, List.nil_append, List.cons_append, Nat.div_div_eq_div_mul]
  have e0 : ((n : Int) % 256).toNat = n % 256 := by omega
  have e1 : ((n : Int) / 256 % 256).toNat = n / 256 % 256 := by omega
  have e2 : ((n : Int) / 65536 % 256).toNat = n / 65536 % 256 := by omega
  have e3 : ((n : Int) / 16777216 % 256).toNat = n / 16777216 % 256 := by omega
  have e4 : ((n : Int) / 4294967296 % 256).toNat = n / 4294967296 % 256 := by omega
  have e5 : ((n : Int) / 1099511627776 % 256).toNat = n / 1099511627776 % 256 := by omega
  have e6 : ((n : Int) / 281474976710656 % 256).toNat = n / 281474976710656 % 256 := by omega
  have e7 : ((n : Int) / 72057594037927936 % 256).toNat = n / 72057594037927936 % 256 := by omega
  rw [e0, e1, e2, e3, e4, e5, e6, e7]
theorem rlong_l0 : ∀ (j n : Nat) (t : List UInt8), j + t.length = 8 → n < 18446744073709551616 →
    Ev (fun k => screeref01_Long.l0 k (n : Int) (List.replicate j (0 : Int) ++ toI t) ((j : Int) - 1)) (lb (longk j n ++ t)) := by
  intro j
  induction j with
  | zero =>
    intro n t h hn
    refine Ev.step (fun k => by rw [screeref01_Long.l0]) ?_
    refine Ev.neg (by omega) (Ev.val ?_)
    rw [son]; simp [ofI_toI, longk]
  | succ j ih =>
    intro n t h hn
    refine Ev.step (fun k => by rw [screeref01_Long.l0]) ?_
    refine Ev.pos (by omega) (Ev.pos (by omega) (Ev.pos (by simp; omega) ?_))
    have t1 : IntKind.u64.wrap (Int.tdiv (n : Int) 256) = ((n / 256 : Nat) : Int) := by
      rw [Int.tdiv_eq_ediv_of_nonneg (by omega), wu_in _ (by omega) (by omega)]; omega
    have t2 : Int.tmod (n : Int) 256 % 256 = ((n % 256 : Nat) : Int) := by
      rw [Int.tmod_eq_emod_of_nonneg (by omega)]; omega
    have t3 : (((j + 1 : Nat) : Int) - 1).toNat = j := by omega
    have t4 : wrap64 (((j + 1 : Nat) : Int) - 1 - 1) = (j : Int) - 1 := by rw [w64 _ (by omega) (by omega)]; omega
    rw [t1, t2, t3, t4]
    have hset : (List.replicate (j + 1) (0 : Int) ++ toI t).set j ((n % 256 : Nat) : Int) = List.replicate j (0 : Int) ++ toI (UInt8.ofNat (n % 256) :: t) := by
      rw [List.replicate_succ', List.append_assoc, List.set_append_right _ _ (by simp)]
      simp [toI]
    rw [hset]
    refine Ev.eq (ih (n / 256) (UInt8.ofNat (n % 256) :: t) (by simp; omega) (by omega)) ?_
    rw [longk]; simp
theorem RLong_ev (n : Nat) (h : n < 18446744073709551616) : Ev (fun k => screeref01_Long.f k (n : Int)) (lb (long n)) := by
  have := rlong_l0 8 n [] rfl h
  simp only [toI, List.map_nil, List.append_nil] at this
  exact this
theorem Fall_f (n : Nat) (h : n < 18446744073709551616) : num_Fall.f (n : Int) = some (lb (long (18446744073709551615 - n))) := by
  unfold num_Fall.f
  rw [b64_not n h, Long_f]; rfl
theorem Turned_f (n : Nat) (h : n < 18446744073709551616) : screeref01_Turned.f (n : Int) = some ((18446744073709551615 - n : Nat) : Int) := by
  unfold screeref01_Turned.f
  rw [wu_in _ (by omega) (by omega)]
  congr 1; omega
theorem RFall_ev (n : Nat) (h : n < 18446744073709551616) : Ev (fun k => screeref01_Fall.f k (n : Int)) (lb (long (18446744073709551615 - n))) := by
  refine Ev.just (Turned_f n h) (Ev.bind (RLong_ev _ (by omega)) (Ev.now _))
theorem b64_or' (b i a : Nat) (ha : a < 2 ^ i) (hb : b * 2 ^ i < 18446744073709551616) (ha2 : a < 18446744073709551616) : Go.bits .or .u64 ((b * 2 ^ i : Nat) : Int) (a : Int) = ((b * 2 ^ i + a : Nat) : Int) := by
  rw [(bits_nat .u64 64 (by decide) wraps_u64 (b * 2 ^ i) a (by simpa using hb) (by simpa using ha2)).2]
  rw [Nat.mul_comm b, ← Nat.two_pow_add_eq_or_of_lt ha b]
theorem unlong_l0 : ∀ (rest pre : List UInt8), pre.length + rest.length = 8 →
    Ev (fun k => num_Unlong.l0 k (lb (pre ++ rest)) ((be 0 pre : Nat) : Int) (pre.length : Int)) (((be 0 (pre ++ rest) : Nat) : Int), true) := by
  intro rest
  induction rest with
  | nil =>
    intro pre h
    refine Ev.step (fun k => by rw [num_Unlong.l0]) ?_
    refine Ev.neg (by simp at h; omega) (Ev.val ?_)
    simp
  | cons c rest ih =>
    intro pre h
    have h' : pre.length + (rest.length + 1) = 8 := by simpa using h
    have hc := u8_lt c
    have hlt := be_lt pre 0
    have hp : 256 ^ pre.length ≤ 256 ^ 7 := Nat.pow_le_pow_right (by decide) (by omega)
    refine Ev.step (fun k => by rw [num_Unlong.l0]) ?_
    refine Ev.pos (by omega) (Ev.pos (by omega) (Ev.pos (by rw [lb_size]; simp; omega) ?_))
    rw [bt_app, wu_nat _ (by omega)]
    have e1 : wrap64 ((pre.length : Int) + 1) = ((pre.length + 1 : Nat) : Int) := by rw [w64 _ (by omega) (by omega)]; omega
    have e2 : IntKind.u64.wrap (((be 0 pre : Nat) : Int) * 256) = ((be 0 pre * 2 ^ 8 : Nat) : Int) := by
      rw [wu_in _ (by omega) (by omega)]; omega
    rw [e1, e2, b64_or' _ 8 _ (by omega) (by omega) (by omega)]
    have := ih (pre ++ [c]) (by simp; omega)
    rw [be_app, be_cons, be_nil] at this
    simpa using this
def ures (l : List UInt8) : Int × Bool := if l.length = 8 then (((be 0 l : Nat) : Int), true) else (0, false)
theorem Unlong_ev (l : List UInt8) : Ev (fun k => num_Unlong.f k (lb l)) (ures l) := by
  unfold ures num_Unlong.f
  by_cases h : l.length = 8
  · rw [if_pos h]
    refine Ev.pos (by rw [lb_size]; omega) ?_
    exact unlong_l0 l [] (by simpa using h)
  · rw [if_neg h]
    exact Ev.neg (by rw [lb_size]; omega) (Ev.now _)
theorem runlong_l0 : ∀ (rest pre : List UInt8), pre.length + rest.length = 8 →
    Ev (fun k => screeref01_Unlong.l0 k (lb (pre ++ rest)) ((be 0 pre : Nat) : Int) (pre.length : Int)) (((be 0 (pre ++ rest) : Nat) : Int), true) := by
  intro rest
  induction rest with
  | nil =>
    intro pre h
    refine Ev.step (fun k => by rw [screeref01_Unlong.l0]) ?_
    refine Ev.neg (by simp at h; omega) (Ev.val ?_)
    simp
  | cons c rest ih =>
    intro pre h
    have h' : pre.length + (rest.length + 1) = 8 := by simpa using h
    have hc := u8_lt c
    have hlt := be_lt pre 0
    have hp : 256 ^ pre.length ≤ 256 ^ 7 := Nat.pow_le_pow_right (by decide) (by omega)
    refine Ev.step (fun k => by rw [screeref01_Unlong.l0]) ?_
    refine Ev.pos (by omega) (Ev.pos (by omega) (Ev.pos (by rw [lb_size]; simp; omega) ?_))
    rw [bt_app, wu_nat _ (by omega)]
    have e1 : wrap64 ((pre.length : Int) + 1) = ((pre.length + 1 : Nat) : Int) := by rw [w64 _ (by omega) (by omega)]; omega
    have e2 : IntKind.u64.wrap (((be 0 pre : Nat) : Int) * 256) = ((be 0 pre * 256 : Nat) : Int) := by
      rw [wu_in _ (by omega) (by omega)]; omega
    have e3 : IntKind.u64.wrap (((be 0 pre * 256 : Nat) : Int) + ((c.toNat : Nat) : Int)) = ((be 0 pre * 256 + c.toNat : Nat) : Int) := by
      rw [wu_in _ (by omega) (by omega)]; omega
    rw [e1, e2, e3]
    have := ih (pre ++ [c]) (by simp; omega)
    rw [be_app, be_cons, be_nil] at this
    simpa using this
theorem RUnlong_ev (l : List UInt8) : Ev (fun k => screeref01_Unlong.f k (lb l)) (ures l) := by
  unfold ures screeref01_Unlong.f
  by_cases h : l.length = 8
  · rw [if_pos h]
    refine Ev.pos (by rw [lb_size]; omega) ?_
    exact runlong_l0 l [] (by simpa using h)
  · rw [if_neg h]
    exact Ev.neg (by rw [lb_size]; omega) (Ev.now _)
def ufres (l : List UInt8) : Int × Bool := if l.length = 8 then (((18446744073709551615 - be 0 l : Nat) : Int), true) else (0, false)
theorem Unfall_ev (l : List UInt8) : Ev (fun k => num_Unfall.f k (lb l)) (ufres l) := by
  refine Ev.bind (Unlong_ev l) ?_
  unfold ures ufres
  by_cases h : l.length = 8
  · rw [if_pos h, if_pos h]
    refine Ev.pos rfl (Ev.val ?_)
    rw [b64_not _ (be_lt8 l h)]
  · rw [if_neg h, if_neg h]
    exact Ev.neg (by simp) (Ev.now _)
theorem RUnfall_ev (l : List UInt8) : Ev (fun k => screeref01_Unfall.f k (lb l)) (ufres l) := by
  refine Ev.bind (RUnlong_ev l) ?_
  unfold ures ufres
  by_cases h : l.length = 8
  · rw [if_pos h, if_pos h]
    refine Ev.pos rfl (Ev.just (Turned_f _ (be_lt8 l h)) (Ev.now _))
  · rw [if_neg h, if_neg h]
    exact Ev.neg (by simp) (Ev.now _)
end Go.Proofs.Ytachminlgcndnaa.NumS
