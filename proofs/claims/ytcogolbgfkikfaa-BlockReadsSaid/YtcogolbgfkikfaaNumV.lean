/- The reference's Long, Unlong: over lists of bytes (apart from NumU, by size). -/
import Derived.Test.YtcogolbgfkikfaaPx0
import Derived.Test.YtcogolbgfkikfaaPx9
import Derived.Test.YtcogolbgfkikfaaPx11
import Derived.Test.YtcogolbgfkikfaaBlkM
set_option linter.unusedVariables false
set_option linter.unusedSimpArgs false
namespace Go.Proofs.Ytcogolbgfkikfaa.NumS
open Go.RowKit Go.Proofs.Ytcogolbgfkikfaa.P Go.Proofs.Ytcogolbgfkikfaa.Th Go.Proofs.YtcogolbgfkikfaaW.PrintWords Go.Proofs.YtcogolbgfkikfaaW.PrintLast Go.Proofs.YtcogolbgfkikfaaW.PrintMore

theorem rlong_l0 : ∀ (j n : Nat) (t : List UInt8), j + t.length = 8 → n < 18446744073709551616 →
    Ev (fun k => screeref01_Long.l0 k (n : Int) (List.replicate j (0 : Int) ++ toI t) ((j : Int) - 1)) (lb (longk j n ++ t)) := by
  intro j
  induction j with
  | zero =>
    intro n t h hn
    refine Ev.step (fun k => by rw [screeref01_Long.l0]) ?_
    refine Ev.neg (by omega) (Ev.val ?_)
    rw [son]; simp [ofI_toI, longk]
  | succ j ih =>
    intro n t h hn
    refine Ev.step (fun k => by rw [screeref01_Long.l0]) ?_
    refine Ev.pos (by omega) (Ev.pos (by omega) (Ev.pos (by simp; omega) ?_))
    have t1 : IntKind.u64.wrap (Int.tdiv (n : Int) 256) = ((n / 256 : Nat) : Int) := by
      rw [Int.tdiv_eq_ediv_of_nonneg (by omega), wu_in _ (by omega) (by omega)]; omega
    have t2 : Int.tmod (n : Int) 256 % 256 = ((n % 256 : Nat) : Int) := by
      rw [Int.tmod_eq_emod_of_nonneg (by omega)]; omega
    have t3 : (((j + 1 : Nat) : Int) - 1).toNat = j := by omega
    have t4 : wrap64 (((j + 1 : Nat) : Int) - 1 - 1) = (j : Int) - 1 := by rw [w64 _ (by omega) (by omega)]; omega
    rw [t1, t2, t3, t4]
    have hset : (List.replicate (j + 1) (0 : Int) ++ toI t).set j ((n % 256 : Nat) : Int) = List.replicate j (0 : Int) ++ toI (UInt8.ofNat (n % 256) :: t) := by
      rw [List.replicate_succ', List.append_assoc, List.set_append_right _ _ (by simp)]
      simp [toI]
    rw [hset]
    refine Ev.eq (ih (n / 256) (UInt8.ofNat (n % 256) :: t) (by simp; omega) (by omega)) ?_
    rw [longk]; simp
theorem RLong_ev (n : Nat) (h : n < 18446744073709551616) : Ev (fun k => screeref01_Long.f k (n : Int)) (lb (long n)) := by
  have := rlong_l0 8 n [] rfl h
  simp only [toI, List.map_nil, List.append_nil] at this
  exact this
theorem runlong_l0 : ∀ (rest pre : List UInt8), pre.length + rest.length = 8 →
    Ev (fun k => screeref01_Unlong.l0 k (lb (pre ++ rest)) ((be 0 pre : Nat) : Int) (pre.length : Int)) (((be 0 (pre ++ rest) : Nat) : Int), true) := by
  intro rest
  induction rest with
  | nil =>
    intro pre h
    refine Ev.step (fun k => by rw [screeref01_Unlong.l0]) ?_
    refine Ev.neg (by simp at h; omega) (Ev.val ?_)
    simp
  | cons c rest ih =>
    intro pre h
    have h' : pre.length + (rest.length + 1) = 8 := by simpa using h
    have hc := u8_lt c
    have hlt := be_lt pre 0
    have hp : 256 ^ pre.length ≤ 256 ^ 7 := Nat.pow_le_pow_right (by decide) (by omega)
    refine Ev.step (fun k => by rw [screeref01_Unlong.l0]) ?_
    refine Ev.pos (by omega) (Ev.pos (by omega) (Ev.pos (by rw [lb_size]; simp; omega) ?_))
    rw [bt_app, wu_nat _ (by omega)]
    have e1 : wrap64 ((pre.length : Int) + 1) = ((pre.length + 1 : Nat) : Int) := by rw [w64 _ (by omega) (by omega)]; omega
    have e2 : IntKind.u64.wrap (((be 0 pre : Nat) : Int) * 256) = ((be 0 pre * 256 : Nat) : Int) := by
      rw [wu_in _ (by omega) (by omega)]; omega
    have e3 : IntKind.u64.wrap (((be 0 pre * 256 : Nat) : Int) + ((c.toNat : Nat) : Int)) = ((be 0 pre * 256 + c.toNat : Nat) : Int) := by
      rw [wu_in _ (by omega) (by omega)]; omega
    rw [e1, e2, e3]
    have := ih (pre ++ [c]) (by simp; omega)
    rw [be_app, be_cons, be_nil] at this
    simpa using this
theorem RUnlong_ev (l : List UInt8) : Ev (fun k => screeref01_Unlong.f k (lb l)) (ures l) := by
  unfold ures screeref01_Unlong.f
  by_cases h : l.length = 8
  · rw [if_pos h]
    refine Ev.pos (by rw [lb_size]; omega) ?_
    exact runlong_l0 l [] (by simpa using h)
  · rw [if_neg h]
    exact Ev.neg (by rw [lb_size]; omega) (Ev.now _)
end Go.Proofs.Ytcogolbgfkikfaa.NumS
