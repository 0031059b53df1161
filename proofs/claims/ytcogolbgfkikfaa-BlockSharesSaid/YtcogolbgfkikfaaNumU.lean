/- Long, Unlong alone: what the printed functions of num come to: over lists of bytes. -/
import Derived.Test.YtcogolbgfkikfaaPx0
import Derived.Test.YtcogolbgfkikfaaPx3
import Derived.Test.YtcogolbgfkikfaaPx4
import Derived.Test.YtcogolbgfkikfaaTh2
set_option linter.unusedVariables false
set_option linter.unusedSimpArgs false
namespace Go.Proofs.Ytcogolbgfkikfaa.NumS
open Go.RowKit Go.Proofs.Ytcogolbgfkikfaa.P Go.Proofs.Ytcogolbgfkikfaa.Th Go.Proofs.YtcogolbgfkikfaaW.PrintWords Go.Proofs.YtcogolbgfkikfaaW.PrintLast Go.Proofs.YtcogolbgfkikfaaW.PrintMore

theorem Long_f (n : Nat) : num_Long.f (n : Int) = some (lb (long n)) := by
  unfold num_Long.f
  congr 1
  rw [son]
  congr 1
  simp only [num_Long.bs, ofI, long, longk, List.map_cons, List.map_nil, List.nil_append, List.cons_append, Nat.div_div_eq_div_mul]
  have e0 : ((n : Int) % 256).toNat = n % 256 := by omega
  have e1 : ((n : Int) / 256 % 256).toNat = n / 256 % 256 := by omega
  have e2 : ((n : Int) / 65536 % 256).toNat = n / 65536 % 256 := by omega
  have e3 : ((n : Int) / 16777216 % 256).toNat = n / 16777216 % 256 := by omega
  have e4 : ((n : Int) / 4294967296 % 256).toNat = n / 4294967296 % 256 := by omega
  have e5 : ((n : Int) / 1099511627776 % 256).toNat = n / 1099511627776 % 256 := by omega
  have e6 : ((n : Int) / 281474976710656 % 256).toNat = n / 281474976710656 % 256 := by omega
  have e7 : ((n : Int) / 72057594037927936 % 256).toNat = n / 72057594037927936 % 256 := by omega
  rw [e0, e1, e2, e3, e4, e5, e6, e7]
theorem b64_or' (b i a : Nat) (ha : a < 2 ^ i) (hb : b * 2 ^ i < 18446744073709551616) (ha2 : a < 18446744073709551616) : Go.bits .or .u64 ((b * 2 ^ i : Nat) : Int) (a : Int) = ((b * 2 ^ i + a : Nat) : Int) := by
  rw [(bits_nat .u64 64 (by decide) wraps_u64 (b * 2 ^ i) a (by simpa using hb) (by simpa using ha2)).2]
  rw [Nat.mul_comm b, ← Nat.two_pow_add_eq_or_of_lt ha b]
theorem unlong_l0 : ∀ (rest pre : List UInt8), pre.length + rest.length = 8 →
    Ev (fun k => num_Unlong.l0 k (lb (pre ++ rest)) ((be 0 pre : Nat) : Int) (pre.length : Int)) (((be 0 (pre ++ rest) : Nat) : Int), true) := by
  intro rest
  induction rest with
  | nil =>
    intro pre h
    refine Ev.step (fun k => by rw [num_Unlong.l0]) ?_
    refine Ev.neg (by simp at h; omega) (Ev.val ?_)
    simp
  | cons c rest ih =>
    intro pre h
    have h' : pre.length + (rest.length + 1) = 8 := by simpa using h
    have hc := u8_lt c
    have hlt := be_lt pre 0
    have hp : 256 ^ pre.length ≤ 256 ^ 7 := Nat.pow_le_pow_right (by decide) (by omega)
    refine Ev.step (fun k => by rw [num_Unlong.l0]) ?_
    refine Ev.pos (by omega) (Ev.pos (by omega) (Ev.pos (by rw [lb_size]; simp; omega) ?_))
    rw [bt_app, wu_nat _ (by omega)]
    have e1 : wrap64 ((pre.length : Int) + 1) = ((pre.length + 1 : Nat) : Int) := by rw [w64 _ (by omega) (by omega)]; omega
    have e2 : IntKind.u64.wrap (((be 0 pre : Nat) : Int) * 256) = ((be 0 pre * 2 ^ 8 : Nat) : Int) := by
      rw [wu_in _ (by omega) (by omega)]; omega
    rw [e1, e2, b64_or' _ 8 _ (by omega) (by omega) (by omega)]
    have := ih (pre ++ [c]) (by simp; omega)
    rw [be_app, be_cons, be_nil] at this
    simpa using this
def ures (l : List UInt8) : Int × Bool := if l.length = 8 then (((be 0 l : Nat) : Int), true) else (0, false)
theorem Unlong_ev (l : List UInt8) : Ev (fun k => num_Unlong.f k (lb l)) (ures l) := by
  unfold ures num_Unlong.f
  by_cases h : l.length = 8
  · rw [if_pos h]
    refine Ev.pos (by rw [lb_size]; omega) ?_
    exact unlong_l0 l [] (by simpa using h)
  · rw [if_neg h]
    exact Ev.neg (by rw [lb_size]; omega) (Ev.now _)
end Go.Proofs.Ytcogolbgfkikfaa.NumS
