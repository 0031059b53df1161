/- block: what is encoded is decoded. -/
import Derived.Test.YtcogolbgfkikfaaPx0
import Derived.Test.YtcogolbgfkikfaaBlk4
set_option linter.unusedVariables false
set_option linter.unusedSimpArgs false
namespace Go.Proofs.Ytcogolbgfkikfaa.BlkS
open Go.RowKit Go.Proofs.Ytcogolbgfkikfaa.P Go.Proofs.Ytcogolbgfkikfaa.Th Go.Proofs.Ytcogolbgfkikfaa.NumS Go.Proofs.YtcogolbgfkikfaaW.PrintWords Go.Proofs.YtcogolbgfkikfaaW.PrintLast Go.Proofs.YtcogolbgfkikfaaW.PrintMore

theorem nx_ent (n : Nat) (p : List UInt8) (x : ES) (rest : List UInt8) (h : okE x = true) (hn : n ≤ (bl x.f0).length) (hp : n ≤ p.length) (hk : p.take n = (bl x.f0).take n) : nx (entB n x ++ rest) false p = (x, rest, false, bl x.f0) := by
  have h1 := okE_iff h
  have hu := okE_u h
  have ek : p.take n ++ (bl x.f0).drop n = bl x.f0 := by rw [hk, List.take_append_drop]
  have ebit : ∀ r : List UInt8, ((if x.f2 = true then (1 : UInt8) else 0) :: r) = short (if x.f2 = true then 1 else 0) ++ r := by
    intro r
    rw [short_lt _ (by split <;> omega)]
    split <;> rfl
  unfold nx entB
  simp only [List.append_assoc, List.cons_append]
  rw [nu_short (by omega)]
  simp only
  rw [if_neg (by omega), nu_short (by omega)]
  simp only
  have e1 := te_app ((bl x.f0).drop n) (sh x.f1 ++ ((if x.f2 = true then (1 : UInt8) else 0) :: (short (bl x.f3).length ++ (bl x.f3 ++ rest))))
  rw [List.length_drop] at e1
  rw [e1]
  simp only
  rw [show sh x.f1 = short x.f1.toNat from rfl, nu_short (by have := hu.1; have := hu.2; omega)]
  simp only
  rw [ebit, nu_short (by split <;> omega)]
  simp only
  rw [nu_short (by omega)]
  simp only
  rw [te_app, ek]
  have e2 : ((x.f1.toNat : Nat) : Int) = x.f1 := by have := hu.1; omega
  rw [e2]
  simp only [lb_bl]
  cases x with
  | mk f0 f1 f2 f3 => cases f2 <;> simp
theorem sh_ok (i : Nat) (p : List UInt8) (x : ES) : shB i p x ≤ p.length ∧ p.take (shB i p x) = (bl x.f0).take (shB i p x) := by
  unfold shB
  split
  · simp
  · exact ⟨(comm_le _ _).1, comm_take _ _⟩
theorem dgo_body : ∀ (l : List ES) (i : Nat) (p : List UInt8) (acc : List ES), (∀ x ∈ l, okE x = true) → dgo l.length (bodyB i p l) false p acc = (false, acc ++ l) := by
  intro l
  induction l with
  | nil => intro i p acc _; simp [dgo]
  | cons x l ih =>
    intro i p acc h
    have h1 := nx_ent (shB i p x) p x (bodyB (i + 1) (bl x.f0) l) (h x (by simp)) (shB_le i p x) (sh_ok i p x).1 (sh_ok i p x).2
    simp only [List.length_cons, dgo, bodyB]
    rw [h1]
    simp only
    rw [ih (i + 1) (bl x.f0) (acc ++ [x]) (fun y hy => h y (by simp [hy]))]
    simp
theorem starts_cnt : ∀ (l : List ES) (i j : Nat) (p : List UInt8), (startsB i j p l).length + (i + 3) / 4 = (i + l.length + 3) / 4 := by
  intro l
  induction l with
  | nil => intro i j p; simp [startsB]
  | cons x l ih =>
    intro i j p
    have := ih (i + 1) (j + (entB (shB i p x) x).length) (bl x.f0)
    simp only [startsB, List.length_append, List.length_cons]
    split
    · simp only [List.length_singleton]; omega
    · simp only [List.length_nil]; omega
theorem encB_eq (l : List ES) : (encB l).length = (bodyB 0 [] l).length + strt l.length := by
  have := starts_cnt l 0 0 []
  unfold encB strt
  rw [List.length_append, List.length_append, longs_len, long_len]
  omega
theorem cnt_enc {l : List ES} (h : 1 ≤ l.length ∧ l.length ≤ 32) : cntB (encB l) = l.length := by
  have e : (encB l).drop ((encB l).length - 8) = long l.length := by
    have : (encB l).length - 8 = (bodyB 0 [] l ++ (startsB 0 0 [] l).flatMap long).length := by unfold encB; simp only [List.length_append, long_len]; omega
    rw [this]; unfold encB; exact List.drop_left
  unfold cntB
  rw [e, be_long _ (by omega)]
  have := encB_eq l
  unfold strt at this
  rw [if_neg (by omega), if_neg (by omega)]
theorem decr_enc {l : List ES} (h : rowB l = true) : decr (encB l) = (l, 0) := by
  have h1 := rowB_len h
  have e := encB_eq l
  have et : (encB l).take ((encB l).length - strt l.length) = bodyB 0 [] l := by
    rw [show (encB l).length - strt l.length = (bodyB 0 [] l).length by omega]
    unfold encB; rw [List.append_assoc]; exact List.take_left
  have hd := dgo_body l 0 [] [] (rowB_all h)
  unfold decr
  rw [cnt_enc h1, et, hd]
  simp only [List.nil_append]
  rw [if_neg (by omega), if_neg (by omega), if_neg (by simp), if_pos ⟨h, trivial⟩]
/-- Bytes that are decoded are a row's. -/
theorem decr_ok {s : List UInt8} {l : List ES} {e : Int} (h : decr s = (l, e)) : (e = 0 ∧ rowB l = true ∧ encB l = s) ∨ (e = 2 ∧ l = []) := by
  unfold decr at h
  split at h
  · right; simp at h; exact ⟨h.2.symm, h.1⟩
  · split at h
    · right; simp at h; exact ⟨h.2.symm, h.1⟩
    · split at h
      · right; simp at h; exact ⟨h.2.symm, h.1⟩
      · split at h
        · rename_i hh
          left; simp at h; exact ⟨h.2.symm, by rw [← h.1]; exact hh.1, by rw [← h.1]; exact hh.2⟩
        · right; simp at h; exact ⟨h.2.symm, h.1⟩
end Go.Proofs.Ytcogolbgfkikfaa.BlkS
