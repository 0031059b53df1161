-- Printed by a program of this session's own (wip/tools/pprint.sh, over the kit's print, with given contracts): not typed by hand.
import Derived.Test.YtgdkikkjaofbfaaWKept
import Derived.Test.YtgdkikkjaofbfaaPx0
import Derived.Test.YtgdkikkjaofbfaaPx1
namespace Go.Proofs.Ytgdkikkjaofbfaa.P
open Go.RowKit Go.Proofs.YtgdkikkjaofbfaaW.PrintWords Go.Proofs.YtgdkikkjaofbfaaW.PrintLast Go.Proofs.YtgdkikkjaofbfaaW.PrintMore
attribute [local go_sem] max2_int min2_int max_two min_two max_three min_three max_four min_four   -- for this text's walks alone
set_option linter.unusedVariables false
set_option linter.unusedSimpArgs false
-- SQUEEZED4
-- SQUEEZED3

attribute [local go_sem high] eqA37
/-! ### qH: function 14 -/
def qH.l0 : Nat → List (S37) → List (S37) → Int → Option (Bool)
 | 0, _, _, _ => none
 | k + 1, x0, x1, x5 => if x5 < (x0.length : Int) then (if 0 ≤ x5 then (if x5 < (x1.length : Int) then (if (!((((rd_T37 x0 x5).f0).toList) == (((rd_T37 x1 x5).f0).toList)) || (!(((rd_T37 x0 x5).f1) == ((rd_T37 x1 x5).f1)) || (!(((rd_T37 x0 x5).f2) == ((rd_T37 x1 x5).f2)) || (!((((rd_T37 x0 x5).f3).toList) == (((rd_T37 x1 x5).f3).toList)))))) = true then (some false) else (qH.l0 k x0 x1 (wrap64 (x5 + 1)))) else (none)) else (none)) else (some true)
def qH.f (k : Nat) (l0 : List (S37)) (l1 : List (S37)) : Option (Bool) := if (l0.length : Int) = (l1.length : Int) then (qH.l0 k l0 l1 0) else (some false)
theorem qH.mono_l : ∀ k, (∀ y0 y1 y2, LeO (qH.l0 k y0 y1 y2) (qH.l0 (k + 1) y0 y1 y2))
 | 0 => fun _ _ _ r h => by simp [qH.l0] at h
 | k + 1 => by
  have ih0 := qH.mono_l k
  ·intro y0 y1 y2
   unfold qH.l0
   repeat' first
   | (with_reducible exact ih0 _ _ _)
   | (with_reducible exact LeO.refl _)
   | (with_reducible exact LeO.none _)
   | (with_reducible refine LeO.ite ?_ ?_)
   | (with_reducible refine LeO.bind ?_ (fun _ => ?_))
   | exact ih0 _ _ _
   | exact LeO.none _
   | refine LeO.ite ?_ ?_
   | refine LeO.bind ?_ (fun _ => ?_)
theorem qH.mono : ∀ a0 a1 k, LeO (qH.f k a0 a1) (qH.f (k + 1) a0 a1) := by
 intro a0 a1 k
 have ih0 := qH.mono_l k
 unfold qH.f
 repeat' first
   | (with_reducible exact ih0 _ _ _)
   | (with_reducible exact LeO.refl _)
   | (with_reducible exact LeO.none _)
   | (with_reducible refine LeO.ite ?_ ?_)
   | (with_reducible refine LeO.bind ?_ (fun _ => ?_))
   | exact ih0 _ _ _
   | exact LeO.none _
   | refine LeO.ite ?_ ?_
   | refine LeO.bind ?_ (fun _ => ?_)
set_option maxHeartbeats 8000000 in
set_option maxRecDepth 100000 in
theorem qH.calls (k : Nat) (A0 : Option Addr) (c0 : Nat) (l0 : List (S37)) (A1 : Option Addr) (c1 : Nat) (l1 : List (S37)) (r : Bool) (w : World) (hr0 : Kd.C k37 w A0 l0.length l0) (hc0 : l0.length ≤ c0) (hr1 : Kd.C k37 w A1 l1.length l1) (hc1 : l1.length ≤ c1) (h : qH.f k l0 l1 = some r) :
  Calls Try.prog 14 #[.slice A0 l0.length c0, .slice A1 l1.length c1] w fun e w' => e = .returned (.bool r) ∧ Drawn0 w w' := by
 have hu37 := Try.underlying37
 have HR0 := Aside0.mk hr0
 have HC0 := Aside0.mk hc0
 clear hr0 hc0
 have HR1 := Aside0.mk hr1
 have HC1 := Aside0.mk hc1
 clear hr1 hc1
 have H : (if (l0.length : Int) = (l1.length : Int) then (qH.l0 k l0 l1 0) else (some false)) = some r := h
 clear h
 by_cases c3 : (l0.length : Int) = (l1.length : Int)
 rotate_left
 ·rw [if_neg c3] at H
  have c3b0 := beq_eq_false_iff_ne.mpr c3
  have c3b1 := bne_iff_ne.mpr c3
  have c3b2 : (l0.length == l1.length) = false := by first | simpa using c3 | (simp at c3 ⊢; omega)
  obtain rfl := Option.some.inj H
  go_enter Try.func14, Try.ntmps14
  go_wp2
  repeat (go_quiet (fail); try go_wp2)
  go_ret
  exact ⟨rs_, dR_⟩
 rw [if_pos c3] at H
 have c3b0 := beq_iff_eq.mpr c3
 have c3b1 := bne_eq_false_iff_eq.mpr c3
 have c3b2 : (l0.length == l1.length) = true := by first | simpa using c3 | (simp at c3 ⊢; omega)
 clear c3
 have H' := Aside0.mk H
 clear H
 go_enter Try.func14, Try.ntmps14
 go_wp2
 repeat (go_quiet (fail); try go_wp2)
 go_loopg [5] k (fun kq v5 w' => ∃ (x5_1 : Int), v5 = .int .i64 x5_1 ∧ Aside0 (qH.l0 kq l0 l1 x5_1 = some r) ∧ Aside0 (kq ≤ k) ∧ Drawn0 w w')
 case atStart => exact ⟨(0), rs_, H', ⟨Nat.le_refl _⟩, dR_⟩
 case round =>
  clear H'
  try clear c1
  try clear c3
  try clear c3b0
  try clear c3b1
  try clear c3b2
  obtain ⟨x5_1, rfl, HA, HK1, ⟨m1, rfl⟩⟩ := hrel
  cases gk with
  | zero => exact absurd HA.out (by simp [qH.l0])
  | succ k1 =>
   have H := HA.out
   clear HA
   simp only [qH.l0] at H
   by_cases c4 : x5_1 < (l0.length : Int)
   rotate_left
   ·rw [if_neg c4] at H
    have c4b0 := decide_eq_false c4
    clear c4
    obtain rfl := Option.some.inj H
    go_wp2
    repeat (go_quiet (fail); try go_wp2)
    go_ret
    exact ⟨rs_, dR_⟩
   rw [if_pos c4] at H
   have c4b0 := decide_eq_true c4
   clear c4
   by_cases c5 : 0 ≤ x5_1
   rotate_left
   ·rw [if_neg c5] at H
    exact absurd H r17_
   rw [if_pos c5] at H
   have c5b0 := decide_eq_true c5
   clear c5
   by_cases c6 : x5_1 < (l1.length : Int)
   rotate_left
   ·rw [if_neg c6] at H
    exact absurd H r17_
   rw [if_pos c6] at H
   have c6b0 := decide_eq_true c6
   clear c6
   by_cases c7 : (!((((rd_T37 l0 x5_1).f0).toList) == (((rd_T37 l1 x5_1).f0).toList)) || (!(((rd_T37 l0 x5_1).f1) == ((rd_T37 l1 x5_1).f1)) || (!(((rd_T37 l0 x5_1).f2) == ((rd_T37 l1 x5_1).f2)) || (!((((rd_T37 l0 x5_1).f3).toList) == (((rd_T37 l1 x5_1).f3).toList)))))) = true
   ·rw [if_pos c7] at H
    have c7b0 : (!((((rd_T37 l0 x5_1).f0).toList) == (((rd_T37 l1 x5_1).f0).toList)) || (!(((rd_T37 l0 x5_1).f1) == ((rd_T37 l1 x5_1).f1)) || (!(((rd_T37 l0 x5_1).f2) == ((rd_T37 l1 x5_1).f2)) || (!((((rd_T37 l0 x5_1).f3).toList) == (((rd_T37 l1 x5_1).f3).toList)))))) = true := c7
    clear c7
    obtain rfl := Option.some.inj H
    have p128 : 0 ≤ (x5_1 : Int) := of_decide_eq_true as_
    have q128 : x5_1 < (l0.length : Int) := of_decide_eq_true as_
    obtain ⟨ad128, e128, hx128_0, hx128_1, hx128_2, hx128_3⟩ := at_T37 HR0.out x5_1 p128 q128
    cases e128
    replace p128 := eq_true p128
    replace q128 := eq_true q128
    have p129 : 0 ≤ (x5_1 : Int) := of_decide_eq_true as_
    have q129 : x5_1 < (l1.length : Int) := of_decide_eq_true as_
    obtain ⟨ad129, e129, hx129_0, hx129_1, hx129_2, hx129_3⟩ := at_T37 HR1.out x5_1 p129 q129
    cases e129
    replace p129 := eq_true p129
    replace q129 := eq_true q129
    go_wp2
    repeat (go_quiet (fail); try go_wp2)
    go_ret
    exact ⟨rs_, dR_⟩
   rw [if_neg c7] at H
   have c7b0 : (!((((rd_T37 l0 x5_1).f0).toList) == (((rd_T37 l1 x5_1).f0).toList)) || (!(((rd_T37 l0 x5_1).f1) == ((rd_T37 l1 x5_1).f1)) || (!(((rd_T37 l0 x5_1).f2) == ((rd_T37 l1 x5_1).f2)) || (!((((rd_T37 l0 x5_1).f3).toList) == (((rd_T37 l1 x5_1).f3).toList)))))) = false := by simpa using c7
   clear c7
   have H' := Aside0.mk H
   clear H
   have p128 : 0 ≤ (x5_1 : Int) := of_decide_eq_true as_
   have q128 : x5_1 < (l0.length : Int) := of_decide_eq_true as_
   obtain ⟨ad128, e128, hx128_0, hx128_1, hx128_2, hx128_3⟩ := at_T37 HR0.out x5_1 p128 q128
   cases e128
   replace p128 := eq_true p128
   replace q128 := eq_true q128
   have p129 : 0 ≤ (x5_1 : Int) := of_decide_eq_true as_
   have q129 : x5_1 < (l1.length : Int) := of_decide_eq_true as_
   obtain ⟨ad129, e129, hx129_0, hx129_1, hx129_2, hx129_3⟩ := at_T37 HR1.out x5_1 p129 q129
   cases e129
   replace p129 := eq_true p129
   replace q129 := eq_true q129
   go_wp2
   repeat (go_quiet (fail); try go_wp2)
   go_roundg k1
   case measure => have := HK1.out; omega
   case rel => exact ⟨(wrap64 (x5_1 + 1)), rs_, hH_, ⟨by have := HK1.out; omega⟩, dR_⟩

/-- A state of type 82 at block g of W; what its slices lead to came in by w0. -/
def IsS82 (w0 W : World) (g : Nat) (f0 : ByteArray) (f1 : List (S80)) (f2 : ByteArray) (f3 : Int) : Prop := ∃ A1 c1, W.heap[g]? = some (.cells #[.string f0, .slice A1 f1.length c1, .string f2, .int .i64 f3] 82 (0, 0)) ∧ w0.heap.size ≤ g ∧ Kd.C k80 w0 A1 f1.length f1
theorem IsS82.grown {w0 W : World} {g : Nat} {f0 : ByteArray} {f1 : List (S80)} {f2 : ByteArray} {f3 : Int} {W1 : World} {row : Option Nat} (h : IsS82 w0 W g f0 f1 f2 f3) (hw : W.grownBy W1 row) (hne : some g ≠ row) : IsS82 w0 W1 g f0 f1 f2 f3 := by
 obtain ⟨A1, c1, hb, hg, hr1⟩ := h
 exact ⟨A1, c1, blk_grown hb hw hne, hg, hr1⟩
theorem IsS82.fresh {w0 W : World} {g : Nat} {f0 : ByteArray} {f1 : List (S80)} {f2 : ByteArray} {f3 : Int} (h : IsS82 w0 W g f0 f1 f2 f3) : ∀ k, W.heap.size ≤ k → k ≠ g := by
 obtain ⟨A1, c1, hb, hg, hr1⟩ := h
 exact Kd.freshB hb
theorem IsS82.kept {w0 W : World} {g : Nat} {f0 : ByteArray} {f1 : List (S80)} {f2 : ByteArray} {f3 : Int} {W1 : World} {S : Nat → Prop} (h : IsS82 w0 W g f0 f1 f2 f3) (hk : Kept W W1 S) (hne : ¬ S g) : IsS82 w0 W1 g f0 f1 f2 f3 := by
 obtain ⟨A1, c1, hb, hg, hr1⟩ := h
 exact ⟨A1, c1, blk_kept hb hk hne, hg, hr1⟩
theorem IsS82.below {w0 W : World} {g : Nat} {f0 : ByteArray} {f1 : List (S80)} {f2 : ByteArray} {f3 : Int} {W1 : World} (h : IsS82 w0 W g f0 f1 f2 f3) (hw : Below W.heap.size W W1) : IsS82 w0 W1 g f0 f1 f2 f3 := h.grown (grown_of_below hw none) r17_
theorem IsS82.alloc {w0 W : World} {g : Nat} {f0 : ByteArray} {f1 : List (S80)} {f2 : ByteArray} {f3 : Int} (h : IsS82 w0 W g f0 f1 f2 f3) (o : Obj) : IsS82 w0 (W.alloc o) g f0 f1 f2 f3 := h.below (below_alloc (Below.refl _ _) o)
theorem IsS82.drewN {w0 W : World} {g : Nat} {f0 : ByteArray} {f1 : List (S80)} {f2 : ByteArray} {f3 : Int} (h : IsS82 w0 W g f0 f1 f2 f3) (m : Nat) : IsS82 w0 (W.drewN m) g f0 f1 f2 f3 := h
theorem IsS82.drew {w0 W : World} {g : Nat} {f0 : ByteArray} {f1 : List (S80)} {f2 : ByteArray} {f3 : Int} (h : IsS82 w0 W g f0 f1 f2 f3) : IsS82 w0 W.drew g f0 f1 f2 f3 := h
theorem IsS82.at_ {w0 W : World} {g : Nat} {f0 : ByteArray} {f1 : List (S80)} {f2 : ByteArray} {f3 : Int} {w' : World} {m : Nat} (hq : W.drewN m = w') (h : IsS82 w0 W g f0 f1 f2 f3) : IsS82 w0 w' g f0 f1 f2 f3 := by subst hq; exact IsS82.drewN h m
theorem IsS82.apart {w0 W : World} {g : Nat} {f0 : ByteArray} {f1 : List (S80)} {f2 : ByteArray} {f3 : Int} {α : Type} {d : Kd α} {e : Nat} {base : Nat} {ok : Nat → Prop} {v : Value} {xs : List α} (h : IsS82 w0 W g f0 f1 f2 f3) (ho : d.R e W base ok v xs) (ht : ∀ q, q ∈ e :: d.E → q ≠ 82) : d.R e W base (fun k => ok k ∧ k ≠ g) v xs := by
 obtain ⟨A1, c1, hb, hg, hr1⟩ := h
 exact Kd.R_types ho hb ht
theorem IsS82.own_ne {w0 W : World} {g : Nat} {f0 : ByteArray} {f1 : List (S80)} {f2 : ByteArray} {f3 : Int} {α : Type} {d : Kd α} {e : Nat} {base : Nat} {ok : Nat → Prop} {v : Value} {xs : List α} (h : IsS82 w0 W g f0 f1 f2 f3) (ho : d.R e W base ok v xs) (ht : e ≠ 82) : some g ≠ v.ownBlock := by
 obtain ⟨A1, c1, hb, hg, hr1⟩ := h
 exact Kd.R_ne ho hb ht
theorem IsS82.lt {w0 W : World} {g : Nat} {f0 : ByteArray} {f1 : List (S80)} {f2 : ByteArray} {f3 : Int} (h : IsS82 w0 W g f0 f1 f2 f3) : g < W.heap.size := by
 obtain ⟨A1, c1, hb, hg, hr1⟩ := h
 exact blk_lt hb
theorem IsS82.ge {w0 W : World} {g : Nat} {f0 : ByteArray} {f1 : List (S80)} {f2 : ByteArray} {f3 : Int} (h : IsS82 w0 W g f0 f1 f2 f3) : w0.heap.size ≤ g := by
 obtain ⟨A1, c1, hb, hg, hr1⟩ := h
 exact hg
theorem IsS82.far {w0 W : World} {g : Nat} {f0 : ByteArray} {f1 : List (S80)} {f2 : ByteArray} {f3 : Int} {p : Addr} (h : IsS82 w0 W g f0 f1 f2 f3) (hne : g ≠ p.block) (u : Value) : IsS82 w0 (W.setCell p u) g f0 f1 f2 f3 := by
 obtain ⟨A1, c1, hb, hg, hr1⟩ := h
 exact ⟨A1, c1, blk_far hb hne u, hg, hr1⟩
theorem cellS82_0 {W : World} {g : Nat} {A1 : Option Addr} {c1 : Nat} {f0 : ByteArray} {f1 : List (S80)} {f2 : ByteArray} {f3 : Int} (h : W.heap[g]? = some (.cells #[.string f0, .slice A1 f1.length c1, .string f2, .int .i64 f3] 82 (0, 0))) : W.cell? ⟨g, 0, none⟩ = some (.string f0) := (blk_cell h 0).trans rfl
theorem IsS82.set_0 {w0 W : World} {g : Nat} {f0 : ByteArray} {f1 : List (S80)} {f2 : ByteArray} {f3 : Int} (h : IsS82 w0 W g f0 f1 f2 f3) (x : ByteArray) : IsS82 w0 (W.setCell ⟨g, 0, none⟩ (.string x)) g x f1 f2 f3 := by
 obtain ⟨A1, c1, hb, hg, hr1⟩ := h
 exact ⟨A1, c1, by simpa using blk_set hb 0 (.string x), hg, hr1⟩
theorem cellS82_1 {W : World} {g : Nat} {A1 : Option Addr} {c1 : Nat} {f0 : ByteArray} {f1 : List (S80)} {f2 : ByteArray} {f3 : Int} (h : W.heap[g]? = some (.cells #[.string f0, .slice A1 f1.length c1, .string f2, .int .i64 f3] 82 (0, 0))) : W.cell? ⟨g, 1, none⟩ = some (.slice A1 f1.length c1) := (blk_cell h 1).trans rfl
theorem cellS82_2 {W : World} {g : Nat} {A1 : Option Addr} {c1 : Nat} {f0 : ByteArray} {f1 : List (S80)} {f2 : ByteArray} {f3 : Int} (h : W.heap[g]? = some (.cells #[.string f0, .slice A1 f1.length c1, .string f2, .int .i64 f3] 82 (0, 0))) : W.cell? ⟨g, 2, none⟩ = some (.string f2) := (blk_cell h 2).trans rfl
theorem IsS82.set_2 {w0 W : World} {g : Nat} {f0 : ByteArray} {f1 : List (S80)} {f2 : ByteArray} {f3 : Int} (h : IsS82 w0 W g f0 f1 f2 f3) (x : ByteArray) : IsS82 w0 (W.setCell ⟨g, 2, none⟩ (.string x)) g f0 f1 x f3 := by
 obtain ⟨A1, c1, hb, hg, hr1⟩ := h
 exact ⟨A1, c1, by simpa using blk_set hb 2 (.string x), hg, hr1⟩
theorem cellS82_3 {W : World} {g : Nat} {A1 : Option Addr} {c1 : Nat} {f0 : ByteArray} {f1 : List (S80)} {f2 : ByteArray} {f3 : Int} (h : W.heap[g]? = some (.cells #[.string f0, .slice A1 f1.length c1, .string f2, .int .i64 f3] 82 (0, 0))) : W.cell? ⟨g, 3, none⟩ = some (.int .i64 f3) := (blk_cell h 3).trans rfl
theorem IsS82.set_3 {w0 W : World} {g : Nat} {f0 : ByteArray} {f1 : List (S80)} {f2 : ByteArray} {f3 : Int} (h : IsS82 w0 W g f0 f1 f2 f3) (x : Int) : IsS82 w0 (W.setCell ⟨g, 3, none⟩ (.int .i64 x)) g f0 f1 f2 x := by
 obtain ⟨A1, c1, hb, hg, hr1⟩ := h
 exact ⟨A1, c1, by simpa using blk_set hb 3 (.int .i64 x), hg, hr1⟩
theorem IsS82.new (w0 W : World) (A1 : Option Addr) (c1 : Nat) (f0 : ByteArray) (f1 : List (S80)) (f2 : ByteArray) (f3 : Int) (hB : Below w0.heap.size w0 W) (hr1 : Kd.C k80 w0 A1 f1.length f1) : IsS82 w0 (W.alloc (.cells #[.string f0, .slice A1 f1.length c1, .string f2, .int .i64 f3] 82)) W.heap.size f0 f1 f2 f3 := ⟨A1, c1, by simpa using heap_alloc_new W _, hB.size, hr1⟩

/-! ### qf1: function 46 -/
def qf1.f (s0_0 : ByteArray) (s0_1 : List (S80)) (s0_2 : ByteArray) (s0_3 : Int) (a1 : Int) : Option (ByteArray × ByteArray × ByteArray × Int) := if 0 ≤ a1 then (if a1 < (s0_1.length : Int) then (if 0 ≤ ((rd_T80 s0_1 a1).f2) then (if ((rd_T80 s0_1 a1).f2) ≤ (wrap64 (((rd_T80 s0_1 a1).f2) + ((rd_T80 s0_1 a1).f3))) then (if (wrap64 (((rd_T80 s0_1 a1).f2) + ((rd_T80 s0_1 a1).f3))) ≤ (s0_0.size : Int) then (some (s0_0.extract (((rd_T80 s0_1 a1).f2) : Int).toNat ((wrap64 (((rd_T80 s0_1 a1).f2) + ((rd_T80 s0_1 a1).f3))) : Int).toNat, s0_0, s0_2, s0_3)) else (none)) else (none)) else (none)) else (none)) else (none)
set_option maxHeartbeats 8000000 in
set_option maxRecDepth 100000 in
theorem qf1.calls (g : Nat) (s0_0 : ByteArray) (s0_1 : List (S80)) (s0_2 : ByteArray) (s0_3 : Int) (a1 : Int) (r1 : ByteArray) (r2 : ByteArray) (r3 : ByteArray) (r4 : Int) (w0 w : World) (hI : IsS82 w0 w g s0_0 s0_1 s0_2 s0_3) (hB : Below w0.heap.size w0 w) (h : qf1.f s0_0 s0_1 s0_2 s0_3 a1 = some (r1, r2, r3, r4)) :
  Calls Try.prog 46 #[.pointer (some ⟨g, 0, none⟩), .int .i64 a1] w fun e w' => e = .returned (.string r1) ∧ IsS82 w0 w' g r2 s0_1 r3 r4 ∧ Below w0.heap.size w0 w' ∧ KeepBut w w' g none := by
 have hu80 := Try.underlying80
 have HI0 := Aside0.mk hI
 have HK := Aside0.mk (KeepBut.refl w g none)
 have HL := Aside0.mk hB.size
 clear hI
 have HW0 := Aside0.mk hB.size
 have HB := Aside0.mk hB
 clear hB
 have H : (if 0 ≤ a1 then (if a1 < (s0_1.length : Int) then (if 0 ≤ ((rd_T80 s0_1 a1).f2) then (if ((rd_T80 s0_1 a1).f2) ≤ (wrap64 (((rd_T80 s0_1 a1).f2) + ((rd_T80 s0_1 a1).f3))) then (if (wrap64 (((rd_T80 s0_1 a1).f2) + ((rd_T80 s0_1 a1).f3))) ≤ (s0_0.size : Int) then (some (s0_0.extract (((rd_T80 s0_1 a1).f2) : Int).toNat ((wrap64 (((rd_T80 s0_1 a1).f2) + ((rd_T80 s0_1 a1).f3))) : Int).toNat, s0_0, s0_2, s0_3)) else (none)) else (none)) else (none)) else (none)) else (none)) = some (r1, r2, r3, r4) := h
 clear h
 by_cases c3 : 0 ≤ a1
 rotate_left
 ·rw [if_neg c3] at H
  exact absurd H r17_
 rw [if_pos c3] at H
 have c3b0 := decide_eq_true c3
 clear c3
 by_cases c4 : a1 < (s0_1.length : Int)
 rotate_left
 ·rw [if_neg c4] at H
  exact absurd H r17_
 rw [if_pos c4] at H
 have c4b0 := decide_eq_true c4
 clear c4
 by_cases c5 : 0 ≤ ((rd_T80 s0_1 a1).f2)
 rotate_left
 ·rw [if_neg c5] at H
  exact absurd H r17_
 rw [if_pos c5] at H
 have c5b0 := eq_true c5
 have c5b1 : decide (0 ≤ ((rd_T80 s0_1 a1).f2)) = true := decide_eq_true c5
 clear c5
 by_cases c6 : ((rd_T80 s0_1 a1).f2) ≤ (wrap64 (((rd_T80 s0_1 a1).f2) + ((rd_T80 s0_1 a1).f3)))
 rotate_left
 ·rw [if_neg c6] at H
  exact absurd H r17_
 rw [if_pos c6] at H
 have c6b0 := eq_true c6
 have c6b1 : decide (((rd_T80 s0_1 a1).f2) ≤ (wrap64 (((rd_T80 s0_1 a1).f2) + ((rd_T80 s0_1 a1).f3)))) = true := decide_eq_true c6
 by_cases c7 : (wrap64 (((rd_T80 s0_1 a1).f2) + ((rd_T80 s0_1 a1).f3))) ≤ (s0_0.size : Int)
 rotate_left
 ·rw [if_neg c7] at H
  exact absurd H r17_
 rw [if_pos c7] at H
 have c7b0 := eq_true c7
 have c7b1 : decide ((wrap64 (((rd_T80 s0_1 a1).f2) + ((rd_T80 s0_1 a1).f3))) ≤ (s0_0.size : Int)) = true := decide_eq_true c7
 simp only [Option.some.injEq, Prod.mk.injEq] at H
 obtain ⟨rfl, rfl, rfl, rfl⟩ := H
 obtain ⟨ASz8_1, cSz8_1, HGz8, hgz8, HSz8_1⟩ := HI0.out
 have hcz8_0 := cellS82_0 HGz8
 have hcz8_1 := cellS82_1 HGz8
 have hcz8_2 := cellS82_2 HGz8
 have hcz8_3 := cellS82_3 HGz8
 have hfz8_0 := blk_frozen HGz8 0
 have hfz8_2 := blk_frozen HGz8 2
 have hfz8_3 := blk_frozen HGz8 3
 clear HGz8 hgz8
 have p130 : 0 ≤ (a1 : Int) := of_decide_eq_true as_
 have q130 : a1 < (s0_1.length : Int) := of_decide_eq_true as_
 obtain ⟨ad130, e130, hx130_0, hx130_1, hx130_2, hx130_3⟩ := at_T80 HSz8_1 a1 p130 q130
 cases e130
 replace hx130_0 := pw_cell_below HB.out hx130_0
 replace hx130_1 := pw_cell_below HB.out hx130_1
 replace hx130_2 := pw_cell_below HB.out hx130_2
 replace hx130_3 := pw_cell_below HB.out hx130_3
 replace p130 := eq_true p130
 replace q130 := eq_true q130
 go_enter Try.func46, Try.ntmps46
 go_wp2_with (first | ((with_reducible refine gate_dst (N := 5) rfl ?_); refine box_event ?hg (N := 5) ?hd (cs := #[.string (⟨#[]⟩ : ByteArray), .int .u64 0, .int .i64 0, .int .i64 0]) (t := 80) ?hr ?_; (case hd => rfl); (case hg => rfl); (case hr => first | (go_simp; done) | (go_simp; rfl)); intro gb131 hg w9 hbox hb; replace HB := Aside0.mk (below_step r8_ hb); have BK131 := Aside0.mk (hbox); have GW131 := Aside0.mk ((by rw [hg]; exact (keep_size (w := w) (g := g) (row := none) r3_) : w.heap.size ≤ gb131)); have GE131 := Aside0.mk ((Nat.le_trans HW0.out (by rw [hg]; exact (keep_size (w := w) (g := g) (row := none) r3_) : w.heap.size ≤ gb131) : w0.heap.size ≤ gb131)); replace HK := Aside0.mk (KeepBut.trans r3_ (KeepBut.of_below hb g none) (.inl rfl)); have NB0_131 := Aside0.mk ((by rw [hg]; exact Nat.ne_of_lt (IsS82.lt (show IsS82 w0 _ g s0_0 s0_1 s0_2 s0_3 from by repeat (first | (with_reducible first | exact HI0.out | apply IsS82.alloc | apply IsS82.drewN | apply IsS82.drew | apply IsS82.set_0 | apply IsS82.set_2 | apply IsS82.set_3) | exact HI0.out))) : g ≠ gb131)); have NB131_0 := Aside0.mk ((by rw [hg]; exact Nat.ne_of_gt (IsS82.lt (show IsS82 w0 _ g s0_0 s0_1 s0_2 s0_3 from by repeat (first | (with_reducible first | exact HI0.out | apply IsS82.alloc | apply IsS82.drewN | apply IsS82.drew | apply IsS82.set_0 | apply IsS82.set_2 | apply IsS82.set_3) | exact HI0.out))) : gb131 ≠ g)); replace HI0 := Aside0.mk (IsS82.below r6_ hb); clear hb hbox hg; have hnb10 := NB131_0.out; have hnc10 := NB0_131.out; have hcz11_0 : w9.cell? ⟨gb131, 0, none⟩ = some (.string (⟨#[]⟩ : ByteArray)) := (blk_cell BK131.out 0).trans rfl; have hcz11_1 : w9.cell? ⟨gb131, 1, none⟩ = some (.int .u64 0) := (blk_cell BK131.out 1).trans rfl; have hcz11_2 : w9.cell? ⟨gb131, 2, none⟩ = some (.int .i64 0) := (blk_cell BK131.out 2).trans rfl; have hcz11_3 : w9.cell? ⟨gb131, 3, none⟩ = some (.int .i64 0) := (blk_cell BK131.out 3).trans rfl; have hfz11_0 := blk_frozen BK131.out 0; have hfz11_1 := blk_frozen BK131.out 1; have hfz11_2 := blk_frozen BK131.out 2; have hfz11_3 := blk_frozen BK131.out 3; obtain ⟨ASz12_1, cSz12_1, HGz12, hgz12, HSz12_1⟩ := HI0.out; have hcz12_0 := cellS82_0 HGz12; have hcz12_1 := cellS82_1 HGz12; have hcz12_2 := cellS82_2 HGz12; have hcz12_3 := cellS82_3 HGz12; have hfz12_0 := blk_frozen HGz12 0; have hfz12_2 := blk_frozen HGz12 2; have hfz12_3 := blk_frozen HGz12 3; clear HGz12 hgz12))
 repeat (go_quiet (fail); try go_wp2_with (first | ((with_reducible refine gate_dst (N := 5) rfl ?_); refine box_event ?hg (N := 5) ?hd (cs := #[.string (⟨#[]⟩ : ByteArray), .int .u64 0, .int .i64 0, .int .i64 0]) (t := 80) ?hr ?_; (case hd => rfl); (case hg => rfl); (case hr => first | (go_simp; done) | (go_simp; rfl)); intro gb131 hg w9 hbox hb; replace HB := Aside0.mk (below_step r8_ hb); have BK131 := Aside0.mk (hbox); have GW131 := Aside0.mk ((by rw [hg]; exact (keep_size (w := w) (g := g) (row := none) r3_) : w.heap.size ≤ gb131)); have GE131 := Aside0.mk ((Nat.le_trans HW0.out (by rw [hg]; exact (keep_size (w := w) (g := g) (row := none) r3_) : w.heap.size ≤ gb131) : w0.heap.size ≤ gb131)); replace HK := Aside0.mk (KeepBut.trans r3_ (KeepBut.of_below hb g none) (.inl rfl)); have NB0_131 := Aside0.mk ((by rw [hg]; exact Nat.ne_of_lt (IsS82.lt (show IsS82 w0 _ g s0_0 s0_1 s0_2 s0_3 from by repeat (first | (with_reducible first | exact HI0.out | apply IsS82.alloc | apply IsS82.drewN | apply IsS82.drew | apply IsS82.set_0 | apply IsS82.set_2 | apply IsS82.set_3) | exact HI0.out))) : g ≠ gb131)); have NB131_0 := Aside0.mk ((by rw [hg]; exact Nat.ne_of_gt (IsS82.lt (show IsS82 w0 _ g s0_0 s0_1 s0_2 s0_3 from by repeat (first | (with_reducible first | exact HI0.out | apply IsS82.alloc | apply IsS82.drewN | apply IsS82.drew | apply IsS82.set_0 | apply IsS82.set_2 | apply IsS82.set_3) | exact HI0.out))) : gb131 ≠ g)); replace HI0 := Aside0.mk (IsS82.below r6_ hb); clear hb hbox hg; have hnb10 := NB131_0.out; have hnc10 := NB0_131.out; have hcz11_0 : w9.cell? ⟨gb131, 0, none⟩ = some (.string (⟨#[]⟩ : ByteArray)) := (blk_cell BK131.out 0).trans rfl; have hcz11_1 : w9.cell? ⟨gb131, 1, none⟩ = some (.int .u64 0) := (blk_cell BK131.out 1).trans rfl; have hcz11_2 : w9.cell? ⟨gb131, 2, none⟩ = some (.int .i64 0) := (blk_cell BK131.out 2).trans rfl; have hcz11_3 : w9.cell? ⟨gb131, 3, none⟩ = some (.int .i64 0) := (blk_cell BK131.out 3).trans rfl; have hfz11_0 := blk_frozen BK131.out 0; have hfz11_1 := blk_frozen BK131.out 1; have hfz11_2 := blk_frozen BK131.out 2; have hfz11_3 := blk_frozen BK131.out 3; obtain ⟨ASz12_1, cSz12_1, HGz12, hgz12, HSz12_1⟩ := HI0.out; have hcz12_0 := cellS82_0 HGz12; have hcz12_1 := cellS82_1 HGz12; have hcz12_2 := cellS82_2 HGz12; have hcz12_3 := cellS82_3 HGz12; have hfz12_0 := blk_frozen HGz12 0; have hfz12_2 := blk_frozen HGz12 2; have hfz12_3 := blk_frozen HGz12 3; clear HGz12 hgz12)))
 go_ret
 exact ⟨rf_, by repeat (first | (with_reducible first | exact HI0.out | apply IsS82.alloc | apply IsS82.drewN | apply IsS82.drew | apply IsS82.set_0 | apply IsS82.set_2 | apply IsS82.set_3 | refine IsS82.far ?_ NB0_131.out _) | exact HI0.out), by repeat (first | (with_reducible first | exact HB.out | apply below_alloc | apply pw_below_drewN | apply below_drew1 | refine below_set ?_ (IsS82.ge HI0.out) | refine below_set ?_ GE131.out) | exact HB.out), by repeat (first | (with_reducible first | exact HK.out | apply KeepBut.set_ | apply keep_drewN | apply keep_drew | apply keep_alloc | refine keep_far ?_ GW131.out _) | exact HK.out)⟩

/-! ### qV: function 67 -/
mutual
def qV.l0 : Nat → ByteArray → Int → Int → Int → Option (Int × ByteArray × Bool)
 | 0, _, _, _, _ => none
 | k + 1, x0, x5, x11, x12 => if x12 < x11 then (if 0 ≤ x12 then (if x12 < (x0.size : Int) then (if (wrap64 (7 * x12)) ≥ 64 then (qV.j1 k x0 x5 x12 (IntKind.u64.wrap (bt x0 x12)) (wrap64 (7 * x12)) (Go.bits .andNot .u64 (IntKind.u64.wrap (bt x0 x12)) 128) x11 x12 true) else (if 0 ≤ (wrap64 (7 * x12)) then (qV.j1 k x0 x5 x12 (IntKind.u64.wrap (bt x0 x12)) (wrap64 (7 * x12)) (Go.bits .andNot .u64 (IntKind.u64.wrap (bt x0 x12)) 128) x11 x12 ((shr .u64 (shl .u64 (Go.bits .andNot .u64 (IntKind.u64.wrap (bt x0 x12)) 128) (wrap64 (7 * x12))) (wrap64 (7 * x12))) != (Go.bits .andNot .u64 (IntKind.u64.wrap (bt x0 x12)) 128))) else (none))) else (none)) else (none)) else (some (0, (⟨#[]⟩ : ByteArray), false))
def qV.j1 : Nat → ByteArray → Int → Int → Int → Int → Int → Int → Int → Bool → Option (Int × ByteArray × Bool)
 | 0, _, _, _, _, _, _, _, _, _ => none
 | k + 1, x0, x5, x6, x7, x8, x9, x11, x12, x33 => if x33 = true then (some (0, (⟨#[]⟩ : ByteArray), false)) else (if 0 ≤ x8 then (if x7 < 128 then (if x7 = 0 then (if x6 > 0 then (some (0, (⟨#[]⟩ : ByteArray), false)) else (if 0 ≤ (wrap64 (x6 + 1)) then (if (wrap64 (x6 + 1)) ≤ (x0.size : Int) then (some (Go.bits .or .u64 x5 (shl .u64 x9 x8), x0.extract ((wrap64 (x6 + 1)) : Int).toNat x0.size, true)) else (none)) else (none))) else (if 0 ≤ (wrap64 (x6 + 1)) then (if (wrap64 (x6 + 1)) ≤ (x0.size : Int) then (some (Go.bits .or .u64 x5 (shl .u64 x9 x8), x0.extract ((wrap64 (x6 + 1)) : Int).toNat x0.size, true)) else (none)) else (none))) else (qV.l0 k x0 (Go.bits .or .u64 x5 (shl .u64 x9 x8)) x11 (wrap64 (x12 + 1)))) else (none))
end
def qV.f (k : Nat) (a0 : ByteArray) : Option (Int × ByteArray × Bool) := qV.l0 k a0 0 (a0.size : Int) 0
theorem qV.mono_l : ∀ k, (∀ y0 y1 y2 y3, LeO (qV.l0 k y0 y1 y2 y3) (qV.l0 (k + 1) y0 y1 y2 y3)) ∧ (∀ y0 y1 y2 y3 y4 y5 y6 y7 y8, LeO (qV.j1 k y0 y1 y2 y3 y4 y5 y6 y7 y8) (qV.j1 (k + 1) y0 y1 y2 y3 y4 y5 y6 y7 y8))
 | 0 => ⟨fun _ _ _ _ r h => by simp [qV.l0] at h, fun _ _ _ _ _ _ _ _ _ r h => by simp [qV.j1] at h⟩
 | k + 1 => by
  obtain ⟨ih0, ih1⟩ := qV.mono_l k
  refine ⟨?_, ?_⟩
  ·intro y0 y1 y2 y3
   unfold qV.l0
   repeat' first
   | (with_reducible exact ih0 _ _ _ _)
   | (with_reducible exact ih1 _ _ _ _ _ _ _ _ _)
   | (with_reducible exact LeO.refl _)
   | (with_reducible exact LeO.none _)
   | (with_reducible refine LeO.ite ?_ ?_)
   | (with_reducible refine LeO.bind ?_ (fun _ => ?_))
   | exact ih0 _ _ _ _
   | exact ih1 _ _ _ _ _ _ _ _ _
   | exact LeO.none _
   | refine LeO.ite ?_ ?_
   | refine LeO.bind ?_ (fun _ => ?_)
  ·intro y0 y1 y2 y3 y4 y5 y6 y7 y8
   unfold qV.j1
   repeat' first
   | (with_reducible exact ih0 _ _ _ _)
   | (with_reducible exact ih1 _ _ _ _ _ _ _ _ _)
   | (with_reducible exact LeO.refl _)
   | (with_reducible exact LeO.none _)
   | (with_reducible refine LeO.ite ?_ ?_)
   | (with_reducible refine LeO.bind ?_ (fun _ => ?_))
   | exact ih0 _ _ _ _
   | exact ih1 _ _ _ _ _ _ _ _ _
   | exact LeO.none _
   | refine LeO.ite ?_ ?_
   | refine LeO.bind ?_ (fun _ => ?_)
theorem qV.mono : ∀ a0 k, LeO (qV.f k a0) (qV.f (k + 1) a0) := by
 intro a0 k
 obtain ⟨ih0, ih1⟩ := qV.mono_l k
 unfold qV.f
 repeat' first
   | (with_reducible exact ih0 _ _ _ _)
   | (with_reducible exact ih1 _ _ _ _ _ _ _ _ _)
   | (with_reducible exact LeO.refl _)
   | (with_reducible exact LeO.none _)
   | (with_reducible refine LeO.ite ?_ ?_)
   | (with_reducible refine LeO.bind ?_ (fun _ => ?_))
   | exact ih0 _ _ _ _
   | exact ih1 _ _ _ _ _ _ _ _ _
   | exact LeO.none _
   | refine LeO.ite ?_ ?_
   | refine LeO.bind ?_ (fun _ => ?_)
set_option maxHeartbeats 8000000 in
set_option maxRecDepth 100000 in
theorem qV.calls (k : Nat) (a0 : ByteArray) (r1 : Int) (r2 : ByteArray) (r3 : Bool) (w : World) (h : qV.f k a0 = some (r1, r2, r3)) :
  Calls Try.prog 67 #[.string a0] w fun e w' => e = .returned (.tuple #[.int .u64 r1, .string r2, .bool r3]) ∧ Drawn0 w w' := by
 have H : (qV.l0 k a0 0 (a0.size : Int) 0) = some (r1, r2, r3) := h
 clear h
 have H' := Aside0.mk H
 clear H
 go_enter Try.func67, Try.ntmps67
 go_wp2
 repeat (go_quiet (fail); try go_wp2)
 go_loopg [5, 12] k (fun kq v5 v12 w' => ∃ (x5_1 : Int) (x12_1 : Int), v5 = .int .u64 x5_1 ∧ v12 = .int .i64 x12_1 ∧ Aside0 (qV.l0 kq a0 x5_1 (a0.size : Int) x12_1 = some (r1, r2, r3)) ∧ Aside0 (kq ≤ k) ∧ Drawn0 w w')
 case atStart => exact ⟨(0), (0), rs_, rs_, H', ⟨Nat.le_refl _⟩, dR_⟩
 case round =>
  clear H'
  obtain ⟨x5_1, x12_1, rfl, rfl, HA, HK1, ⟨m1, rfl⟩⟩ := hrel
  cases gk with
  | zero => exact absurd HA.out (by simp [qV.l0])
  | succ k1 =>
   have H := HA.out
   clear HA
   simp only [qV.l0] at H
   by_cases c2 : x12_1 < (a0.size : Int)
   rotate_left
   ·rw [if_neg c2] at H
    have c2b0 := decide_eq_false c2
    clear c2
    simp only [Option.some.injEq, Prod.mk.injEq] at H
    obtain ⟨rfl, rfl, rfl⟩ := H
    go_wp2
    repeat (go_quiet (fail); try go_wp2)
    go_ret3
    exact ⟨rs_, dR_⟩
   rw [if_pos c2] at H
   have c2b0 := decide_eq_true c2
   clear c2
   by_cases c3 : 0 ≤ x12_1
   rotate_left
   ·rw [if_neg c3] at H
    exact absurd H r17_
   rw [if_pos c3] at H
   have c3b0 := decide_eq_true c3
   clear c3
   by_cases c4 : x12_1 < (a0.size : Int)
   rotate_left
   ·rw [if_neg c4] at H
    exact absurd H r17_
   rw [if_pos c4] at H
   have c4b0 := decide_eq_true c4
   clear c4
   have HC6 := Aside0.mk H
   clear H
   have p5 : 0 ≤ (x12_1 : Int) := of_decide_eq_true as_
   have q5 : x12_1 < (a0.size : Int) := of_decide_eq_true as_
   have hx5 := bt_at a0 x12_1
   replace p5 := eq_true p5
   replace q5 := eq_true q5
   go_upto_region 8 with (fail)
   repeat (go_quiet (fail); go_upto_region 8 with (fail))
   go_cut [33] (fun v33 wc => ∃ (kq : Nat) (x33_5 : Bool), v33 = .bool x33_5 ∧ Aside0 (qV.j1 kq a0 x5_1 x12_1 (IntKind.u64.wrap (bt a0 x12_1)) (wrap64 (7 * x12_1)) (Go.bits .andNot .u64 (IntKind.u64.wrap (bt a0 x12_1)) 128) (a0.size : Int) x12_1 x33_5 = some (r1, r2, r3)) ∧ Aside0 (kq ≤ k1) ∧ Drawn0 w wc)
   case first =>
    have H := HC6.out
    clear HC6
    by_cases c7 : (wrap64 (7 * x12_1)) ≥ 64
    ·rw [if_pos c7] at H
     have c7b0 : decide (64 ≤ (wrap64 (7 * x12_1))) = true := decide_eq_true c7
     clear c7
     (first | rw [c7b0] | (simp only [i64_w, i32_w]; rw [c7b0]) | skip)
     have H' := Aside0.mk H
     clear H
     go_wp2
     repeat (go_quiet (fail); try go_wp2)
     go_meet
     case rel => exact ⟨_, (true), rs_, hH_, ⟨by have := HK1.out; first | omega | exact Nat.le_refl _⟩, dR_⟩
    rw [if_neg c7] at H
    have c7b0 : decide (64 ≤ (wrap64 (7 * x12_1))) = false := decide_eq_false c7
    clear c7
    (first | rw [c7b0] | (simp only [i64_w, i32_w]; rw [c7b0]) | skip)
    obtain ⟨ji8, hji8⟩ : ∃ j_ : Int, (wrap64 (7 * x12_1)) = j_ := ⟨_, rfl⟩
    replace H : (if 0 ≤ (ji8) then (qV.j1 k1 a0 x5_1 x12_1 (IntKind.u64.wrap (bt a0 x12_1)) ji8 (Go.bits .andNot .u64 (IntKind.u64.wrap (bt a0 x12_1)) 128) (a0.size : Int) x12_1 ((shr .u64 (shl .u64 (Go.bits .andNot .u64 (IntKind.u64.wrap (bt a0 x12_1)) 128) (ji8)) (ji8)) != (Go.bits .andNot .u64 (IntKind.u64.wrap (bt a0 x12_1)) 128))) else (none)) = some (r1, r2, r3) := by first | (rw [hji8] at H; exact H) | (simp only [hji8] at H ⊢; exact H)
    (try rw [hji8] at c7b0)
    have hji8w : (IntKind.i64.wrap (7 * x12_1)) = ji8 := (i64_w _).trans hji8
    by_cases c9 : 0 ≤ (ji8)
    rotate_left
    ·rw [if_neg c9] at H
     exact absurd H r17_
    rw [if_pos c9] at H
    have c9b0 := eq_true c9
    have c9b1 : decide (0 ≤ (ji8)) = true := decide_eq_true c9
    clear c9
    obtain ⟨ji10, hji10⟩ : ∃ j_ : Int, (shl .u64 (Go.bits .andNot .u64 (IntKind.u64.wrap (bt a0 x12_1)) 128) (ji8)) = j_ := ⟨_, rfl⟩
    replace H : (qV.j1 k1 a0 x5_1 x12_1 (IntKind.u64.wrap (bt a0 x12_1)) ji8 (Go.bits .andNot .u64 (IntKind.u64.wrap (bt a0 x12_1)) 128) (a0.size : Int) x12_1 ((shr .u64 (ji10) (ji8)) != (Go.bits .andNot .u64 (IntKind.u64.wrap (bt a0 x12_1)) 128))) = some (r1, r2, r3) := by first | (rw [hji10] at H; exact H) | (simp only [hji10] at H ⊢; exact H)
    have hji10_ : (IntKind.u64.wrap ((Go.bits .andNot .u64 (IntKind.u64.wrap (bt a0 x12_1)) 128) * 2 ^ min (ji8).toNat 64)) = ji10 := hji10
    have hji10z : (ji8) ≤ 64 → (IntKind.u64.wrap ((Go.bits .andNot .u64 (IntKind.u64.wrap (bt a0 x12_1)) 128) * 2 ^ (ji8).toNat)) = ji10 := shl_small hji10
    have c11b0 := eq_true (of_decide_eq_true as_ : 0 ≤ (ji8))
    obtain ⟨ji12, hji12⟩ : ∃ j_ : Int, (shr .u64 (ji10) (ji8)) = j_ := ⟨_, rfl⟩
    replace H : (qV.j1 k1 a0 x5_1 x12_1 (IntKind.u64.wrap (bt a0 x12_1)) ji8 (Go.bits .andNot .u64 (IntKind.u64.wrap (bt a0 x12_1)) 128) (a0.size : Int) x12_1 ((ji12) != (Go.bits .andNot .u64 (IntKind.u64.wrap (bt a0 x12_1)) 128))) = some (r1, r2, r3) := by first | (rw [hji12] at H; exact H) | (simp only [hji12] at H ⊢; exact H)
    have hji12_ : ((ji10) / 2 ^ min (ji8).toNat 64) = ji12 := hji12
    have hji12z : (ji8) ≤ 64 → ((ji10) / 2 ^ (ji8).toNat) = ji12 := shr_small hji12
    have H' := Aside0.mk H
    clear H
    go_wp2
    repeat (go_quiet (fail); try go_wp2)
    go_meet
    case rel => exact ⟨_, (((ji12) != (Go.bits .andNot .u64 (IntKind.u64.wrap (bt a0 x12_1)) 128))), (by first | rfl | (simp; done) | (simp only [← hji12] <;> (first | rfl | simp)) | (simp [*]; done)), hH_, ⟨by have := HK1.out; first | omega | exact Nat.le_refl _⟩, dR_⟩
   case rest =>
    clear HC6
    try clear c2
    try clear c2b0
    try clear c3
    try clear c3b0
    try clear c4
    try clear c4b0
    try clear p5
    try clear q5
    try clear hx5
    try clear p5
    try clear q5
    obtain ⟨kq, x33_5, rfl, HA, HJ5, ⟨mc5, rfl⟩⟩ := hcut
    cases kq with
    | zero => exact absurd HA.out (by simp [qV.j1])
    | succ kj5 =>
     have H := HA.out
     clear HA
     simp only [qV.j1] at H
     by_cases c13 : x33_5 = true
     ·subst c13
      rw [if_pos rfl] at H
      simp only [Option.some.injEq, Prod.mk.injEq] at H
      obtain ⟨rfl, rfl, rfl⟩ := H
      go_wp2
      repeat (go_quiet (fail); try go_wp2)
      go_ret3
      exact ⟨rs_, dR_⟩
     replace c13 := Bool.eq_false_iff.mpr c13
     subst c13
     rw [if_neg ff_] at H
     obtain ⟨ji14, hji14⟩ : ∃ j_ : Int, (wrap64 (7 * x12_1)) = j_ := ⟨_, rfl⟩
     replace H : (if 0 ≤ (ji14) then (if (IntKind.u64.wrap (bt a0 x12_1)) < 128 then (if (IntKind.u64.wrap (bt a0 x12_1)) = 0 then (if x12_1 > 0 then (some (0, (⟨#[]⟩ : ByteArray), false)) else (if 0 ≤ (wrap64 (x12_1 + 1)) then (if (wrap64 (x12_1 + 1)) ≤ (a0.size : Int) then (some (Go.bits .or .u64 x5_1 (shl .u64 (Go.bits .andNot .u64 (IntKind.u64.wrap (bt a0 x12_1)) 128) (ji14)), a0.extract ((wrap64 (x12_1 + 1)) : Int).toNat a0.size, true)) else (none)) else (none))) else (if 0 ≤ (wrap64 (x12_1 + 1)) then (if (wrap64 (x12_1 + 1)) ≤ (a0.size : Int) then (some (Go.bits .or .u64 x5_1 (shl .u64 (Go.bits .andNot .u64 (IntKind.u64.wrap (bt a0 x12_1)) 128) (ji14)), a0.extract ((wrap64 (x12_1 + 1)) : Int).toNat a0.size, true)) else (none)) else (none))) else (qV.l0 kj5 a0 (Go.bits .or .u64 x5_1 (shl .u64 (Go.bits .andNot .u64 (IntKind.u64.wrap (bt a0 x12_1)) 128) (ji14))) (a0.size : Int) (wrap64 (x12_1 + 1)))) else (none)) = some (r1, r2, r3) := by first | (rw [hji14] at H; exact H) | (simp only [hji14] at H ⊢; exact H)
     (try rw [hji14])
     have hji14w : (IntKind.i64.wrap (7 * x12_1)) = ji14 := (i64_w _).trans hji14
     by_cases c15 : 0 ≤ (ji14)
     rotate_left
     ·rw [if_neg c15] at H
      exact absurd H r17_
     rw [if_pos c15] at H
     have c15b0 := eq_true c15
     have c15b1 : decide (0 ≤ (ji14)) = true := decide_eq_true c15
     clear c15
     obtain ⟨ji16, hji16⟩ : ∃ j_ : Int, (shl .u64 (Go.bits .andNot .u64 (IntKind.u64.wrap (bt a0 x12_1)) 128) (ji14)) = j_ := ⟨_, rfl⟩
     replace H : (if (IntKind.u64.wrap (bt a0 x12_1)) < 128 then (if (IntKind.u64.wrap (bt a0 x12_1)) = 0 then (if x12_1 > 0 then (some (0, (⟨#[]⟩ : ByteArray), false)) else (if 0 ≤ (wrap64 (x12_1 + 1)) then (if (wrap64 (x12_1 + 1)) ≤ (a0.size : Int) then (some (Go.bits .or .u64 x5_1 (ji16), a0.extract ((wrap64 (x12_1 + 1)) : Int).toNat a0.size, true)) else (none)) else (none))) else (if 0 ≤ (wrap64 (x12_1 + 1)) then (if (wrap64 (x12_1 + 1)) ≤ (a0.size : Int) then (some (Go.bits .or .u64 x5_1 (ji16), a0.extract ((wrap64 (x12_1 + 1)) : Int).toNat a0.size, true)) else (none)) else (none))) else (qV.l0 kj5 a0 (Go.bits .or .u64 x5_1 (ji16)) (a0.size : Int) (wrap64 (x12_1 + 1)))) = some (r1, r2, r3) := by first | (rw [hji16] at H; exact H) | (simp only [hji16] at H ⊢; exact H)
     (try rw [hji16])
     have hji16_ : (IntKind.u64.wrap ((Go.bits .andNot .u64 (IntKind.u64.wrap (bt a0 x12_1)) 128) * 2 ^ min (ji14).toNat 64)) = ji16 := hji16
     have hji16z : (ji14) ≤ 64 → (IntKind.u64.wrap ((Go.bits .andNot .u64 (IntKind.u64.wrap (bt a0 x12_1)) 128) * 2 ^ (ji14).toNat)) = ji16 := shl_small hji16
     by_cases c17 : (IntKind.u64.wrap (bt a0 x12_1)) < 128
     rotate_left
     ·rw [if_neg c17] at H
      have c17b0 := decide_eq_false c17
      clear c17
      have H' := Aside0.mk H
      clear H
      go_wp2
      repeat (go_quiet (fail); try go_wp2)
      go_roundg kj5
      case measure => have := HK1.out; have := HJ5.out; omega
      case rel => exact ⟨(Go.bits .or .u64 x5_1 (ji16)), (wrap64 (x12_1 + 1)), (by first | rfl | (simp; done) | (simp only [← hji16] <;> (first | rfl | simp)) | (simp [*]; done)), rs_, hH_, ⟨by have := HK1.out; have := HJ5.out; omega⟩, dR_⟩
     rw [if_pos c17] at H
     have c17b0 := decide_eq_true c17
     clear c17
     by_cases c18 : (IntKind.u64.wrap (bt a0 x12_1)) = 0
     rotate_left
     ·rw [if_neg c18] at H
      have c18b0 := beq_eq_false_iff_ne.mpr c18
      have c18b1 := bne_iff_ne.mpr c18
      obtain ⟨ji23, hji23⟩ : ∃ j_ : Int, (wrap64 (x12_1 + 1)) = j_ := ⟨_, rfl⟩
      replace H : (if 0 ≤ (ji23) then (if (ji23) ≤ (a0.size : Int) then (some (Go.bits .or .u64 x5_1 (ji16), a0.extract ((ji23) : Int).toNat a0.size, true)) else (none)) else (none)) = some (r1, r2, r3) := by first | (rw [hji23] at H; exact H) | (simp only [hji23] at H ⊢; exact H)
      (try rw [hji23])
      have hji23w : (IntKind.i64.wrap (x12_1 + 1)) = ji23 := (i64_w _).trans hji23
      by_cases c24 : 0 ≤ (ji23)
      rotate_left
      ·rw [if_neg c24] at H
       exact absurd H r17_
      rw [if_pos c24] at H
      have c24b0 := eq_true c24
      have c24b1 : decide (0 ≤ (ji23)) = true := decide_eq_true c24
      clear c24
      by_cases c25 : (ji23) ≤ (a0.size : Int)
      rotate_left
      ·rw [if_neg c25] at H
       exact absurd H r17_
      rw [if_pos c25] at H
      have c25b0 := eq_true c25
      have c25b1 : decide ((ji23) ≤ (a0.size : Int)) = true := decide_eq_true c25
      clear c25
      simp only [Option.some.injEq, Prod.mk.injEq] at H
      obtain ⟨rfl, rfl, rfl⟩ := H
      go_wp2
      repeat (go_quiet (fail); try go_wp2)
      go_ret3
      exact ⟨by first | rfl | (simp; done) | (simp only [← hji14, ← hji16, ← hji23] <;> (first | rfl | simp)) | (simp [*]; done), dR_⟩
     rw [if_pos c18] at H
     have c18b0 := beq_iff_eq.mpr c18
     have c18b1 := bne_eq_false_iff_eq.mpr c18
     clear c18
     by_cases c19 : x12_1 > 0
     ·rw [if_pos c19] at H
      have c19b0 : decide (0 < x12_1) = true := decide_eq_true c19
      clear c19
      simp only [Option.some.injEq, Prod.mk.injEq] at H
      obtain ⟨rfl, rfl, rfl⟩ := H
      go_wp2
      repeat (go_quiet (fail); try go_wp2)
      go_ret3
      exact ⟨by first | rfl | (simp; done) | (simp only [← hji14, ← hji16] <;> (first | rfl | simp)) | (simp [*]; done), dR_⟩
     rw [if_neg c19] at H
     have c19b0 : decide (0 < x12_1) = false := decide_eq_false c19
     clear c19
     obtain ⟨ji20, hji20⟩ : ∃ j_ : Int, (wrap64 (x12_1 + 1)) = j_ := ⟨_, rfl⟩
     replace H : (if 0 ≤ (ji20) then (if (ji20) ≤ (a0.size : Int) then (some (Go.bits .or .u64 x5_1 (ji16), a0.extract ((ji20) : Int).toNat a0.size, true)) else (none)) else (none)) = some (r1, r2, r3) := by first | (rw [hji20] at H; exact H) | (simp only [hji20] at H ⊢; exact H)
     (try rw [hji20])
     have hji20w : (IntKind.i64.wrap (x12_1 + 1)) = ji20 := (i64_w _).trans hji20
     by_cases c21 : 0 ≤ (ji20)
     rotate_left
     ·rw [if_neg c21] at H
      exact absurd H r17_
     rw [if_pos c21] at H
     have c21b0 := eq_true c21
     have c21b1 : decide (0 ≤ (ji20)) = true := decide_eq_true c21
     clear c21
     by_cases c22 : (ji20) ≤ (a0.size : Int)
     rotate_left
     ·rw [if_neg c22] at H
      exact absurd H r17_
     rw [if_pos c22] at H
     have c22b0 := eq_true c22
     have c22b1 : decide ((ji20) ≤ (a0.size : Int)) = true := decide_eq_true c22
     clear c22
     simp only [Option.some.injEq, Prod.mk.injEq] at H
     obtain ⟨rfl, rfl, rfl⟩ := H
     go_wp2
     repeat (go_quiet (fail); try go_wp2)
     go_ret3
     exact ⟨by first | rfl | (simp; done) | (simp only [← hji14, ← hji16, ← hji20] <;> (first | rfl | simp)) | (simp [*]; done), dR_⟩

/-! ### qN: function 65 -/
def qN.l0 : Nat → ByteArray → Int → Int → Option (Int × Bool)
 | 0, _, _, _ => none
 | k + 1, x0, x4, x9 => if x9 < 8 then (if 0 ≤ x9 then (if x9 < (x0.size : Int) then (qN.l0 k x0 (Go.bits .or .u64 (IntKind.u64.wrap (x4 * 256)) (IntKind.u64.wrap (bt x0 x9))) (wrap64 (x9 + 1))) else (none)) else (none)) else (some (x4, true))
def qN.f (k : Nat) (a0 : ByteArray) : Option (Int × Bool) := if (a0.size : Int) = 8 then (qN.l0 k a0 0 0) else (some (0, false))
theorem qN.mono_l : ∀ k, (∀ y0 y1 y2, LeO (qN.l0 k y0 y1 y2) (qN.l0 (k + 1) y0 y1 y2))
 | 0 => fun _ _ _ r h => by simp [qN.l0] at h
 | k + 1 => by
  have ih0 := qN.mono_l k
  ·intro y0 y1 y2
   unfold qN.l0
   repeat' first
   | (with_reducible exact ih0 _ _ _)
   | (with_reducible exact LeO.refl _)
   | (with_reducible exact LeO.none _)
   | (with_reducible refine LeO.ite ?_ ?_)
   | (with_reducible refine LeO.bind ?_ (fun _ => ?_))
   | exact ih0 _ _ _
   | exact LeO.none _
   | refine LeO.ite ?_ ?_
   | refine LeO.bind ?_ (fun _ => ?_)
theorem qN.mono : ∀ a0 k, LeO (qN.f k a0) (qN.f (k + 1) a0) := by
 intro a0 k
 have ih0 := qN.mono_l k
 unfold qN.f
 repeat' first
   | (with_reducible exact ih0 _ _ _)
   | (with_reducible exact LeO.refl _)
   | (with_reducible exact LeO.none _)
   | (with_reducible refine LeO.ite ?_ ?_)
   | (with_reducible refine LeO.bind ?_ (fun _ => ?_))
   | exact ih0 _ _ _
   | exact LeO.none _
   | refine LeO.ite ?_ ?_
   | refine LeO.bind ?_ (fun _ => ?_)
set_option maxHeartbeats 8000000 in
set_option maxRecDepth 100000 in
theorem qN.calls (k : Nat) (a0 : ByteArray) (r1 : Int) (r2 : Bool) (w : World) (h : qN.f k a0 = some (r1, r2)) :
  Calls Try.prog 65 #[.string a0] w fun e w' => e = .returned (.tuple #[.int .u64 r1, .bool r2]) ∧ Drawn0 w w' := by
 have H : (if (a0.size : Int) = 8 then (qN.l0 k a0 0 0) else (some (0, false))) = some (r1, r2) := h
 clear h
 by_cases c2 : (a0.size : Int) = 8
 rotate_left
 ·rw [if_neg c2] at H
  have c2b0 := beq_eq_false_iff_ne.mpr c2
  have c2b1 := bne_iff_ne.mpr c2
  simp only [Option.some.injEq, Prod.mk.injEq] at H
  obtain ⟨rfl, rfl⟩ := H
  go_enter Try.func65, Try.ntmps65
  go_wp2
  go_ret2
  exact ⟨rs_, dR_⟩
 rw [if_pos c2] at H
 have c2b0 := beq_iff_eq.mpr c2
 have c2b1 := bne_eq_false_iff_eq.mpr c2
 clear c2
 have H' := Aside0.mk H
 clear H
 go_enter Try.func65, Try.ntmps65
 go_wp2
 go_loopg [4, 9] k (fun kq v4 v9 w' => ∃ (x4_1 : Int) (x9_1 : Int), v4 = .int .u64 x4_1 ∧ v9 = .int .i64 x9_1 ∧ Aside0 (qN.l0 kq a0 x4_1 x9_1 = some (r1, r2)) ∧ Aside0 (kq ≤ k) ∧ Drawn0 w w')
 case atStart => exact ⟨(0), (0), rs_, rs_, H', ⟨Nat.le_refl _⟩, dR_⟩
 case round =>
  clear H'
  try clear c2
  try clear c2b0
  try clear c2b1
  obtain ⟨x4_1, x9_1, rfl, rfl, HA, HK1, ⟨m1, rfl⟩⟩ := hrel
  cases gk with
  | zero => exact absurd HA.out (by simp [qN.l0])
  | succ k1 =>
   have H := HA.out
   clear HA
   simp only [qN.l0] at H
   by_cases c3 : x9_1 < 8
   rotate_left
   ·rw [if_neg c3] at H
    have c3b0 := decide_eq_false c3
    clear c3
    simp only [Option.some.injEq, Prod.mk.injEq] at H
    obtain ⟨rfl, rfl⟩ := H
    go_wp2
    go_ret2
    exact ⟨rs_, dR_⟩
   rw [if_pos c3] at H
   have c3b0 := decide_eq_true c3
   clear c3
   by_cases c4 : 0 ≤ x9_1
   rotate_left
   ·rw [if_neg c4] at H
    exact absurd H r17_
   rw [if_pos c4] at H
   have c4b0 := decide_eq_true c4
   clear c4
   by_cases c5 : x9_1 < (a0.size : Int)
   rotate_left
   ·rw [if_neg c5] at H
    exact absurd H r17_
   rw [if_pos c5] at H
   have c5b0 := decide_eq_true c5
   clear c5
   have H' := Aside0.mk H
   clear H
   have p6 : 0 ≤ (x9_1 : Int) := of_decide_eq_true as_
   have q6 : x9_1 < (a0.size : Int) := of_decide_eq_true as_
   have hx6 := bt_at a0 x9_1
   replace p6 := eq_true p6
   replace q6 := eq_true q6
   go_wp2
   go_roundg k1
   case measure => have := HK1.out; omega
   case rel => exact ⟨(Go.bits .or .u64 (IntKind.u64.wrap (x4_1 * 256)) (IntKind.u64.wrap (bt a0 x9_1))), (wrap64 (x9_1 + 1)), rs_, rs_, hH_, ⟨by have := HK1.out; omega⟩, dR_⟩

/-! ### qk1: function 71 -/
def qk1.f (k : Nat) (a0 : ByteArray) : Option (Int) := if (a0.size : Int) < 8 then (some 0) else (if 0 ≤ (wrap64 ((a0.size : Int) - 8)) then (if (wrap64 ((a0.size : Int) - 8)) ≤ (a0.size : Int) then ((qN.f k (a0.extract ((wrap64 ((a0.size : Int) - 8)) : Int).toNat a0.size)).bind fun bt132 => (if bt132.1 < 1 then (some 0) else (if bt132.1 > 32 then (some 0) else (some (wrap64 (bt132.1)))))) else (none)) else (none))
theorem qk1.mono : ∀ a0 k, LeO (qk1.f k a0) (qk1.f (k + 1) a0) := by
 intro a0 k
 unfold qk1.f
 repeat' first
   | (with_reducible exact LeO.refl _)
   | (with_reducible exact LeO.none _)
   | (with_reducible refine LeO.ite ?_ ?_)
   | (with_reducible refine LeO.bind ?_ (fun _ => ?_))
   | exact qN.mono _ _
   | exact LeO.none _
   | refine LeO.ite ?_ ?_
   | refine LeO.bind ?_ (fun _ => ?_)
set_option maxHeartbeats 8000000 in
set_option maxRecDepth 100000 in
theorem qk1.calls (k : Nat) (a0 : ByteArray) (r : Int) (w : World) (h : qk1.f k a0 = some r) :
  Calls Try.prog 71 #[.string a0] w fun e w' => e = .returned (.int .i64 r) ∧ Drawn0 w w' := by
 have H : (if (a0.size : Int) < 8 then (some 0) else (if 0 ≤ (wrap64 ((a0.size : Int) - 8)) then (if (wrap64 ((a0.size : Int) - 8)) ≤ (a0.size : Int) then ((qN.f k (a0.extract ((wrap64 ((a0.size : Int) - 8)) : Int).toNat a0.size)).bind fun bt132 => (if bt132.1 < 1 then (some 0) else (if bt132.1 > 32 then (some 0) else (some (wrap64 (bt132.1)))))) else (none)) else (none))) = some r := h
 clear h
 by_cases c2 : (a0.size : Int) < 8
 ·rw [if_pos c2] at H
  have c2b0 := decide_eq_true c2
  have c2b1 : decide (a0.size < 8) = true := decide_eq_true r18_
  clear c2
  obtain rfl := Option.some.inj H
  go_enter Try.func71, Try.ntmps71
  go_wp2
  go_ret
  exact ⟨rs_, dR_⟩
 rw [if_neg c2] at H
 have c2b0 := decide_eq_false c2
 have c2b1 : decide (a0.size < 8) = false := decide_eq_false r18_
 clear c2
 obtain ⟨ji3, hji3⟩ : ∃ j_ : Int, (wrap64 ((a0.size : Int) - 8)) = j_ := ⟨_, rfl⟩
 replace H : (if 0 ≤ (ji3) then (if (ji3) ≤ (a0.size : Int) then ((qN.f k (a0.extract ((ji3) : Int).toNat a0.size)).bind fun bt132 => (if bt132.1 < 1 then (some 0) else (if bt132.1 > 32 then (some 0) else (some (wrap64 (bt132.1)))))) else (none)) else (none)) = some r := by first | (rw [hji3] at H; exact H) | (simp only [hji3] at H ⊢; exact H)
 (try rw [hji3])
 have hji3w : (IntKind.i64.wrap ((a0.size : Int) - 8)) = ji3 := (i64_w _).trans hji3
 by_cases c4 : 0 ≤ (ji3)
 rotate_left
 ·rw [if_neg c4] at H
  exact absurd H r17_
 rw [if_pos c4] at H
 have c4b0 := eq_true c4
 have c4b1 : decide (0 ≤ (ji3)) = true := decide_eq_true c4
 clear c4
 by_cases c5 : (ji3) ≤ (a0.size : Int)
 rotate_left
 ·rw [if_neg c5] at H
  exact absurd H r17_
 rw [if_pos c5] at H
 have c5b0 := eq_true c5
 have c5b1 : decide ((ji3) ≤ (a0.size : Int)) = true := decide_eq_true c5
 clear c5
 replace H := bs_ H
 obtain ⟨⟨t132, t133⟩, A60, H⟩ := H
 try dsimp only at H
 have A6 := Aside0.mk A60
 clear A60
 by_cases c7 : t132 < 1
 ·rw [if_pos c7] at H
  have c7b0 := decide_eq_true c7
  clear c7
  obtain rfl := Option.some.inj H
  go_enter Try.func71, Try.ntmps71
  go_wp2_with (first | ((with_reducible refine gate_callee (f := 65) rfl ?_); refine goesL_ (some 14) rfl rfl Try.func65 r2_ rfl #[.string (a0.extract ((ji3) : Int).toNat a0.size)] rfl r12_ ?_; (with_reducible refine (qN.calls k (a0.extract ((ji3) : Int).toNat a0.size) t132 t133 _ A6.out).mono ?_); rintro e w' ⟨rfl, ⟨nd, rfl⟩⟩; refine ⟨_, rfl, ?_⟩))
  go_ret
  exact ⟨by first | rfl | (simp; done) | (simp only [← hji3] <;> (first | rfl | simp)) | (simp [*]; done), dR_⟩
 rw [if_neg c7] at H
 have c7b0 := decide_eq_false c7
 clear c7
 by_cases c8 : t132 > 32
 ·rw [if_pos c8] at H
  have c8b0 : decide (32 < t132) = true := decide_eq_true c8
  clear c8
  obtain rfl := Option.some.inj H
  go_enter Try.func71, Try.ntmps71
  go_wp2_with (first | ((with_reducible refine gate_callee (f := 65) rfl ?_); refine goesL_ (some 14) rfl rfl Try.func65 r2_ rfl #[.string (a0.extract ((ji3) : Int).toNat a0.size)] rfl r12_ ?_; (with_reducible refine (qN.calls k (a0.extract ((ji3) : Int).toNat a0.size) t132 t133 _ A6.out).mono ?_); rintro e w' ⟨rfl, ⟨nd, rfl⟩⟩; refine ⟨_, rfl, ?_⟩))
  go_ret
  exact ⟨by first | rfl | (simp; done) | (simp only [← hji3] <;> (first | rfl | simp)) | (simp [*]; done), dR_⟩
 rw [if_neg c8] at H
 have c8b0 : decide (32 < t132) = false := decide_eq_false c8
 clear c8
 obtain rfl := Option.some.inj H
 go_enter Try.func71, Try.ntmps71
 go_wp2_with (first | ((with_reducible refine gate_callee (f := 65) rfl ?_); refine goesL_ (some 14) rfl rfl Try.func65 r2_ rfl #[.string (a0.extract ((ji3) : Int).toNat a0.size)] rfl r12_ ?_; (with_reducible refine (qN.calls k (a0.extract ((ji3) : Int).toNat a0.size) t132 t133 _ A6.out).mono ?_); rintro e w' ⟨rfl, ⟨nd, rfl⟩⟩; refine ⟨_, rfl, ?_⟩))
 go_ret
 exact ⟨by first | rfl | (simp; done) | (simp only [← hji3] <;> (first | rfl | simp)) | (simp [*]; done), dR_⟩

-- NOT PRINTED: function 89 (block_cursor_number)

-- NOT PRINTED: function 90 (block_cursor_text)

-- NOT PRINTED: function 76 (block_reader_next)

end Go.Proofs.Ytgdkikkjaofbfaa.P
