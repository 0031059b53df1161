-- Printed by a program of this session's own (wip/tools/pprint.sh, over the kit's print, with given contracts): not typed by hand.
import Derived.Test.YtcdadhgcjkgnoaaPx0
namespace Go.Proofs.Ytcdadhgcjkgnoaa.P
open Go.RowKit Go.Proofs.YtcdadhgcjkgnoaaW.PrintWords Go.Proofs.YtcdadhgcjkgnoaaW.PrintLast Go.Proofs.YtcdadhgcjkgnoaaW.PrintMore
set_option linter.unusedVariables false
set_option linter.unusedSimpArgs false
-- SQUEEZED3

/-! ### gc_rises: function 28 -/
def gc_rises.l0 : Nat → List (S47) → Int → Option (Bool)
 | 0, _, _ => none
 | k + 1, x0, x3 => if x3 < (x0.length : Int) then (if 0 ≤ (wrap64 (x3 - 1)) then (if (wrap64 (x3 - 1)) < (x0.length : Int) then (if 0 ≤ x3 then (if ((Op.bytesLess (((rd_T47 x0 (wrap64 (x3 - 1))).f0).toList) (((rd_T47 x0 x3).f0).toList)) = true) then (gc_rises.l0 k x0 (wrap64 (x3 + 1))) else (some false)) else (none)) else (none)) else (none)) else (some true)
def gc_rises.f (k : Nat) (l0 : List (S47)) : Option (Bool) := gc_rises.l0 k l0 1
theorem gc_rises.mono_l : ∀ k, (∀ y0 y1, LeO (gc_rises.l0 k y0 y1) (gc_rises.l0 (k + 1) y0 y1))
 | 0 => fun _ _ r h => by simp [gc_rises.l0] at h
 | k + 1 => by
  have ih0 := gc_rises.mono_l k
  ·intro y0 y1
   unfold gc_rises.l0
   repeat' first
   | (with_reducible exact ih0 _ _)
   | (with_reducible exact LeO.refl _)
   | (with_reducible exact LeO.none _)
   | (with_reducible refine LeO.ite ?_ ?_)
   | (with_reducible refine LeO.bind ?_ (fun _ => ?_))
   | exact ih0 _ _
   | exact LeO.none _
   | refine LeO.ite ?_ ?_
   | refine LeO.bind ?_ (fun _ => ?_)
theorem gc_rises.mono : ∀ a0 k, LeO (gc_rises.f k a0) (gc_rises.f (k + 1) a0) := by
 intro a0 k
 have ih0 := gc_rises.mono_l k
 unfold gc_rises.f
 repeat' first
   | (with_reducible exact ih0 _ _)
   | (with_reducible exact LeO.refl _)
   | (with_reducible exact LeO.none _)
   | (with_reducible refine LeO.ite ?_ ?_)
   | (with_reducible refine LeO.bind ?_ (fun _ => ?_))
   | exact ih0 _ _
   | exact LeO.none _
   | refine LeO.ite ?_ ?_
   | refine LeO.bind ?_ (fun _ => ?_)
set_option maxHeartbeats 8000000 in
set_option maxRecDepth 100000 in
theorem gc_rises.calls (k : Nat) (A0 : Option Addr) (c0 : Nat) (l0 : List (S47)) (r : Bool) (w : World) (hr0 : Kd.C k47 w A0 l0.length l0) (hc0 : l0.length ≤ c0) (h : gc_rises.f k l0 = some r) :
  Calls Try.prog 28 #[.slice A0 l0.length c0] w fun e w' => e = .returned (.bool r) ∧ Drawn0 w w' := by
 have HR0 := Aside0.mk hr0
 have HC0 := Aside0.mk hc0
 clear hr0 hc0
 have H : (gc_rises.l0 k l0 1) = some r := h
 clear h
 have H' := Aside0.mk H
 clear H
 go_enter Try.func28, Try.ntmps28
 go_wp2
 repeat (go_quiet (fail); try go_wp2)
 go_loopg [3] k (fun kq v3 w' => ∃ (x3_1 : Int), v3 = .int .i64 x3_1 ∧ Aside0 (gc_rises.l0 kq l0 x3_1 = some r) ∧ Aside0 (kq ≤ k) ∧ Drawn0 w w')
 case atStart => exact ⟨(1), rs_, H', ⟨Nat.le_refl _⟩, dR_⟩
 case round =>
  clear H'
  obtain ⟨x3_1, rfl, HA, HK1, ⟨m1, rfl⟩⟩ := hrel
  cases gk with
  | zero => exact absurd HA.out (by simp [gc_rises.l0])
  | succ k1 =>
   have H := HA.out
   clear HA
   simp only [gc_rises.l0] at H
   by_cases c2 : x3_1 < (l0.length : Int)
   rotate_left
   ·rw [if_neg c2] at H
    have c2b0 := decide_eq_false c2
    clear c2
    obtain rfl := Option.some.inj H
    go_wp2
    repeat (go_quiet (fail); try go_wp2)
    go_ret
    exact ⟨rs_, dR_⟩
   rw [if_pos c2] at H
   have c2b0 := decide_eq_true c2
   clear c2
   obtain ⟨ji3, hji3⟩ : ∃ j_ : Int, (wrap64 (x3_1 - 1)) = j_ := ⟨_, rfl⟩
   replace H : (if 0 ≤ (ji3) then (if (ji3) < (l0.length : Int) then (if 0 ≤ x3_1 then (if ((Op.bytesLess (((rd_T47 l0 (ji3)).f0).toList) (((rd_T47 l0 x3_1).f0).toList)) = true) then (gc_rises.l0 k1 l0 (wrap64 (x3_1 + 1))) else (some false)) else (none)) else (none)) else (none)) = some r := by first | (rw [hji3] at H; exact H) | (simp only [hji3] at H ⊢; exact H)
   (try rw [hji3])
   have hji3w : (IntKind.i64.wrap (x3_1 - 1)) = ji3 := (i64_w _).trans hji3
   by_cases c4 : 0 ≤ (ji3)
   rotate_left
   ·rw [if_neg c4] at H
    exact absurd H r34_
   rw [if_pos c4] at H
   have c4b0 := decide_eq_true c4
   clear c4
   by_cases c5 : (ji3) < (l0.length : Int)
   rotate_left
   ·rw [if_neg c5] at H
    exact absurd H r34_
   rw [if_pos c5] at H
   have c5b0 := decide_eq_true c5
   clear c5
   by_cases c6 : 0 ≤ x3_1
   rotate_left
   ·rw [if_neg c6] at H
    exact absurd H r34_
   rw [if_pos c6] at H
   have c6b0 := decide_eq_true c6
   clear c6
   by_cases c7 : ((Op.bytesLess (((rd_T47 l0 (ji3)).f0).toList) (((rd_T47 l0 x3_1).f0).toList)) = true)
   rotate_left
   ·rw [if_neg c7] at H
    have c7b0 : (Op.bytesLess (((rd_T47 l0 (ji3)).f0).toList) (((rd_T47 l0 x3_1).f0).toList)) = false := by simpa using c7
    clear c7
    obtain rfl := Option.some.inj H
    have p101 : 0 ≤ ((ji3) : Int) := of_decide_eq_true as_
    have q101 : (ji3) < (l0.length : Int) := of_decide_eq_true as_
    obtain ⟨ad101, e101, hx101_0, hx101_1, hx101_2, hx101_3⟩ := at_T47 HR0.out (ji3) p101 q101
    cases e101
    replace p101 := eq_true p101
    replace q101 := eq_true q101
    have p102 : 0 ≤ (x3_1 : Int) := of_decide_eq_true as_
    have q102 : x3_1 < (l0.length : Int) := of_decide_eq_true as_
    obtain ⟨ad102, e102, hx102_0, hx102_1, hx102_2, hx102_3⟩ := at_T47 HR0.out x3_1 p102 q102
    obtain rfl : ad101 = ad102 := (by injection e102)
    replace p102 := eq_true p102
    replace q102 := eq_true q102
    go_wp2
    repeat (go_quiet (fail); try go_wp2)
    go_ret
    exact ⟨by first | rfl | (simp; done) | (simp only [← hji3] <;> (first | rfl | simp)) | (simp [*]; done), dR_⟩
   rw [if_pos c7] at H
   have c7b0 : (Op.bytesLess (((rd_T47 l0 (ji3)).f0).toList) (((rd_T47 l0 x3_1).f0).toList)) = true := c7
   clear c7
   have H' := Aside0.mk H
   clear H
   have p101 : 0 ≤ ((ji3) : Int) := of_decide_eq_true as_
   have q101 : (ji3) < (l0.length : Int) := of_decide_eq_true as_
   obtain ⟨ad101, e101, hx101_0, hx101_1, hx101_2, hx101_3⟩ := at_T47 HR0.out (ji3) p101 q101
   cases e101
   replace p101 := eq_true p101
   replace q101 := eq_true q101
   have p102 : 0 ≤ (x3_1 : Int) := of_decide_eq_true as_
   have q102 : x3_1 < (l0.length : Int) := of_decide_eq_true as_
   obtain ⟨ad102, e102, hx102_0, hx102_1, hx102_2, hx102_3⟩ := at_T47 HR0.out x3_1 p102 q102
   obtain rfl : ad101 = ad102 := (by injection e102)
   replace p102 := eq_true p102
   replace q102 := eq_true q102
   go_wp2
   repeat (go_quiet (fail); try go_wp2)
   go_roundg k1
   case measure => have := HK1.out; omega
   case rel => exact ⟨(wrap64 (x3_1 + 1)), rs_, hH_, ⟨by have := HK1.out; omega⟩, dR_⟩

/-! ### key_family: function 51 -/
def key_family.f (a0 : Int) : Option (Bool) := if a0 ≥ 1 then (some (decide (a0 ≤ 4))) else (some false)
set_option maxHeartbeats 8000000 in
set_option maxRecDepth 100000 in
theorem key_family.calls (a0 : Int) (r : Bool) (w : World) (h : key_family.f a0 = some r) :
  Calls Try.prog 51 #[.int .i64 a0] w fun e w' => e = .returned (.bool r) ∧ Drawn0 w w' := by
 have H : (if a0 ≥ 1 then (some (decide (a0 ≤ 4))) else (some false)) = some r := h
 clear h
 by_cases c2 : a0 ≥ 1
 ·rw [if_pos c2] at H
  have c2b0 : decide (1 ≤ a0) = true := decide_eq_true c2
  clear c2
  obtain rfl := Option.some.inj H
  go_enter Try.func51, Try.ntmps51
  go_wp2
  go_ret
  exact ⟨rs_, dR_⟩
 rw [if_neg c2] at H
 have c2b0 : decide (1 ≤ a0) = false := decide_eq_false c2
 clear c2
 obtain rfl := Option.some.inj H
 go_enter Try.func51, Try.ntmps51
 go_wp2
 go_ret
 exact ⟨rs_, dR_⟩

-- NOT PRINTED: function 75 (abi_NoEscape)

-- NOT PRINTED: function 72 (strings_Builder_copyCheck)

-- NOT PRINTED: function 63 (strings_Builder_WriteByte)

/-! ### key_May: function 64 -/
def key_May.f (a0 : ByteArray) : Option (Bool) := if a0.toList = ([] : List UInt8) then (some false) else (some (decide ((a0.size : Int) ≤ 24)))
set_option maxHeartbeats 8000000 in
set_option maxRecDepth 100000 in
theorem key_May.calls (a0 : ByteArray) (r : Bool) (w : World) (h : key_May.f a0 = some r) :
  Calls Try.prog 64 #[.string a0] w fun e w' => e = .returned (.bool r) ∧ Drawn0 w w' := by
 have H : (if a0.toList = ([] : List UInt8) then (some false) else (some (decide ((a0.size : Int) ≤ 24)))) = some r := h
 clear h
 by_cases c2 : a0.toList = ([] : List UInt8)
 rotate_left
 ·rw [if_neg c2] at H
  have c2b0 := beq_eq_false_iff_ne.mpr c2
  have c2b1 := bne_iff_ne.mpr c2
  obtain rfl := Option.some.inj H
  go_enter Try.func64, Try.ntmps64
  go_wp2
  go_ret
  exact ⟨rs_, dR_⟩
 rw [if_pos c2] at H
 have c2b0 := beq_iff_eq.mpr c2
 have c2b1 := bne_eq_false_iff_eq.mpr c2
 clear c2
 obtain rfl := Option.some.inj H
 go_enter Try.func64, Try.ntmps64
 go_wp2
 go_ret
 exact ⟨rs_, dR_⟩

-- NOT PRINTED: function 65 (strings_Builder_String)

/-! ### key_Unescape: function 52 -/
def key_Unescape.res : Option (List UInt8 × List UInt8) → ByteArray × ByteArray × Int
 | some (u, r) => (Th.lb u, Th.lb r, 0)
 | none => (⟨#[]⟩, ⟨#[]⟩, 2)
def key_Unescape.f (a0 : ByteArray) : Option (ByteArray × ByteArray × Int) := if a0.size ≤ 140737488351232 then some (key_Unescape.res (KeyT.une [] (Th.bl a0))) else none
theorem key_Unescape.may_some (u : List UInt8) : key_May.f ⟨u.toArray⟩ = some (KeyT.mayK u) := by
 have hs : (⟨u.toArray⟩ : ByteArray).size = u.length := by simp [ByteArray.size]
 unfold key_May.f KeyT.mayK
 rw [hs, show (⟨u.toArray⟩ : ByteArray).toList = u from Th.lb_toList u]
 by_cases h : u = []
 ·subst h; rfl
 have : 0 < u.length := List.length_pos_iff.2 h
 rw [if_neg h]
 congr 1
 rw [Bool.eq_iff_iff]
 simp only [decide_eq_true_eq]
 omega
set_option maxHeartbeats 3200000 in
theorem key_Unescape.calls (a0 : ByteArray) (r1 : ByteArray) (r2 : ByteArray) (r3 : Int) (w : World) (h : key_Unescape.f a0 = some (r1, r2, r3)) :
  Calls Try.prog 52 #[.string a0] w fun e w' => e = .returned (.tuple #[.string r1, .string r2, .int .i64 r3]) ∧ Below w.heap.size w w' := by
 unfold key_Unescape.f at h
 by_cases hsz : a0.size ≤ 140737488351232
 case neg => rw [if_neg hsz] at h; exact absurd h r34_
 rw [if_pos hsz] at h
 simp only [Option.some.injEq] at h
 have hlb : (Th.bl a0).length = a0.size := by unfold Th.bl; rw [Array.length_toList]; rfl
 have hgi : ∀ (i : Nat) (hi : i < a0.size), (Th.bl a0).drop i = a0[i] :: (Th.bl a0).drop (i + 1) := by
  intro i hi
  rw [List.drop_eq_getElem_cons (by rw [hlb]; exact hi)]
  rfl
 have HGI := Lib.hid hgi
 have HLB := Lib.hid hlb
 have HR := Lib.hid h
 have HSZ := Lib.hid hsz
 clear hgi hlb h
 have h0 : (Th.bl a0).drop 0 = Th.bl a0 := rfl
 have HU0 : Aside0 (key_Unescape.res (KeyT.une [] ((Th.bl a0).drop 0)) = (r1, r2, r3)) := ⟨by rw [h0]; exact HR.out⟩
 clear HR h0
 go_enter Try.func52, Try.ntmps52
 go_wp2
 have HS : Aside0 (Buf.Has w.heap.size w.heap.size [] (w.alloc (.cells #[.pointer none, .slice none 0 0] 111))) := ⟨Buf.fresh w⟩
 have HB : Aside0 (Below w.heap.size w (w.alloc (.cells #[.pointer none, .slice none 0 0] 111))) := ⟨below_alloc (Below.refl _ _) _⟩
 generalize hw2 : (w.alloc (.cells #[.pointer none, .slice none 0 0] 111)) = w2 at HS HB ⊢
 clear hw2
 generalize hB0 : w.heap.size = B0 at HS HB ⊢
 have HB0 := Lib.hid hB0
 clear hB0
 go_loopg [6] a0.size (fun kq v6 w' => ∃ (i : Nat) (acc : List UInt8), v6 = .int .i64 (i : Int) ∧ Aside0 (kq + i = a0.size) ∧ Aside0 (acc.length ≤ i) ∧ Aside0 (key_Unescape.res (KeyT.une acc ((Th.bl a0).drop i)) = (r1, r2, r3)) ∧ Aside0 (Buf.Has B0 B0 acc w') ∧ Aside0 (Below B0 w w'))
 case atStart => exact ⟨0, [], rfl, ⟨r37_⟩, ⟨r34_⟩, HU0, HS, HB⟩
 case round =>
  clear HS HB HU0
  obtain ⟨i, acc, rfl, HI, HA, HU, HS, HB⟩ := hrel
  by_cases hlt : i < a0.size
  rotate_left
  ·have HD := Lib.hid (show (Th.bl a0).drop i = [] from List.drop_eq_nil_of_le (by rw [HLB.out]; omega))
   go_wp2
   have hU := HU.out
   rw [HD.out] at hU
   simp only [KeyT.une, key_Unescape.res, Prod.mk.injEq] at hU
   obtain ⟨rfl, rfl, rfl⟩ := hU
   go_ret3
   exact ⟨rfl, by rw [HB0.out]; exact HB.out⟩
  have hkg : ∃ k1, gk = k1 + 1 := ⟨gk - 1, by have := HI.out; omega⟩
  obtain ⟨k1, rfl⟩ := hkg
  have HD := Lib.hid (HGI.out i hlt)
  by_cases hz : a0[i] = 0
  rotate_left
  ·have hz1 : ((a0[i].toNat : Int) != 0) = true := by
    rw [bne_iff_ne]; intro e; apply hz; apply UInt8.toNat_inj.1; have : a0[i].toNat = 0 := by omega
    rw [this]; rfl
   have HZ := Lib.hid hz
   clear hz
   go_wp2_with (go_at_call 63; (refine (Buf.wroteInt B0 B0 acc _ a0[i] rfl _ HS.out (by have := HA.out; have := HSZ.out; omega)).mono ?_); rintro e w3 ⟨rfl, hs, hb, _⟩; have HS3 := Aside0.mk hs; have HB3 := Aside0.mk (HB.out.trans hb); clear HS HB hs hb)
   go_roundg k1
   case measure => omega
   case rel =>
    refine ⟨i + 1, acc ++ [a0[i]], by first | rfl | (simp; omega), ⟨by have := HI.out; omega⟩, ⟨by have := HA.out; simp; omega⟩, ⟨?_⟩, HS3, HB3⟩
    have hU := HU.out
    rw [HD.out, KeyT.une_cons _ _ HZ.out] at hU
    exact hU
  have hz1 : ((a0[i].toNat : Int) != 0) = false := by rw [hz]; rfl
  have HZ := Lib.hid hz
  clear hz
  by_cases hl2 : i + 1 < a0.size
  rotate_left
  ·have hl3 : decide ((i : Int) + 1 < (a0.size : Int)) = false := decide_eq_false r37_
   have HD2 := Lib.hid (show (Th.bl a0).drop (i + 1) = [] from List.drop_eq_nil_of_le (by rw [HLB.out]; omega))
   go_wp2
   have hU := HU.out
   rw [HD.out, HD2.out] at hU
   simp only [KeyT.une, key_Unescape.res, Prod.mk.injEq] at hU
   obtain ⟨rfl, rfl, rfl⟩ := hU
   go_ret3
   exact ⟨rfl, by rw [HB0.out]; exact HB.out⟩
  have HD2 := Lib.hid (HGI.out (i + 1) hl2)
  have hl3 : (i : Int) + 1 < (a0.size : Int) := by omega
  by_cases h255 : a0[i + 1] = 255
  ·have hq1 : ((a0[i + 1].toNat : Int) == 255) = true := by rw [h255]; rfl
   have HQ := Lib.hid h255
   clear h255
   go_wp2_with (go_at_call 63; (refine (Buf.wroteInt B0 B0 acc _ 0 rfl _ HS.out (by have := HA.out; have := HSZ.out; omega)).mono ?_); rintro e w3 ⟨rfl, hs, hb, _⟩; have HS3 := Aside0.mk hs; have HB3 := Aside0.mk (HB.out.trans hb); clear HS HB hs hb)
   go_roundg (k1 - 1)
   case measure => omega
   case rel =>
    refine ⟨i + 2, acc ++ [0], by first | rfl | (simp; omega), ⟨by have := HI.out; omega⟩, ⟨by have := HA.out; simp; omega⟩, ⟨?_⟩, HS3, HB3⟩
    have hU := HU.out
    rw [HD.out, HD2.out, HZ.out, HQ.out, KeyT.une_zero] at hU
    exact hU
  have hq1 : ((a0[i + 1].toNat : Int) == 255) = false := by
   rw [beq_eq_false_iff_ne]; intro e; apply h255; apply UInt8.toNat_inj.1; have : a0[i + 1].toNat = 255 := by omega
   rw [this]; rfl
  have HQ := Lib.hid h255
  clear h255
  by_cases h1 : a0[i + 1] = 1
  rotate_left
  ·have hq2 : ((a0[i + 1].toNat : Int) == 1) = false := by
    rw [beq_eq_false_iff_ne]; intro e; apply h1; apply UInt8.toNat_inj.1; have : a0[i + 1].toNat = 1 := by omega
    rw [this]; rfl
   have HQ1 := Lib.hid h1
   clear h1
   go_wp2
   have hU := HU.out
   rw [HD.out, HD2.out, HZ.out, KeyT.une_bad _ _ HQ.out (fun e => HQ1.out e.1)] at hU
   simp only [key_Unescape.res, Prod.mk.injEq] at hU
   obtain ⟨rfl, rfl, rfl⟩ := hU
   go_ret3
   exact ⟨rfl, by rw [HB0.out]; exact HB.out⟩
  have hq2 : ((a0[i + 1].toNat : Int) == 1) = true := by rw [h1]; rfl
  have HQ1 := Lib.hid h1
  clear h1
  by_cases hm : KeyT.mayK acc = true
  rotate_left
  ·have HM := Lib.hid (key_Unescape.may_some acc)
   have hm2 : KeyT.mayK acc = false := by simpa using hm
   have HMM := Lib.hid hm2
   clear hm hm2
   go_wp2_with (first
    | (go_at_call 65; (refine (Buf.read B0 B0 acc _ HS.out).mono ?_); rintro e w3 ⟨rfl, hs, hb, _⟩; have HS3 := Aside0.mk hs; have HB3 := Aside0.mk (HB.out.trans hb); clear HS HB hs hb)
    | (go_at_call 64; (refine (key_May.calls ⟨acc.toArray⟩ false _ (by rw [HM.out, HMM.out])).mono ?_); rintro e w4 ⟨rfl, hd⟩; have HB4 := Aside0.mk (HB3.out.trans (hd.below.mono (Buf.has_size HS3.out))); clear hd HS3 HB3))
   have hU := HU.out
   rw [HD.out, HD2.out, HZ.out, KeyT.une_bad _ _ HQ.out (by rw [HMM.out]; simp)] at hU
   simp only [key_Unescape.res, Prod.mk.injEq] at hU
   obtain ⟨rfl, rfl, rfl⟩ := hU
   go_ret3
   exact ⟨rfl, by rw [HB0.out]; exact HB4.out⟩
  have HM := Lib.hid (key_Unescape.may_some acc)
  have HMM := Lib.hid hm
  clear hm
  go_wp2_with (first
   | (go_at_call 65; (refine (Buf.read B0 B0 acc _ HS.out).mono ?_); rintro e w3 ⟨rfl, hs, hb, _⟩; have HS3 := Aside0.mk hs; have HB3 := Aside0.mk (HB.out.trans hb); clear HS HB hs hb)
   | (go_at_call 64; (refine (key_May.calls ⟨acc.toArray⟩ true _ (by rw [HM.out, HMM.out])).mono ?_); rintro e w4 ⟨rfl, hd⟩; have HS4 := Aside0.mk (Buf.has_below HS3.out hd.below); have HB4 := Aside0.mk (HB3.out.trans (hd.below.mono (Buf.has_size HS3.out))); clear hd HS3 HB3))
  have hsz2 := HSZ.out
  have g1 : IntKind.i64.wrap ((i : Int) + 1 + 1) = (i : Int) + 1 + 1 := IntWalk.i64_in _ ⟨r37_, r37_⟩
  have g2 : 0 ≤ (i : Int) + 1 + 1 := by omega
  have g3 : ((i : Int) + 1 + 1).toNat = i + 2 := by omega
  have g4 : (i : Int) + 1 + 1 ≤ (a0.size : Int) := by omega
  have g5 : i + 2 ≤ a0.size := by omega
  go_region_with (go_at_call 65; refine (Buf.read B0 B0 acc _ ?_).mono ?_; exact HS4.out; rintro e w5 ⟨rfl, hs, hb, _⟩; have HB5 := Aside0.mk (HB4.out.drew.trans hb); clear HS4 HB4 hs hb)
  all_goals
   go_wp2
   have hU := HU.out
   rw [HD.out, HD2.out, HZ.out, HQ1.out, KeyT.une_end _ _ HMM.out] at hU
   simp only [key_Unescape.res, Prod.mk.injEq] at hU
   obtain ⟨rfl, rfl, rfl⟩ := hU
   have hex : a0.extract (i + 2) a0.size = Th.lb ((Th.bl a0).drop (i + 2)) := by
    have e := Th.lb_extract (Th.bl a0) (i + 2) a0.size
    rw [Th.lb_bl] at e
    rw [e, List.take_of_length_le (by rw [HLB.out]; omega)]
   go_ret3
   exact ⟨by rw [← hex]; rfl, by rw [HB0.out]; exact HB5.out⟩

/-! ### num_Unlong: function 66 -/
def num_Unlong.l0 : Nat → ByteArray → Int → Int → Option (Int × Bool)
 | 0, _, _, _ => none
 | k + 1, x0, x4, x9 => if x9 < 8 then (if 0 ≤ x9 then (if x9 < (x0.size : Int) then (num_Unlong.l0 k x0 (Go.bits .or .u64 (IntKind.u64.wrap (x4 * 256)) (IntKind.u64.wrap (bt x0 x9))) (wrap64 (x9 + 1))) else (none)) else (none)) else (some (x4, true))
def num_Unlong.f (k : Nat) (a0 : ByteArray) : Option (Int × Bool) := if (a0.size : Int) = 8 then (num_Unlong.l0 k a0 0 0) else (some (0, false))
theorem num_Unlong.mono_l : ∀ k, (∀ y0 y1 y2, LeO (num_Unlong.l0 k y0 y1 y2) (num_Unlong.l0 (k + 1) y0 y1 y2))
 | 0 => fun _ _ _ r h => by simp [num_Unlong.l0] at h
 | k + 1 => by
  have ih0 := num_Unlong.mono_l k
  ·intro y0 y1 y2
   unfold num_Unlong.l0
   repeat' first
   | (with_reducible exact ih0 _ _ _)
   | (with_reducible exact LeO.refl _)
   | (with_reducible exact LeO.none _)
   | (with_reducible refine LeO.ite ?_ ?_)
   | (with_reducible refine LeO.bind ?_ (fun _ => ?_))
   | exact ih0 _ _ _
   | exact LeO.none _
   | refine LeO.ite ?_ ?_
   | refine LeO.bind ?_ (fun _ => ?_)
theorem num_Unlong.mono : ∀ a0 k, LeO (num_Unlong.f k a0) (num_Unlong.f (k + 1) a0) := by
 intro a0 k
 have ih0 := num_Unlong.mono_l k
 unfold num_Unlong.f
 repeat' first
   | (with_reducible exact ih0 _ _ _)
   | (with_reducible exact LeO.refl _)
   | (with_reducible exact LeO.none _)
   | (with_reducible refine LeO.ite ?_ ?_)
   | (with_reducible refine LeO.bind ?_ (fun _ => ?_))
   | exact ih0 _ _ _
   | exact LeO.none _
   | refine LeO.ite ?_ ?_
   | refine LeO.bind ?_ (fun _ => ?_)
set_option maxHeartbeats 8000000 in
set_option maxRecDepth 100000 in
theorem num_Unlong.calls (k : Nat) (a0 : ByteArray) (r1 : Int) (r2 : Bool) (w : World) (h : num_Unlong.f k a0 = some (r1, r2)) :
  Calls Try.prog 66 #[.string a0] w fun e w' => e = .returned (.tuple #[.int .u64 r1, .bool r2]) ∧ Drawn0 w w' := by
 have H : (if (a0.size : Int) = 8 then (num_Unlong.l0 k a0 0 0) else (some (0, false))) = some (r1, r2) := h
 clear h
 by_cases c2 : (a0.size : Int) = 8
 rotate_left
 ·rw [if_neg c2] at H
  have c2b0 := beq_eq_false_iff_ne.mpr c2
  have c2b1 := bne_iff_ne.mpr c2
  simp only [Option.some.injEq, Prod.mk.injEq] at H
  obtain ⟨rfl, rfl⟩ := H
  go_enter Try.func66, Try.ntmps66
  go_wp2
  go_ret2
  exact ⟨rs_, dR_⟩
 rw [if_pos c2] at H
 have c2b0 := beq_iff_eq.mpr c2
 have c2b1 := bne_eq_false_iff_eq.mpr c2
 clear c2
 have H' := Aside0.mk H
 clear H
 go_enter Try.func66, Try.ntmps66
 go_wp2
 go_loopg [4, 9] k (fun kq v4 v9 w' => ∃ (x4_1 : Int) (x9_1 : Int), v4 = .int .u64 x4_1 ∧ v9 = .int .i64 x9_1 ∧ Aside0 (num_Unlong.l0 kq a0 x4_1 x9_1 = some (r1, r2)) ∧ Aside0 (kq ≤ k) ∧ Drawn0 w w')
 case atStart => exact ⟨(0), (0), rs_, rs_, H', ⟨Nat.le_refl _⟩, dR_⟩
 case round =>
  clear H'
  try clear c2
  try clear c2b0
  try clear c2b1
  obtain ⟨x4_1, x9_1, rfl, rfl, HA, HK1, ⟨m1, rfl⟩⟩ := hrel
  cases gk with
  | zero => exact absurd HA.out (by simp [num_Unlong.l0])
  | succ k1 =>
   have H := HA.out
   clear HA
   simp only [num_Unlong.l0] at H
   by_cases c3 : x9_1 < 8
   rotate_left
   ·rw [if_neg c3] at H
    have c3b0 := decide_eq_false c3
    clear c3
    simp only [Option.some.injEq, Prod.mk.injEq] at H
    obtain ⟨rfl, rfl⟩ := H
    go_wp2
    go_ret2
    exact ⟨rs_, dR_⟩
   rw [if_pos c3] at H
   have c3b0 := decide_eq_true c3
   clear c3
   by_cases c4 : 0 ≤ x9_1
   rotate_left
   ·rw [if_neg c4] at H
    exact absurd H r34_
   rw [if_pos c4] at H
   have c4b0 := decide_eq_true c4
   clear c4
   by_cases c5 : x9_1 < (a0.size : Int)
   rotate_left
   ·rw [if_neg c5] at H
    exact absurd H r34_
   rw [if_pos c5] at H
   have c5b0 := decide_eq_true c5
   clear c5
   have H' := Aside0.mk H
   clear H
   have p6 : 0 ≤ (x9_1 : Int) := of_decide_eq_true as_
   have q6 : x9_1 < (a0.size : Int) := of_decide_eq_true as_
   have hx6 := bt_at a0 x9_1
   replace p6 := eq_true p6
   replace q6 := eq_true q6
   go_wp2
   go_roundg k1
   case measure => have := HK1.out; omega
   case rel => exact ⟨(Go.bits .or .u64 (IntKind.u64.wrap (x4_1 * 256)) (IntKind.u64.wrap (bt a0 x9_1))), (wrap64 (x9_1 + 1)), rs_, rs_, hH_, ⟨by have := HK1.out; omega⟩, dR_⟩

/-! ### num_Unfall: function 53 -/
def num_Unfall.f (k : Nat) (a0 : ByteArray) : Option (Int × Bool) := (num_Unlong.f k a0).bind fun bt103 => (if bt103.2 = true then (some (Go.bits .xor .u64 IntKind.u64.max bt103.1, true)) else (some (0, false)))
theorem num_Unfall.mono : ∀ a0 k, LeO (num_Unfall.f k a0) (num_Unfall.f (k + 1) a0) := by
 intro a0 k
 unfold num_Unfall.f
 repeat' first
   | (with_reducible exact LeO.refl _)
   | (with_reducible exact LeO.none _)
   | (with_reducible refine LeO.ite ?_ ?_)
   | (with_reducible refine LeO.bind ?_ (fun _ => ?_))
   | exact num_Unlong.mono _ _
   | exact LeO.none _
   | refine LeO.ite ?_ ?_
   | refine LeO.bind ?_ (fun _ => ?_)
set_option maxHeartbeats 8000000 in
set_option maxRecDepth 100000 in
theorem num_Unfall.calls (k : Nat) (a0 : ByteArray) (r1 : Int) (r2 : Bool) (w : World) (h : num_Unfall.f k a0 = some (r1, r2)) :
  Calls Try.prog 53 #[.string a0] w fun e w' => e = .returned (.tuple #[.int .u64 r1, .bool r2]) ∧ Drawn0 w w' := by
 have H : ((num_Unlong.f k a0).bind fun bt103 => (if bt103.2 = true then (some (Go.bits .xor .u64 IntKind.u64.max bt103.1, true)) else (some (0, false)))) = some (r1, r2) := h
 clear h
 replace H := Option.bind_eq_some_iff.mp H
 obtain ⟨⟨t103, t104⟩, A20, H⟩ := H
 try dsimp only at H
 have A2 := Aside0.mk A20
 clear A20
 by_cases c3 : t104 = true
 ·subst c3
  rw [if_pos rfl] at H
  simp only [Option.some.injEq, Prod.mk.injEq] at H
  obtain ⟨rfl, rfl⟩ := H
  go_enter Try.func53, Try.ntmps53
  go_wp2_with (first | ((with_reducible refine gate_callee (f := 66) rfl ?_); refine goesL_ (some 8) rfl rfl Try.func66 r6_ rfl #[.string a0] rfl hA_ ?_; (with_reducible refine (num_Unlong.calls k a0 t103 true _ A2.out).mono ?_); rintro e w' ⟨rfl, ⟨nd, rfl⟩⟩; refine ⟨_, rfl, ?_⟩))
  go_ret2
  exact ⟨rs_, dR_⟩
 replace c3 := Bool.eq_false_iff.mpr c3
 subst c3
 rw [if_neg ff_] at H
 simp only [Option.some.injEq, Prod.mk.injEq] at H
 obtain ⟨rfl, rfl⟩ := H
 go_enter Try.func53, Try.ntmps53
 go_wp2_with (first | ((with_reducible refine gate_callee (f := 66) rfl ?_); refine goesL_ (some 8) rfl rfl Try.func66 r6_ rfl #[.string a0] rfl hA_ ?_; (with_reducible refine (num_Unlong.calls k a0 t103 false _ A2.out).mono ?_); rintro e w' ⟨rfl, ⟨nd, rfl⟩⟩; refine ⟨_, rfl, ?_⟩))
 go_ret2
 exact ⟨rs_, dR_⟩

/-! ### key_Escape: function 73 -/
def key_Escape.f (a0 : ByteArray) : Option (ByteArray × Int) := if KeyT.mayK (Th.bl a0) = true then some (Th.lb (KeyT.E (Th.bl a0)), 0) else some (⟨#[]⟩, 20)
theorem key_Escape.take_snoc (s : ByteArray) (k : Nat) (h : k < s.size) : (Th.bl s).take (k + 1) = (Th.bl s).take k ++ [s[k]] := by
 unfold Th.bl
 rw [List.take_succ_eq_append_getElem (by simpa using h)]; rfl
set_option maxHeartbeats 1600000 in
theorem key_Escape.calls (a0 : ByteArray) (r1 : ByteArray) (r2 : Int) (w : World) (h : key_Escape.f a0 = some (r1, r2)) :
  Calls Try.prog 73 #[.string a0] w fun e w' => e = .returned (.tuple #[.string r1, .int .i64 r2]) ∧ Below w.heap.size w w' := by
 unfold key_Escape.f at h
 have hlb : (Th.bl a0).length = a0.size := by unfold Th.bl; rw [Array.length_toList]; rfl
 by_cases hm : KeyT.mayK (Th.bl a0) = true
 rotate_left
 ·rw [if_neg hm] at h
  simp only [Option.some.injEq, Prod.mk.injEq] at h
  obtain ⟨rfl, rfl⟩ := h
  have hM : key_May.f a0 = some false := by
   unfold key_May.f
   by_cases he : a0.toList = []
   ·rw [if_pos he]
   rw [if_neg he]
   have h0 : a0.size ≠ 0 := by
    intro e
    apply he
    have e2 : Th.bl a0 = [] := List.length_eq_zero_iff.1 r37_
    have e3 : Th.lb (Th.bl a0) = a0 := Th.lb_bl a0
    rw [← e3, Th.lb_toList, e2]
   have : ¬ (1 ≤ a0.size ∧ a0.size ≤ 24) := by
    intro e; apply hm; unfold KeyT.mayK; rw [hlb]; exact decide_eq_true e
   rw [decide_eq_false r37_]
  have HM := Lib.hid hM
  clear hM hlb hm
  go_enter Try.func73, Try.ntmps73
  go_wp2_with (go_at_call 64; (refine (key_May.calls a0 false _ HM.out).mono ?_); rintro e w1 ⟨rfl, hd⟩; have HB1 := Aside0.mk hd.below; clear hd)
  go_ret2
  exact ⟨rfl, HB1.out⟩
 rw [if_pos hm] at h
 simp only [Option.some.injEq, Prod.mk.injEq] at h
 obtain ⟨rfl, rfl⟩ := h
 have hm2 : 1 ≤ a0.size ∧ a0.size ≤ 24 := by
  have := of_decide_eq_true hm
  rw [hlb] at this; exact this
 have hM : key_May.f a0 = some true := by
  unfold key_May.f
  have hne : a0.toList ≠ [] := by
   intro e
   have e2 : Th.bl a0 = [] := by
    have : Th.lb (Th.bl a0) = a0 := Th.lb_bl a0
    rw [← this, Th.lb_toList] at e; exact e
   rw [e2] at hlb; simp at hlb; omega
  rw [if_neg hne, decide_eq_true r37_]
 have HM := Lib.hid hM
 have HLB := Lib.hid hlb
 have HM2 := Lib.hid hm2
 have hle : a0.size ≤ 24 := hm2.2
 clear hm hM hlb hm2
 go_enter Try.func73, Try.ntmps73
 go_wp2_with (go_at_call 64; (refine (key_May.calls a0 true _ HM.out).mono ?_); rintro e w1 ⟨rfl, hd⟩; have HB1 := Aside0.mk hd.below; clear hd)
 obtain ⟨b, hb⟩ : ∃ b, b = w1.heap.size := ⟨_, rfl⟩
 have HS : Aside0 (Buf.Has w.heap.size b [] (w1.alloc (.cells #[.pointer none, .slice none 0 0] 111))) := ⟨by rw [hb]; exact Buf.B_ge (Buf.fresh w1) HB1.out.size⟩
 have HB : Aside0 (Below w.heap.size w (w1.alloc (.cells #[.pointer none, .slice none 0 0] 111))) := ⟨below_alloc HB1.out _⟩
 generalize (w1.alloc (.cells #[.pointer none, .slice none 0 0] 111)) = w2 at HS HB ⊢
 rw [← hb]
 clear hb HB1
 go_loopg [11] a0.size (fun kq v11 w' => ∃ (i : Nat), v11 = .int .i64 (i : Int) ∧ Aside0 (kq + i = a0.size) ∧ Aside0 (Buf.Has w.heap.size b (KeyT.esc ((Th.bl a0).take i)) w') ∧ Aside0 (Below w.heap.size w w'))
 case atStart => exact ⟨0, rfl, ⟨r37_⟩, HS, HB⟩
 case round =>
  clear HS HB
  obtain ⟨i, rfl, HI, HS, HB⟩ := hrel
  by_cases hlt : i < a0.size
  rotate_left
  ·have hie : i = a0.size := by have := HI.out; omega
   have htk : (Th.bl a0).take i = Th.bl a0 := List.take_of_length_le (by rw [HLB.out]; omega)
   rw [htk] at HS
   have hlen : (KeyT.esc (Th.bl a0)).length ≤ 100 := by
    have h1 := KeyT.esc_len (Th.bl a0)
    rw [HLB.out] at h1
    omega
   have HL := Lib.hid hlen
   clear hlen htk hie
   go_wp2_with (first
    | (go_at_call 63; (refine (Buf.wroteInt w.heap.size b _ _ 0 rfl _ HS.out (by have := HL.out; omega)).mono ?_); rintro e w3 ⟨rfl, hs, hb, _⟩; have HS3 := Aside0.mk hs; have HB3 := Aside0.mk (HB.out.trans hb); clear HS HB hs hb)
    | (go_at_call 63; (refine (Buf.wroteInt w.heap.size b _ _ 1 rfl _ HS3.out (by have := HL.out; rw [List.length_append, List.length_singleton]; omega)).mono ?_); rintro e w4 ⟨rfl, hs, hb, _⟩; have HS4 := Aside0.mk hs; have HB4 := Aside0.mk (HB3.out.trans hb); clear HS3 HB3 hs hb)
    | (go_at_call 65; (refine (Buf.read w.heap.size b _ _ HS4.out).mono ?_); rintro e w5 ⟨rfl, hs, hb, _⟩; have HB5 := Aside0.mk (HB4.out.trans hb); clear HS4 HB4 hs hb))
   go_ret2
   exact ⟨by simp [KeyT.E, Th.lb], HB5.out⟩
  have hkg : ∃ k1, gk = k1 + 1 := ⟨gk - 1, by have := HI.out; omega⟩
  obtain ⟨k1, rfl⟩ := hkg
  have HTS := Lib.hid (key_Escape.take_snoc a0 i hlt)
  have hlen : (KeyT.esc ((Th.bl a0).take i)).length ≤ 100 := by
   have h1 := KeyT.esc_len ((Th.bl a0).take i)
   have h2 : ((Th.bl a0).take i).length ≤ i := List.length_take_le _ _
   omega
  have HL := Lib.hid hlen
  clear hlen
  by_cases hz : a0[i] = 0
  ·have hz1 : ((a0[i].toNat : Int) == 0) = true := by rw [hz]; rfl
   have HZ := Lib.hid hz
   clear hz
   go_wp2_with (first
    | (go_at_call 63; (refine (Buf.wroteInt w.heap.size b _ _ a0[i] rfl _ HS.out (by have := HL.out; omega)).mono ?_); rintro e w3 ⟨rfl, hs, hb, _⟩; have HS3 := Aside0.mk hs; have HB3 := Aside0.mk (HB.out.trans hb); clear HS HB hs hb)
    | (go_at_call 63; (refine (Buf.wroteInt w.heap.size b _ _ 255 rfl _ HS3.out (by have := HL.out; rw [List.length_append, List.length_singleton]; omega)).mono ?_); rintro e w4 ⟨rfl, hs, hb, _⟩; have HS4 := Aside0.mk hs; have HB4 := Aside0.mk (HB3.out.trans hb); clear HS3 HB3 hs hb))
   go_roundg k1
   case measure => omega
   case rel =>
    refine ⟨i + 1, by have hw : wrap64 ((i : Int) + 1) = (i : Int) + 1 := by { unfold wrap64; omega }; simp [hw], ⟨by have := HI.out; omega⟩, ⟨?_⟩, HB4⟩
    have := HS4.out
    rw [HTS.out, KeyT.esc_app, HZ.out]
    rw [HZ.out] at this
    simpa [KeyT.esc] using this
  have hz1 : ((a0[i].toNat : Int) == 0) = false := by
   rw [beq_eq_false_iff_ne]
   intro e
   apply hz
   apply UInt8.toNat_inj.1
   have : a0[i].toNat = 0 := by omega
   rw [this]; rfl
  have HZ := Lib.hid hz
  clear hz
  go_wp2_with (go_at_call 63; (refine (Buf.wroteInt w.heap.size b _ _ a0[i] rfl _ HS.out (by have := HL.out; omega)).mono ?_); rintro e w3 ⟨rfl, hs, hb, _⟩; have HS3 := Aside0.mk hs; have HB3 := Aside0.mk (HB.out.trans hb); clear HS HB hs hb)
  go_roundg k1
  case measure => omega
  case rel =>
   refine ⟨i + 1, by have hw : wrap64 ((i : Int) + 1) = (i : Int) + 1 := by { unfold wrap64; omega }; simp [hw], ⟨by have := HI.out; omega⟩, ⟨?_⟩, HB3⟩
   have := HS3.out
   rw [HTS.out, KeyT.esc_app, KeyT.esc_cons HZ.out]
   exact this

/-! ### key_First: function 67 -/
def key_First.f (a0 : Int) (a1 : ByteArray) : Option (ByteArray × Int) := (key_family.f a0).bind fun t105 => (if t105 = true then ((key_Escape.f a1).bind fun bt106 => (if bt106.2 = 0 then ((some (([(a0) % 256] : List Int) : List Int)).bind fun y108 => (if (strOfNums y108).size + bt106.1.size ≤ 9223372036854775807 then (some ((strOfNums y108) ++ bt106.1, 0)) else (none))) else (some ((⟨#[]⟩ : ByteArray), bt106.2)))) else (some ((⟨#[]⟩ : ByteArray), 1)))
set_option maxHeartbeats 8000000 in
set_option maxRecDepth 100000 in
theorem key_First.calls (a0 : Int) (a1 : ByteArray) (r1 : ByteArray) (r2 : Int) (w : World) (h : key_First.f a0 a1 = some (r1, r2)) :
  Calls Try.prog 67 #[.int .i64 a0, .string a1] w fun e w' => e = .returned (.tuple #[.string r1, .int .i64 r2]) ∧ Below w.heap.size w w' := by
 have HB := Aside0.mk (Below.refl w.heap.size w)
 have H : ((key_family.f a0).bind fun t105 => (if t105 = true then ((key_Escape.f a1).bind fun bt106 => (if bt106.2 = 0 then ((some (([(a0) % 256] : List Int) : List Int)).bind fun y108 => (if (strOfNums y108).size + bt106.1.size ≤ 9223372036854775807 then (some ((strOfNums y108) ++ bt106.1, 0)) else (none))) else (some ((⟨#[]⟩ : ByteArray), bt106.2)))) else (some ((⟨#[]⟩ : ByteArray), 1)))) = some (r1, r2) := h
 clear h
 replace H := Option.bind_eq_some_iff.mp H
 obtain ⟨t105, A30, H⟩ := H
 try dsimp only at H
 have A3 := Aside0.mk A30
 clear A30
 by_cases c4 : t105 = true
 rotate_left
 ·replace c4 := Bool.eq_false_iff.mpr c4
  subst c4
  rw [if_neg ff_] at H
  simp only [Option.some.injEq, Prod.mk.injEq] at H
  obtain ⟨rfl, rfl⟩ := H
  go_enter Try.func67, Try.ntmps67
  go_wp2_with (first | ((with_reducible refine gate_callee (f := 51) rfl ?_); refine goesL_ (some 9) rfl rfl Try.func51 r6_ rfl #[.int .i64 a0] rfl hA_ ?_; (with_reducible refine (key_family.calls a0 false _ A3.out).mono ?_); rintro e w' ⟨rfl, ⟨nd, rfl⟩⟩; refine ⟨_, rfl, ?_⟩))
  go_ret2
  exact ⟨rf_, hB_⟩
 subst c4
 rw [if_pos rfl] at H
 replace H := Option.bind_eq_some_iff.mp H
 obtain ⟨⟨t106, t107⟩, A50, H⟩ := H
 try dsimp only at H
 have A5 := Aside0.mk A50
 clear A50
 by_cases c6 : t107 = 0
 rotate_left
 ·rw [if_neg c6] at H
  have c6b0 := beq_eq_false_iff_ne.mpr c6
  have c6b1 := bne_iff_ne.mpr c6
  simp only [Option.some.injEq, Prod.mk.injEq] at H
  obtain ⟨rfl, rfl⟩ := H
  go_enter Try.func67, Try.ntmps67
  go_wp2_with (first | ((with_reducible refine gate_callee (f := 51) rfl ?_); refine goesL_ (some 9) rfl rfl Try.func51 r6_ rfl #[.int .i64 a0] rfl hA_ ?_; (with_reducible refine (key_family.calls a0 true _ A3.out).mono ?_); rintro e w' ⟨rfl, ⟨nd, rfl⟩⟩; refine ⟨_, rfl, ?_⟩) | ((with_reducible refine gate_callee (f := 73) rfl ?_); refine goesL_ (some 13) rfl rfl Try.func73 r6_ rfl #[.string a1] rfl hA_ ?_; (with_reducible refine (key_Escape.calls a1 t106 t107 _ A5.out).mono ?_); rintro e w12 ⟨rfl, hb⟩; refine ⟨_, rfl, ?_⟩; replace HB := Aside0.mk (below_step hB_ hb); clear hb A5))
  go_ret2
  exact ⟨rf_, hB_⟩
 rw [if_pos c6] at H
 have c6b0 := beq_iff_eq.mpr c6
 have c6b1 := bne_eq_false_iff_eq.mpr c6
 clear c6
 obtain ⟨y108, hy108⟩ : ∃ y_ : List Int, y_ = (([(a0) % 256] : List Int)) := ⟨_, rfl⟩
 replace H : (if (strOfNums y108).size + t106.size ≤ 9223372036854775807 then (some ((strOfNums y108) ++ t106, 0)) else (none)) = some (r1, r2) := by first | (rw [hy108]; with_reducible exact H) | (have H2_ := (Option.bind_some _ _).symm.trans H; rw [hy108]; with_reducible exact H2_) | (have H2_ := (Option.bind_some _ _).symm.trans H; with_reducible exact H2_) | with_reducible exact H | (rw [hy108]; exact H) | exact H
 have Ny108 := Aside0.mk hy108
 clear hy108
 by_cases c7 : (strOfNums y108).size + t106.size ≤ 9223372036854775807
 rotate_left
 ·rw [if_neg c7] at H
  exact absurd H r34_
 rw [if_pos c7] at H
 have c7b0 := eq_true c7
 have c7b1 : decide ((strOfNums y108).size + t106.size ≤ 9223372036854775807) = true := decide_eq_true c7
 try have c7b2 : (9223372036854775807 < (strOfNums y108).size + t106.size) = False := eq_false (Nat.not_lt.2 c7)
 try (have c7b3 := c7b2; simp only [ByteArray.size_append] at c7b3)
 try (have c7b4 := c7b2; simp only [ByteArray.size_extract, ByteArray.size_append, Nat.sub_zero] at c7b4)
 simp only [Option.some.injEq, Prod.mk.injEq] at H
 obtain ⟨rfl, rfl⟩ := H
 go_enter Try.func67, Try.ntmps67
 go_wp2_with (first | ((with_reducible refine gate_callee (f := 51) rfl ?_); refine goesL_ (some 9) rfl rfl Try.func51 r6_ rfl #[.int .i64 a0] rfl hA_ ?_; (with_reducible refine (key_family.calls a0 true _ A3.out).mono ?_); rintro e w' ⟨rfl, ⟨nd, rfl⟩⟩; refine ⟨_, rfl, ?_⟩) | ((with_reducible refine gate_callee (f := 73) rfl ?_); refine goesL_ (some 13) rfl rfl Try.func73 r6_ rfl #[.string a1] rfl hA_ ?_; (with_reducible refine (key_Escape.calls a1 t106 t107 _ A5.out).mono ?_); rintro e w8 ⟨rfl, hb⟩; refine ⟨_, rfl, ?_⟩; replace HB := Aside0.mk (below_step hB_ hb); clear hb A5) | ((with_reducible refine gate_dst (N := 21) rfl ?_); refine Kd.R_lit (Kd.int .u8) _ 5 ?hg (N := 21) ?hd (xs := ([(a0) % 256] : List Int)) (inner := [.int .u8 ((a0) % 256)]) (ok := fun _ => True) (okp := fun _ => True) ?hr ?hp (fun _ hk => hk) trivial (Below.refl _ _) (Nat.le_refl _) r34_ ?_; (case hd => rfl); (case hg => rfl); (case hr => first | (go_simp; done) | (go_simp; rfl)); (case hp => exact (Reps.one (show Kd.M (Kd.int .u8) _ _ _ ((a0) % 256) [.int .u8 ((a0) % 256)] from rfl) (Reps.none _ _))); intro v109 w9 ho10 hb hg_ hnew_; clear hg_ hnew_; (first | rw [← Ny108.out] at ho10 | (simp only [Int.reduceToNat] at ho10; rw [← Ny108.out] at ho10)); have HO110 := Aside0.mk (Kd.R_lower ho10 (below_size hB_)); replace HB := Aside0.mk (below_step hB_ hb); clear hb ho10; have hcv11 := own_string (P := Try.prog) Try.underlying96 Try.underlying5 Try.underlying9 (Kd.own_of_R (HO110.out))))
 go_ret2
 exact ⟨rf_, hB_⟩

/-! ### num_Long: function 74 -/
def num_Long.bs (a0 : Int) : List Int := [a0 / 72057594037927936 % 256, a0 / 281474976710656 % 256, a0 / 1099511627776 % 256, a0 / 4294967296 % 256, a0 / 16777216 % 256, a0 / 65536 % 256, a0 / 256 % 256, a0 % 256]
def num_Long.f (a0 : Int) : Option ByteArray := some (strOfNums (num_Long.bs a0))
theorem num_Long.conv (w : World) (x0 x1 x2 x3 x4 x5 x6 x7 : Int) :
  (convert 96 9 (.slice (some ⟨w.heap.size, 0, none⟩) 8 8)).run Try.prog (w.alloc (.cells #[.int .u8 x0, .int .u8 x1, .int .u8 x2, .int .u8 x3, .int .u8 x4, .int .u8 x5, .int .u8 x6, .int .u8 x7] 120)) = .ok (.string (strOfNums [x0, x1, x2, x3, x4, x5, x6, x7])) (w.alloc (.cells #[.int .u8 x0, .int .u8 x1, .int .u8 x2, .int .u8 x3, .int .u8 x4, .int .u8 x5, .int .u8 x6, .int .u8 x7] 120)) := by
 refine run_convert_bytes_arg (P := Try.prog) _ 96 5 Try.underlying96 Try.underlying5 w.heap.size 0 8 8 [x0, x1, x2, x3, x4, x5, x6, x7] rfl (fun i hi => ?_) 9 Try.underlying9
 have h : i = 0 ∨ i = 1 ∨ i = 2 ∨ i = 3 ∨ i = 4 ∨ i = 5 ∨ i = 6 ∨ i = 7 := by omega
 rcases h with rfl | rfl | rfl | rfl | rfl | rfl | rfl | rfl <;> (go_simp; try rfl)
set_option maxHeartbeats 400000 in
theorem num_Long.calls (a0 : Int) (r : ByteArray) (w : World) (h : num_Long.f a0 = some r) :
  Calls Try.prog 74 #[.int .u64 a0] w fun e w' => e = .returned (.string r) ∧ Below w.heap.size w w' := by
 obtain rfl : strOfNums (num_Long.bs a0) = r := by simpa [num_Long.f] using h
 clear h
 have hc := num_Long.conv w
 go_enter Try.func74, Try.ntmps74
 go_wp2
 refine wp_loop_rounds 9 ?_
 iterate 9 (rw [rounds_succ]; go_wp2)
 go_ret
 exact ⟨by simp [num_Long.bs], below_alloc (Below.refl _ _) _⟩


/-! ### num_Fall: function 68 -/
def num_Fall.f (a0 : Int) : Option (ByteArray) := (num_Long.f (Go.bits .xor .u64 IntKind.u64.max a0)).bind fun t111 => (some t111)
set_option maxHeartbeats 8000000 in
set_option maxRecDepth 100000 in
theorem num_Fall.calls (a0 : Int) (r : ByteArray) (w : World) (h : num_Fall.f a0 = some r) :
  Calls Try.prog 68 #[.int .u64 a0] w fun e w' => e = .returned (.string r) ∧ Below w.heap.size w w' := by
 have HB := Aside0.mk (Below.refl w.heap.size w)
 have H : ((num_Long.f (Go.bits .xor .u64 IntKind.u64.max a0)).bind fun t111 => (some t111)) = some r := h
 clear h
 replace H := Option.bind_eq_some_iff.mp H
 obtain ⟨t111, A20, H⟩ := H
 try dsimp only at H
 have A2 := Aside0.mk A20
 clear A20
 obtain rfl := Option.some.inj H
 go_enter Try.func68, Try.ntmps68
 go_wp2_with (first | ((with_reducible refine gate_callee (f := 74) rfl ?_); refine goesL_ (some 5) rfl rfl Try.func74 r6_ rfl #[.int .u64 (Go.bits .xor .u64 IntKind.u64.max a0)] rfl hA_ ?_; (with_reducible refine (num_Long.calls (Go.bits .xor .u64 IntKind.u64.max a0) t111 _ A2.out).mono ?_); rintro e w3 ⟨rfl, hb⟩; refine ⟨_, rfl, ?_⟩; replace HB := Aside0.mk (below_step hB_ hb); clear hb A2))
 go_ret
 exact ⟨rf_, hB_⟩

end Go.Proofs.Ytcdadhgcjkgnoaa.P
