-- Printed by a program of this session's own (wip/tools/pprint.sh, over the kit's print, with given contracts): not typed by hand.
import Derived.Test.YtgdkikkjaofbfaaPx0
import Derived.Test.YtgdkikkjaofbfaaPx4
namespace Go.Proofs.Ytgdkikkjaofbfaa.P
open Go.RowKit Go.Proofs.YtgdkikkjaofbfaaW.PrintWords Go.Proofs.YtgdkikkjaofbfaaW.PrintLast Go.Proofs.YtgdkikkjaofbfaaW.PrintMore
attribute [local go_sem] max2_int min2_int max_two min_two max_three min_three max_four min_four   -- for this text's walks alone
set_option linter.unusedVariables false
set_option linter.unusedSimpArgs false
-- SQUEEZED4
-- SQUEEZED3

/-! ### qR: function 59 -/
def qR.put (xs : List Int) (p : Int) : List Int := xs.set (p / 8).toNat (Go.bits .or .u8 (rdOf 0 xs (p / 8)) (2 ^ (p % 8).toNat % 256))
def qR.go (k : Nat) (n : Int) : List ByteArray → List Int → Option (List Int)
 | [], xs => some xs
 | s :: l, xs => (qW.f k s).bind fun h => qR.go k n l ((qC.ps h n).foldl qR.put xs)
def qR.f (k : Nat) (l0 : List ByteArray) : Option (ByteArray × Int) :=
 if (l0.length : Int) > 1000 then some ((⟨#[]⟩ : ByteArray), 4) else (qR.go k (8 * ((l0.length : Int) + 1)) l0 (List.replicate (l0.length + 1) 0)).bind fun xs => some (strOfNums xs, 0)
theorem qR.put_len (xs : List Int) (p : Int) : (qR.put xs p).length = xs.length := by simp [qR.put]
theorem qR.info : (Try.prog.info? 5).map (fun i => (i.zero, i.size, i.bytes)) = some (some (.int .u8 0), 1, 1) := by kernel_rfl
theorem qR.go_mono (k : Nat) (n : Int) : ∀ l xs, LeO (qR.go k n l xs) (qR.go (k + 1) n l xs)
 | [], xs => LeO.refl _
 | s :: l, xs => LeO.bind (qW.mono _ _) (fun _ => qR.go_mono k n l _)
theorem qR.mono : ∀ l k, LeO (qR.f k l) (qR.f (k + 1) l) := by
 intro l k
 unfold qR.f
 exact LeO.ite (LeO.refl _) (LeO.bind (qR.go_mono _ _ _ _) (fun _ => LeO.refl _))
set_option maxHeartbeats 800000 in
theorem qR.calls (k : Nat) (A0 : Option Addr) (c0 : Nat) (l0 : List ByteArray) (r1 : ByteArray) (r2 : Int) (w : World) (hr0 : Kd.C Kd.string w A0 l0.length l0) (hc0 : l0.length ≤ c0) (h : qR.f k l0 = some (r1, r2)) :
  Calls Try.prog 59 #[.slice A0 l0.length c0] w fun e w' => e = .returned (.tuple #[.string r1, .int .i64 r2]) ∧ Below w.heap.size w w' := by
 have HR0 := Aside0.mk hr0
 clear hr0 hc0
 unfold qR.f at h
 by_cases hm : (l0.length : Int) > 1000
 ·rw [if_pos hm] at h
  simp only [Option.some.injEq, Prod.mk.injEq] at h
  obtain ⟨rfl, rfl⟩ := h
  have hd : decide (1000 < (l0.length : Int)) = true := decide_eq_true hm
  go_enter Try.func59, Try.ntmps59
  go_wp2
  go_ret2
  exact ⟨rfl, Below.refl _ _⟩
 rw [if_neg hm] at h
 have hd : decide (1000 < (l0.length : Int)) = false := decide_eq_false hm
 replace h := bs_ h
 obtain ⟨xf, hg, h⟩ := h
 simp only [Option.some.injEq, Prod.mk.injEq] at h
 obtain ⟨rfl, rfl⟩ := h
 have HG := Lib.hid hg
 clear hg
 have hlen : l0.length ≤ 1000 := by omega
 clear hm
 go_enter Try.func59, Try.ntmps59
 go_wp2_with (first | ((with_reducible refine gate_dst (N := 15) rfl ?_); (refine Kd.R_make (Kd.int .u8) _ 5 rfl (N := 15) rfl 54 _ _ rfl ((l0.length : Int) + 1) rfl rfl Try.underlying54 (.int .u8 0) 1 qR.info rfl r24_ r18_ 0 (ok := fun _ => True) (okp := fun _ => True) rfl (fun _ hk => hk) trivial r18_ r18_ (Below.refl _ _) (Nat.le_refl _) ?_); intro v2 w2 ho2 hb2 hg2 hnew2; have HO : Aside0 (Kd.R (Kd.int .u8) 5 w2 w.heap.size (fun _ => True) v2 (List.replicate (l0.length + 1) 0)) := ⟨ho2⟩; have HB : Aside0 (Below w.heap.size w w2) := ⟨hb2⟩; clear ho2 hb2 hg2 hnew2))
 go_loopg [18] l0.length (fun kq v18 w' => ∃ (i : Nat) (xs : List Int), v18 = .int .i64 (i : Int) ∧ Aside0 (kq + i = l0.length) ∧ Aside0 (qR.go k (8 * ((l0.length : Int) + 1)) (l0.drop i) xs = some xf) ∧ Aside0 (xs.length = l0.length + 1) ∧ Aside0 (Kd.R (Kd.int .u8) 5 w' w.heap.size (fun _ => True) v2 xs) ∧ Aside0 (Below w.heap.size w w'))
 case atStart => exact ⟨0, _, rfl, ⟨r18_⟩, ⟨HG.out⟩, ⟨r17_⟩, HO, HB⟩
 case round =>
  clear HO HB HG
  obtain ⟨i, xs, rfl, HI, HG, HL, HO, HB⟩ := hrel
  by_cases hlt : i < l0.length
  rotate_left
  ·have hi : i = l0.length := by have := HI.out; omega
   have hge : decide ((i : Int) < (l0.length : Int)) = false := decide_eq_false r18_
   have hx : xs = xf := by
    have := HG.out
    rw [List.drop_eq_nil_of_le r18_] at this
    simpa [qR.go] using this
   subst hx
   have hcv := own_string (P := Try.prog) (w := wr) Try.underlying54 Try.underlying5 Try.underlying9 (Kd.own_of_R HO.out)
   clear hi HG
   go_wp2
   go_ret2
   exact ⟨rfl, HB.out⟩
  have hkg : ∃ k1, gk = k1 + 1 := ⟨gk - 1, by have := HI.out; omega⟩
  obtain ⟨k1, rfl⟩ := hkg
  have hdr : l0.drop i = l0[i] :: l0.drop (i + 1) := List.drop_eq_getElem_cons hlt
  have hg := HG.out
  rw [hdr] at hg
  clear hdr HG
  replace hg := bs_ hg
  obtain ⟨hh, hmix, hg⟩ := hg
  have HG := Lib.hid hg
  clear hg
  have HM := Lib.hid hmix
  clear hmix
  obtain ⟨ad, ead, hcell⟩ := Kd.at_string HR0.out (i : Int) r18_ r18_
  subst ead
  have hrd : rdOf ByteArray.empty l0 (i : Int) = l0[i] := by simp [rdOf, hlt]
  rw [hrd] at hcell
  clear hrd
  replace hcell := (HB.out.cell (World.block_lt_of_cell? w _ hcell)).trans hcell
  have htn : ((i : Int)).toNat = i := by omega
  rw [htn] at hcell
  clear htn
  obtain ⟨A2, c2, e2⟩ := Kd.R_slice HO.out
  subst e2
  have hz : ¬ (IntKind.u64.wrap (8 * (xs.length : Int)) = 0) := by rw [qC.wu]; have := HL.out; omega
  have hle : xs.length ≤ 1001 := by have := HL.out; omega
  go_wp2_with (go_at_call 79; (refine (qC.any k l0[i] (8 * (xs.length : Int)) hh _ HM.out hz).mono ?_); rintro e w3 ⟨p0, p1, p2, p3, hps, rfl, hb⟩; have HP := Lib.hid hps; clear hps; have HB3 := Aside0.mk hb; clear hb)
  have hbnd := qC.in_ hh (8 * (xs.length : Int)) (qW.range HM.out).1 (by have := HL.out; omega) (by have := HL.out; omega)
  rw [HP.out] at hbnd
  have g0 := hbnd p0 r17_
  have g1 := hbnd p1 r17_
  have g2 := hbnd p2 r17_
  have g3 := hbnd p3 r17_
  clear hbnd
  obtain ⟨gb, cc, ef, gge, glt, cells, hcel⟩ := Kd.R_form HO.out (by have := HL.out; omega)
  have ea : A2 = some ⟨gb, 0, none⟩ := by injection ef with h1 h2 h3
  clear ef hcel
  subst ea
  clear cells cc
  have HO0 := Aside0.mk (Kd.R_below HO.out HB3.out)
  have HBB := Aside0.mk (below_step HB.out HB3.out)
  have GG := Aside0.mk gge
  clear HO HB HB3 gge glt
  refine wp_loop_rounds 5 ?_
  rw [rounds_succ]
  have i0 : ∀ W, (Instr.index 115 (.agg #[.int .i64 p0, .int .i64 p1, .int .i64 p2, .int .i64 p3]) (.int .i64 0)).run Try.prog W = .ok (.int .i64 p0) W := fun _ => by kernel_rfl
  have q0 : 0 ≤ p0 / 8 := by omega
  have t0 : p0 / 8 < (xs.length : Int) := by omega
  obtain ⟨hc0, hf0⟩ := Kd.R_celln 0 HO0.out (p0 / 8) q0 r18_
  have HP0 := Lib.hid (Kd.R_putg HO0.out (p0 / 8) (Go.bits .or .u8 (rdOf 0 xs (p0 / 8)) (2 ^ (p0 % 8).toNat % 256))).1
  go_wp2
  go_region
  obtain ⟨xs1, hx1⟩ : ∃ y, qR.put xs p0 = y := ⟨_, rfl⟩
  have HX1 := Lib.hid hx1
  have HO1 : Aside0 (Kd.R (Kd.int .u8) 5 (w3.setCell ⟨gb, (p0 / 8).toNat, none⟩ (.int .u8 (Go.bits .or .u8 (rdOf 0 xs (p0 / 8)) (2 ^ (p0 % 8).toNat % 256)))).drew w.heap.size (fun _ => True) (.slice (some ⟨gb, 0, none⟩) xs.length c2) xs1) := ⟨hx1 ▸ Kd.R_drew HP0.out⟩
  have HB1 : Aside0 (Below w.heap.size w (w3.setCell ⟨gb, (p0 / 8).toNat, none⟩ (.int .u8 (Go.bits .or .u8 (rdOf 0 xs (p0 / 8)) (2 ^ (p0 % 8).toNat % 256)))).drew) := ⟨below_drew1 (below_set HBB.out GG.out)⟩
  clear hx1 HP0 HO0 hc0 hf0 HBB i0 q0 t0
  have HBB := HB1
  clear HB1
  generalize (w3.setCell ⟨gb, (p0 / 8).toNat, none⟩ (.int .u8 (Go.bits .or .u8 (rdOf 0 xs (p0 / 8)) (2 ^ (p0 % 8).toNat % 256)))).drew = y1 at HO1 HBB ⊢
  go_wp2
  rw [rounds_succ]
  have i1 : ∀ W, (Instr.index 115 (.agg #[.int .i64 p0, .int .i64 p1, .int .i64 p2, .int .i64 p3]) (.int .i64 1)).run Try.prog W = .ok (.int .i64 p1) W := fun _ => by kernel_rfl
  have q1 : 0 ≤ p1 / 8 := by omega
  have t1 : p1 / 8 < (xs.length : Int) := by omega
  obtain ⟨hc1, hf1⟩ := Kd.R_celln 0 HO1.out (p1 / 8) q1 r18_
  have HP1 := Lib.hid (Kd.R_putg HO1.out (p1 / 8) (Go.bits .or .u8 (rdOf 0 xs1 (p1 / 8)) (2 ^ (p1 % 8).toNat % 256))).1
  go_wp2
  go_region
  obtain ⟨xs2, hx2⟩ : ∃ y, qR.put xs1 p1 = y := ⟨_, rfl⟩
  have HX2 := Lib.hid hx2
  have HO2 : Aside0 (Kd.R (Kd.int .u8) 5 (y1.setCell ⟨gb, (p1 / 8).toNat, none⟩ (.int .u8 (Go.bits .or .u8 (rdOf 0 xs1 (p1 / 8)) (2 ^ (p1 % 8).toNat % 256)))).drew w.heap.size (fun _ => True) (.slice (some ⟨gb, 0, none⟩) xs.length c2) xs2) := ⟨hx2 ▸ Kd.R_drew HP1.out⟩
  have HB2 : Aside0 (Below w.heap.size w (y1.setCell ⟨gb, (p1 / 8).toNat, none⟩ (.int .u8 (Go.bits .or .u8 (rdOf 0 xs1 (p1 / 8)) (2 ^ (p1 % 8).toNat % 256)))).drew) := ⟨below_drew1 (below_set HBB.out GG.out)⟩
  clear hx2 HP1 HO1 hc1 hf1 HBB i1 q1 t1
  have HBB := HB2
  clear HB2
  generalize (y1.setCell ⟨gb, (p1 / 8).toNat, none⟩ (.int .u8 (Go.bits .or .u8 (rdOf 0 xs1 (p1 / 8)) (2 ^ (p1 % 8).toNat % 256)))).drew = y2 at HO2 HBB ⊢
  go_wp2
  rw [rounds_succ]
  have i2 : ∀ W, (Instr.index 115 (.agg #[.int .i64 p0, .int .i64 p1, .int .i64 p2, .int .i64 p3]) (.int .i64 2)).run Try.prog W = .ok (.int .i64 p2) W := fun _ => by kernel_rfl
  have q2 : 0 ≤ p2 / 8 := by omega
  have t2 : p2 / 8 < (xs.length : Int) := by omega
  obtain ⟨hc2, hf2⟩ := Kd.R_celln 0 HO2.out (p2 / 8) q2 r18_
  have HP2 := Lib.hid (Kd.R_putg HO2.out (p2 / 8) (Go.bits .or .u8 (rdOf 0 xs2 (p2 / 8)) (2 ^ (p2 % 8).toNat % 256))).1
  go_wp2
  go_region
  obtain ⟨xs3, hx3⟩ : ∃ y, qR.put xs2 p2 = y := ⟨_, rfl⟩
  have HX3 := Lib.hid hx3
  have HO3 : Aside0 (Kd.R (Kd.int .u8) 5 (y2.setCell ⟨gb, (p2 / 8).toNat, none⟩ (.int .u8 (Go.bits .or .u8 (rdOf 0 xs2 (p2 / 8)) (2 ^ (p2 % 8).toNat % 256)))).drew w.heap.size (fun _ => True) (.slice (some ⟨gb, 0, none⟩) xs.length c2) xs3) := ⟨hx3 ▸ Kd.R_drew HP2.out⟩
  have HB3 : Aside0 (Below w.heap.size w (y2.setCell ⟨gb, (p2 / 8).toNat, none⟩ (.int .u8 (Go.bits .or .u8 (rdOf 0 xs2 (p2 / 8)) (2 ^ (p2 % 8).toNat % 256)))).drew) := ⟨below_drew1 (below_set HBB.out GG.out)⟩
  clear hx3 HP2 HO2 hc2 hf2 HBB i2 q2 t2
  have HBB := HB3
  clear HB3
  generalize (y2.setCell ⟨gb, (p2 / 8).toNat, none⟩ (.int .u8 (Go.bits .or .u8 (rdOf 0 xs2 (p2 / 8)) (2 ^ (p2 % 8).toNat % 256)))).drew = y3 at HO3 HBB ⊢
  go_wp2
  rw [rounds_succ]
  have i3 : ∀ W, (Instr.index 115 (.agg #[.int .i64 p0, .int .i64 p1, .int .i64 p2, .int .i64 p3]) (.int .i64 3)).run Try.prog W = .ok (.int .i64 p3) W := fun _ => by kernel_rfl
  have q3 : 0 ≤ p3 / 8 := by omega
  have t3 : p3 / 8 < (xs.length : Int) := by omega
  obtain ⟨hc3, hf3⟩ := Kd.R_celln 0 HO3.out (p3 / 8) q3 r18_
  have HP3 := Lib.hid (Kd.R_putg HO3.out (p3 / 8) (Go.bits .or .u8 (rdOf 0 xs3 (p3 / 8)) (2 ^ (p3 % 8).toNat % 256))).1
  go_wp2
  go_region
  obtain ⟨xs4, hx4⟩ : ∃ y, qR.put xs3 p3 = y := ⟨_, rfl⟩
  have HX4 := Lib.hid hx4
  have HO4 : Aside0 (Kd.R (Kd.int .u8) 5 (y3.setCell ⟨gb, (p3 / 8).toNat, none⟩ (.int .u8 (Go.bits .or .u8 (rdOf 0 xs3 (p3 / 8)) (2 ^ (p3 % 8).toNat % 256)))).drew w.heap.size (fun _ => True) (.slice (some ⟨gb, 0, none⟩) xs.length c2) xs4) := ⟨hx4 ▸ Kd.R_drew HP3.out⟩
  have HB4 : Aside0 (Below w.heap.size w (y3.setCell ⟨gb, (p3 / 8).toNat, none⟩ (.int .u8 (Go.bits .or .u8 (rdOf 0 xs3 (p3 / 8)) (2 ^ (p3 % 8).toNat % 256)))).drew) := ⟨below_drew1 (below_set HBB.out GG.out)⟩
  clear hx4 HP3 HO3 hc3 hf3 HBB i3 q3 t3
  have HBB := HB4
  clear HB4
  generalize (y3.setCell ⟨gb, (p3 / 8).toNat, none⟩ (.int .u8 (Go.bits .or .u8 (rdOf 0 xs3 (p3 / 8)) (2 ^ (p3 % 8).toNat % 256)))).drew = y4 at HO4 HBB ⊢
  go_wp2
  rw [rounds_succ]
  go_wp2
  have HGG : Aside0 (qR.go k (8 * ((l0.length : Int) + 1)) (l0.drop (i + 1)) xs4 = some xf) := by
   have := HG.out
   rw [show (8 * ((l0.length : Int) + 1)) = 8 * (xs.length : Int) by have := HL.out; omega] at this ⊢
   rw [HP.out] at this
   simp only [List.foldl_cons, List.foldl_nil, HX1.out, HX2.out, HX3.out, HX4.out] at this
   exact ⟨this⟩
  have HLL : Aside0 (xs4.length = l0.length + 1) := ⟨(Kd.R_reads' HO4.out).1.symm.trans HL.out⟩
  go_roundg k1
  case measure => omega
  case rel => exact ⟨i + 1, xs4, by go_num, ⟨by have := HI.out; omega⟩, HGG, HLL, HO4, HBB⟩

/-! ### qQ: function 30 -/
def qQ.l0 : Nat → List ByteArray → List (S37) → Int → Int → Option (ByteArray)
 | 0, _, _, _, _ => none
 | k + 1, x3, x8, x9, x10 => if x10 < x9 then (if 0 ≤ x10 then (if x10 < (x8.length : Int) then (if (x3.length : Int) = 0 then (if x3.length < 8796093022208 then (qQ.l0 k (x3 ++ [(rd_T37 x8 x10).f0]) x8 x9 (wrap64 (x10 + 1))) else (none)) else (if 0 ≤ (wrap64 ((x3.length : Int) - 1)) then (if (wrap64 ((x3.length : Int) - 1)) < (x3.length : Int) then (if (rdOf ByteArray.empty x3 (wrap64 ((x3.length : Int) - 1))).toList = ((rd_T37 x8 x10).f0).toList then (qQ.l0 k x3 x8 x9 (wrap64 (x10 + 1))) else (if x3.length < 8796093022208 then (qQ.l0 k (x3 ++ [(rd_T37 x8 x10).f0]) x8 x9 (wrap64 (x10 + 1))) else (none))) else (none)) else (none))) else (none)) else (none)) else ((qR.f k x3).bind fun bt126 => (some bt126.1))
def qQ.f (k : Nat) (l0 : List (S37)) : Option (ByteArray) := qQ.l0 k ([] : List ByteArray) l0 (l0.length : Int) 0
theorem qQ.mono_l : ∀ k, (∀ y0 y1 y2 y3, LeO (qQ.l0 k y0 y1 y2 y3) (qQ.l0 (k + 1) y0 y1 y2 y3))
 | 0 => fun _ _ _ _ r h => by simp [qQ.l0] at h
 | k + 1 => by
  have ih0 := qQ.mono_l k
  ·intro y0 y1 y2 y3
   unfold qQ.l0
   repeat' first
   | (with_reducible exact ih0 _ _ _ _)
   | (with_reducible exact LeO.refl _)
   | (with_reducible exact LeO.none _)
   | (with_reducible refine LeO.ite ?_ ?_)
   | (with_reducible refine LeO.bind ?_ (fun _ => ?_))
   | exact ih0 _ _ _ _
   | exact qR.mono _ _
   | exact LeO.none _
   | refine LeO.ite ?_ ?_
   | refine LeO.bind ?_ (fun _ => ?_)
theorem qQ.mono : ∀ a0 k, LeO (qQ.f k a0) (qQ.f (k + 1) a0) := by
 intro a0 k
 have ih0 := qQ.mono_l k
 unfold qQ.f
 repeat' first
   | (with_reducible exact ih0 _ _ _ _)
   | (with_reducible exact LeO.refl _)
   | (with_reducible exact LeO.none _)
   | (with_reducible refine LeO.ite ?_ ?_)
   | (with_reducible refine LeO.bind ?_ (fun _ => ?_))
   | exact ih0 _ _ _ _
   | exact qR.mono _ _
   | exact LeO.none _
   | refine LeO.ite ?_ ?_
   | refine LeO.bind ?_ (fun _ => ?_)
set_option maxHeartbeats 8000000 in
set_option maxRecDepth 100000 in
theorem qQ.calls (k : Nat) (A0 : Option Addr) (c0 : Nat) (l0 : List (S37)) (r : ByteArray) (w : World) (hr0 : Kd.C k37 w A0 l0.length l0) (hc0 : l0.length ≤ c0) (h : qQ.f k l0 = some r) :
  Calls Try.prog 30 #[.slice A0 l0.length c0] w fun e w' => e = .returned (.string r) ∧ Below w.heap.size w w' := by
 have hu37 := Try.underlying37
 have HR0 := Aside0.mk hr0
 have HC0 := Aside0.mk hc0
 clear hr0 hc0
 have HB := Aside0.mk (Below.refl w.heap.size w)
 have H : (qQ.l0 k ([] : List ByteArray) l0 (l0.length : Int) 0) = some r := h
 clear h
 have H' := Aside0.mk H
 clear H
 go_enter Try.func30, Try.ntmps30
 go_wp2
 repeat (go_quiet (fail); try go_wp2)
 go_loopg [3, 10] k (fun kq v3 v10 w' => ∃ (x3_1 : List ByteArray) (x10_1 : Int), v10 = .int .i64 x10_1 ∧ Aside0 (qQ.l0 kq x3_1 l0 (l0.length : Int) x10_1 = some r) ∧ Aside0 (kq ≤ k) ∧ Aside0 (Kd.R Kd.string 9 w' w.heap.size (fun _ => True) v3 x3_1) ∧ Aside0 (Below w.heap.size w w'))
 case atStart => exact ⟨(([] : List ByteArray)), (0), rs_, H', ⟨Nat.le_refl _⟩, ⟨by first | exact Kd.R_nil _ _ _ _ _ | exact Kd.N_nil _ _ _ _ _ | exact Kd.V_nil _ _ _ _ _ | exact Kd.Q_nil _ _ _ _ _ | exact Kd.S_nil _ _ _ _ _⟩, ⟨hB_⟩⟩
 case round =>
  clear H'
  obtain ⟨x3_1, x10_1, rfl, HA, HK1, HO_3, HB⟩ := hrel
  cases gk with
  | zero => exact absurd HA.out (by simp [qQ.l0])
  | succ k1 =>
   have H := HA.out
   clear HA
   simp only [qQ.l0] at H
   by_cases c2 : x10_1 < (l0.length : Int)
   rotate_left
   ·rw [if_neg c2] at H
    have c2b0 := decide_eq_false c2
    clear c2
    replace H := bs_ H
    obtain ⟨⟨t126, t127⟩, A230, H⟩ := H
    try dsimp only at H
    have A23 := Aside0.mk A230
    clear A230
    obtain rfl := Option.some.inj H
    obtain ⟨Ao24, co24, eo24⟩ := Kd.R_slice HO_3.out
    subst eo24
    go_wp2_with (first | (go_at_call 59; (with_reducible refine (qR.calls k1 _ _ x3_1 t126 t127 _ ?side1 ?side2 A23.out).mono ?_); (case side1 => repeat (first | exact (Kd.R_reads' HO_3.out).2.2 | (with_reducible refine Kd.C_alloc ?_ _) | (with_reducible refine Kd.C_drewN ?_ _) | (with_reducible refine Kd.C_drew ?_))); (case side2 => exact (Kd.R_reads' HO_3.out).2.1); rintro e w25 ⟨rfl, hb⟩; replace HO_3 := Aside0.mk (Kd.R_below r14_ hb); replace HB := Aside0.mk (below_step hB_ hb); clear hb A23))
    repeat (go_quiet (first | (go_at_call 59; (with_reducible refine (qR.calls k1 _ _ x3_1 t126 t127 _ ?side1 ?side2 A23.out).mono ?_); (case side1 => repeat (first | exact (Kd.R_reads' HO_3.out).2.2 | (with_reducible refine Kd.C_alloc ?_ _) | (with_reducible refine Kd.C_drewN ?_ _) | (with_reducible refine Kd.C_drew ?_))); (case side2 => exact (Kd.R_reads' HO_3.out).2.1); rintro e w25 ⟨rfl, hb⟩; replace HO_3 := Aside0.mk (Kd.R_below r14_ hb); replace HB := Aside0.mk (below_step hB_ hb); clear hb A23)); try go_wp2_with (first | (go_at_call 59; (with_reducible refine (qR.calls k1 _ _ x3_1 t126 t127 _ ?side1 ?side2 A23.out).mono ?_); (case side1 => repeat (first | exact (Kd.R_reads' HO_3.out).2.2 | (with_reducible refine Kd.C_alloc ?_ _) | (with_reducible refine Kd.C_drewN ?_ _) | (with_reducible refine Kd.C_drew ?_))); (case side2 => exact (Kd.R_reads' HO_3.out).2.1); rintro e w25 ⟨rfl, hb⟩; replace HO_3 := Aside0.mk (Kd.R_below r14_ hb); replace HB := Aside0.mk (below_step hB_ hb); clear hb A23)))
    go_ret
    exact ⟨rf_, hB_⟩
   rw [if_pos c2] at H
   have c2b0 := decide_eq_true c2
   clear c2
   by_cases c3 : 0 ≤ x10_1
   rotate_left
   ·rw [if_neg c3] at H
    exact absurd H r17_
   rw [if_pos c3] at H
   have c3b0 := decide_eq_true c3
   clear c3
   by_cases c4 : x10_1 < (l0.length : Int)
   rotate_left
   ·rw [if_neg c4] at H
    exact absurd H r17_
   rw [if_pos c4] at H
   have c4b0 := decide_eq_true c4
   clear c4
   by_cases c5 : (x3_1.length : Int) = 0
   ·rw [if_pos c5] at H
    have c5b0 := beq_iff_eq.mpr c5
    have c5b1 := bne_eq_false_iff_eq.mpr c5
    clear c5
    by_cases c6 : x3_1.length < 8796093022208
    rotate_left
    ·rw [if_neg c6] at H
     exact absurd H r17_
    rw [if_pos c6] at H
    have LMc6 := Aside0.mk c6
    clear c6
    obtain ⟨y119, hy119⟩ : ∃ y_ : List ByteArray, y_ = (x3_1 ++ [(rd_T37 l0 x10_1).f0]) := ⟨_, rfl⟩
    replace H : (qQ.l0 k1 y119 l0 (l0.length : Int) (wrap64 (x10_1 + 1))) = some r := by first | (rw [hy119]; with_reducible exact H) | (have H2_ := (Option.bind_some _ _).symm.trans H; rw [hy119]; with_reducible exact H2_) | (have H2_ := (Option.bind_some _ _).symm.trans H; with_reducible exact H2_) | with_reducible exact H | (rw [hy119]; exact H) | exact H
    have Ny119 := Aside0.mk hy119
    clear hy119
    have H' := Aside0.mk H
    clear H
    have p117 : 0 ≤ (x10_1 : Int) := of_decide_eq_true as_
    have q117 : x10_1 < (l0.length : Int) := of_decide_eq_true as_
    obtain ⟨ad117, e117, hx117_0, hx117_1, hx117_2, hx117_3⟩ := at_T37 HR0.out x10_1 p117 q117
    cases e117
    replace hx117_0 := (HB.out.cell (World.block_lt_of_cell? w _ hx117_0)).trans hx117_0
    replace hx117_1 := (HB.out.cell (World.block_lt_of_cell? w _ hx117_1)).trans hx117_1
    replace hx117_2 := (HB.out.cell (World.block_lt_of_cell? w _ hx117_2)).trans hx117_2
    replace hx117_3 := (HB.out.cell (World.block_lt_of_cell? w _ hx117_3)).trans hx117_3
    replace p117 := eq_true p117
    replace q117 := eq_true q117
    go_wp2_with (first | ((with_reducible refine gate_dst (N := 5) rfl ?_); (try (refine gate_guard r37_ ?_; dsimp only)); refine box_event ?hg (N := 5) ?hd (cs := #[.string (⟨#[]⟩ : ByteArray), .int .u64 0, .bool false, .string (⟨#[]⟩ : ByteArray)]) (t := 37) ?hr ?_; (case hd => rfl); (case hg => rfl); (case hr => first | (go_simp; done) | (go_simp; rfl)); intro gb118 hg w7 hbox hb; replace HO_3 := Aside0.mk (Kd.R_below r14_ hb); have BK118 := Aside0.mk (hbox); have GW118 := Aside0.mk ((by rw [hg]; exact (below_size hB_) : w.heap.size ≤ gb118)); have GE118 := Aside0.mk ((by rw [hg]; exact (below_size hB_) : w.heap.size ≤ gb118)); replace HB := Aside0.mk (below_step hB_ hb); clear hb hbox hg; have hcz8_0 : w7.cell? ⟨gb118, 0, none⟩ = some (.string (⟨#[]⟩ : ByteArray)) := (blk_cell BK118.out 0).trans rfl; have hcz8_1 : w7.cell? ⟨gb118, 1, none⟩ = some (.int .u64 0) := (blk_cell BK118.out 1).trans rfl; have hcz8_2 : w7.cell? ⟨gb118, 2, none⟩ = some (.bool false) := (blk_cell BK118.out 2).trans rfl; have hcz8_3 : w7.cell? ⟨gb118, 3, none⟩ = some (.string (⟨#[]⟩ : ByteArray)) := (blk_cell BK118.out 3).trans rfl; have hfz8_0 := blk_frozen BK118.out 0; have hfz8_1 := blk_frozen BK118.out 1; have hfz8_2 := blk_frozen BK118.out 2; have hfz8_3 := blk_frozen BK118.out 3; obtain ⟨Ao9, co9, eo9⟩ := Kd.R_slice HO_3.out; subst eo9) | ((with_reducible refine gate_builtin (b := .append) (xs := #[.tmp 28, .tmp 31]) rfl ?_); (try (refine gate_guard r37_ ?_; dsimp only)); at_builtin; refine Kd.R_append Kd.string (w0 := w) w.heap.size rfl (.tmp 28) (.tmp 31) 73 9 (.string ⟨#[]⟩) 16 rfl Try.underlying73 info9 rfl r24_ r18_ (.slice Ao9 x3_1.length co9) x3_1 ((rd_T37 l0 x10_1).f0) [.string ((rd_T37 l0 x10_1).f0)] (fun _ => True) (fun _ => False) rfl r25_ ?aP (fun _ hk => hk.elim) ?aF ?aO ?aB ?aS ?aL ?_; (case aP => exact rfl); (case aB => exact r15_); (case aF => exact (fun _ _ => trivial)); (case aO => exact r11_); (case aS => exact (below_size r15_)); (case aL => have := LMc6.out; omega); intro v120 w10 ho hb hg hat; rw [← Ny119.out] at ho; replace BK118 := Aside0.mk (blk_grown (g := gb118) (o := .cells #[.string ((rd_T37 l0 x10_1).f0), .int .u64 ((rd_T37 l0 x10_1).f1), .bool ((rd_T37 l0 x10_1).f2), .string ((rd_T37 l0 x10_1).f3)] 37 (0, 0)) r7_ hg (Kd.R_ne HO_3.out BK118.out r24_)); replace HB := Aside0.mk (hb); have HO121 := Aside0.mk (ho); clear HO_3; clear ho hb hg hat))
    repeat (go_quiet (fail); try go_wp2_with (first | ((with_reducible refine gate_dst (N := 5) rfl ?_); (try (refine gate_guard r37_ ?_; dsimp only)); refine box_event ?hg (N := 5) ?hd (cs := #[.string (⟨#[]⟩ : ByteArray), .int .u64 0, .bool false, .string (⟨#[]⟩ : ByteArray)]) (t := 37) ?hr ?_; (case hd => rfl); (case hg => rfl); (case hr => first | (go_simp; done) | (go_simp; rfl)); intro gb118 hg w7 hbox hb; replace HO_3 := Aside0.mk (Kd.R_below r14_ hb); have BK118 := Aside0.mk (hbox); have GW118 := Aside0.mk ((by rw [hg]; exact (below_size hB_) : w.heap.size ≤ gb118)); have GE118 := Aside0.mk ((by rw [hg]; exact (below_size hB_) : w.heap.size ≤ gb118)); replace HB := Aside0.mk (below_step hB_ hb); clear hb hbox hg; have hcz8_0 : w7.cell? ⟨gb118, 0, none⟩ = some (.string (⟨#[]⟩ : ByteArray)) := (blk_cell BK118.out 0).trans rfl; have hcz8_1 : w7.cell? ⟨gb118, 1, none⟩ = some (.int .u64 0) := (blk_cell BK118.out 1).trans rfl; have hcz8_2 : w7.cell? ⟨gb118, 2, none⟩ = some (.bool false) := (blk_cell BK118.out 2).trans rfl; have hcz8_3 : w7.cell? ⟨gb118, 3, none⟩ = some (.string (⟨#[]⟩ : ByteArray)) := (blk_cell BK118.out 3).trans rfl; have hfz8_0 := blk_frozen BK118.out 0; have hfz8_1 := blk_frozen BK118.out 1; have hfz8_2 := blk_frozen BK118.out 2; have hfz8_3 := blk_frozen BK118.out 3; obtain ⟨Ao9, co9, eo9⟩ := Kd.R_slice HO_3.out; subst eo9) | ((with_reducible refine gate_builtin (b := .append) (xs := #[.tmp 28, .tmp 31]) rfl ?_); (try (refine gate_guard r37_ ?_; dsimp only)); at_builtin; refine Kd.R_append Kd.string (w0 := w) w.heap.size rfl (.tmp 28) (.tmp 31) 73 9 (.string ⟨#[]⟩) 16 rfl Try.underlying73 info9 rfl r24_ r18_ (.slice Ao9 x3_1.length co9) x3_1 ((rd_T37 l0 x10_1).f0) [.string ((rd_T37 l0 x10_1).f0)] (fun _ => True) (fun _ => False) rfl r25_ ?aP (fun _ hk => hk.elim) ?aF ?aO ?aB ?aS ?aL ?_; (case aP => exact rfl); (case aB => exact r15_); (case aF => exact (fun _ _ => trivial)); (case aO => exact r11_); (case aS => exact (below_size r15_)); (case aL => have := LMc6.out; omega); intro v120 w10 ho hb hg hat; rw [← Ny119.out] at ho; replace BK118 := Aside0.mk (blk_grown (g := gb118) (o := .cells #[.string ((rd_T37 l0 x10_1).f0), .int .u64 ((rd_T37 l0 x10_1).f1), .bool ((rd_T37 l0 x10_1).f2), .string ((rd_T37 l0 x10_1).f3)] 37 (0, 0)) r7_ hg (Kd.R_ne HO_3.out BK118.out r24_)); replace HB := Aside0.mk (hb); have HO121 := Aside0.mk (ho); clear HO_3; clear ho hb hg hat)))
    go_roundg k1
    case measure => have := HK1.out; omega
    case rel => exact ⟨(y119), (wrap64 (x10_1 + 1)), rs_, hH_, ⟨by have := HK1.out; omega⟩, ⟨by (with_reducible repeat (first | apply Kd.R_alloc | apply Kd.R_drewN | apply Kd.R_drew)); exact HO121.out⟩, ⟨r15_⟩⟩
   rw [if_neg c5] at H
   have c5b0 := beq_eq_false_iff_ne.mpr c5
   have c5b1 := bne_iff_ne.mpr c5
   have c5b2 : ¬ (x3_1 = []) := fun h_ => c5 (by rw [h_]; rfl)
   obtain ⟨ji11, hji11⟩ : ∃ j_ : Int, (wrap64 ((x3_1.length : Int) - 1)) = j_ := ⟨_, rfl⟩
   replace H : (if 0 ≤ (ji11) then (if (ji11) < (x3_1.length : Int) then (if (rdOf ByteArray.empty x3_1 (ji11)).toList = ((rd_T37 l0 x10_1).f0).toList then (qQ.l0 k1 x3_1 l0 (l0.length : Int) (wrap64 (x10_1 + 1))) else (if x3_1.length < 8796093022208 then (qQ.l0 k1 (x3_1 ++ [(rd_T37 l0 x10_1).f0]) l0 (l0.length : Int) (wrap64 (x10_1 + 1))) else (none))) else (none)) else (none)) = some r := by first | (rw [hji11] at H; exact H) | (simp only [hji11] at H ⊢; exact H)
   (try rw [hji11])
   have hji11w : (IntKind.i64.wrap ((x3_1.length : Int) - 1)) = ji11 := (i64_w _).trans hji11
   by_cases c12 : 0 ≤ (ji11)
   rotate_left
   ·rw [if_neg c12] at H
    exact absurd H r17_
   rw [if_pos c12] at H
   have c12b0 := decide_eq_true c12
   clear c12
   by_cases c13 : (ji11) < (x3_1.length : Int)
   rotate_left
   ·rw [if_neg c13] at H
    exact absurd H r17_
   rw [if_pos c13] at H
   have c13b0 := decide_eq_true c13
   clear c13
   by_cases c14 : (rdOf ByteArray.empty x3_1 (ji11)).toList = ((rd_T37 l0 x10_1).f0).toList
   ·rw [if_pos c14] at H
    have c14b0 := beq_iff_eq.mpr c14
    have c14b1 := bne_eq_false_iff_eq.mpr c14
    clear c14
    have H' := Aside0.mk H
    clear H
    have p117 : 0 ≤ (x10_1 : Int) := of_decide_eq_true as_
    have q117 : x10_1 < (l0.length : Int) := of_decide_eq_true as_
    obtain ⟨ad117, e117, hx117_0, hx117_1, hx117_2, hx117_3⟩ := at_T37 HR0.out x10_1 p117 q117
    cases e117
    replace hx117_0 := (HB.out.cell (World.block_lt_of_cell? w _ hx117_0)).trans hx117_0
    replace hx117_1 := (HB.out.cell (World.block_lt_of_cell? w _ hx117_1)).trans hx117_1
    replace hx117_2 := (HB.out.cell (World.block_lt_of_cell? w _ hx117_2)).trans hx117_2
    replace hx117_3 := (HB.out.cell (World.block_lt_of_cell? w _ hx117_3)).trans hx117_3
    replace p117 := eq_true p117
    replace q117 := eq_true q117
    go_wp2_with (first | ((with_reducible refine gate_dst (N := 5) rfl ?_); (try (refine gate_guard r37_ ?_; dsimp only)); refine box_event ?hg (N := 5) ?hd (cs := #[.string (⟨#[]⟩ : ByteArray), .int .u64 0, .bool false, .string (⟨#[]⟩ : ByteArray)]) (t := 37) ?hr ?_; (case hd => rfl); (case hg => rfl); (case hr => first | (go_simp; done) | (go_simp; rfl)); intro gb118 hg w15 hbox hb; replace HO_3 := Aside0.mk (Kd.R_below r14_ hb); have BK118 := Aside0.mk (hbox); have GW118 := Aside0.mk ((by rw [hg]; exact (below_size hB_) : w.heap.size ≤ gb118)); have GE118 := Aside0.mk ((by rw [hg]; exact (below_size hB_) : w.heap.size ≤ gb118)); replace HB := Aside0.mk (below_step hB_ hb); clear hb hbox hg; have hcz16_0 : w15.cell? ⟨gb118, 0, none⟩ = some (.string (⟨#[]⟩ : ByteArray)) := (blk_cell BK118.out 0).trans rfl; have hcz16_1 : w15.cell? ⟨gb118, 1, none⟩ = some (.int .u64 0) := (blk_cell BK118.out 1).trans rfl; have hcz16_2 : w15.cell? ⟨gb118, 2, none⟩ = some (.bool false) := (blk_cell BK118.out 2).trans rfl; have hcz16_3 : w15.cell? ⟨gb118, 3, none⟩ = some (.string (⟨#[]⟩ : ByteArray)) := (blk_cell BK118.out 3).trans rfl; have hfz16_0 := blk_frozen BK118.out 0; have hfz16_1 := blk_frozen BK118.out 1; have hfz16_2 := blk_frozen BK118.out 2; have hfz16_3 := blk_frozen BK118.out 3; obtain ⟨Ao17, co17, eo17⟩ := Kd.R_slice HO_3.out; subst eo17; have p122 : 0 ≤ ((ji11) : Int) := of_decide_eq_true as_; have q122 : (ji11) < (x3_1.length : Int) := of_decide_eq_true as_; obtain ⟨ad122, e122, hx122_0⟩ := Kd.at_string (Kd.R_reads' HO_3.out).2.2 (ji11) p122 q122; cases e122; have hn122_0 : ad122.block ≠ gb118 := Kd.own_blk (Kd.R_ne HO_3.out BK118.out r24_); have hn122_1 : ad122.block ≠ gb118 := Kd.own_blk (Kd.R_ne HO_3.out BK118.out r24_); have hn122_2 : ad122.block ≠ gb118 := Kd.own_blk (Kd.R_ne HO_3.out BK118.out r24_); have hn122_3 : ad122.block ≠ gb118 := Kd.own_blk (Kd.R_ne HO_3.out BK118.out r24_); replace hx122_0 := (cell_far (p := ⟨gb118, 0, none⟩) r32_ (.string ((rd_T37 l0 x10_1).f0))).trans hx122_0; replace hx122_0 := (cell_far (p := ⟨gb118, 1, none⟩) r33_ (.int .u64 ((rd_T37 l0 x10_1).f1))).trans hx122_0; replace hx122_0 := (cell_far (p := ⟨gb118, 2, none⟩) r34_ (.bool ((rd_T37 l0 x10_1).f2))).trans hx122_0; replace hx122_0 := (cell_far (p := ⟨gb118, 3, none⟩) r35_ (.string ((rd_T37 l0 x10_1).f3))).trans hx122_0; (try have hy122_0 := fun (n_ : Nat) => (show ((((((w15.drewN n_).setCell ⟨gb118, 0, none⟩ (.string ((rd_T37 l0 x10_1).f0))).setCell ⟨gb118, 1, none⟩ (.int .u64 ((rd_T37 l0 x10_1).f1))).setCell ⟨gb118, 2, none⟩ (.bool ((rd_T37 l0 x10_1).f2))).setCell ⟨gb118, 3, none⟩ (.string ((rd_T37 l0 x10_1).f3)))).cell? _ = some _ from hx122_0)); clear hn122_0; clear hn122_1; clear hn122_2; clear hn122_3; replace p122 := eq_true p122; replace q122 := eq_true q122))
    repeat (go_quiet (fail); try go_wp2_with (first | ((with_reducible refine gate_dst (N := 5) rfl ?_); (try (refine gate_guard r37_ ?_; dsimp only)); refine box_event ?hg (N := 5) ?hd (cs := #[.string (⟨#[]⟩ : ByteArray), .int .u64 0, .bool false, .string (⟨#[]⟩ : ByteArray)]) (t := 37) ?hr ?_; (case hd => rfl); (case hg => rfl); (case hr => first | (go_simp; done) | (go_simp; rfl)); intro gb118 hg w15 hbox hb; replace HO_3 := Aside0.mk (Kd.R_below r14_ hb); have BK118 := Aside0.mk (hbox); have GW118 := Aside0.mk ((by rw [hg]; exact (below_size hB_) : w.heap.size ≤ gb118)); have GE118 := Aside0.mk ((by rw [hg]; exact (below_size hB_) : w.heap.size ≤ gb118)); replace HB := Aside0.mk (below_step hB_ hb); clear hb hbox hg; have hcz16_0 : w15.cell? ⟨gb118, 0, none⟩ = some (.string (⟨#[]⟩ : ByteArray)) := (blk_cell BK118.out 0).trans rfl; have hcz16_1 : w15.cell? ⟨gb118, 1, none⟩ = some (.int .u64 0) := (blk_cell BK118.out 1).trans rfl; have hcz16_2 : w15.cell? ⟨gb118, 2, none⟩ = some (.bool false) := (blk_cell BK118.out 2).trans rfl; have hcz16_3 : w15.cell? ⟨gb118, 3, none⟩ = some (.string (⟨#[]⟩ : ByteArray)) := (blk_cell BK118.out 3).trans rfl; have hfz16_0 := blk_frozen BK118.out 0; have hfz16_1 := blk_frozen BK118.out 1; have hfz16_2 := blk_frozen BK118.out 2; have hfz16_3 := blk_frozen BK118.out 3; obtain ⟨Ao17, co17, eo17⟩ := Kd.R_slice HO_3.out; subst eo17; have p122 : 0 ≤ ((ji11) : Int) := of_decide_eq_true as_; have q122 : (ji11) < (x3_1.length : Int) := of_decide_eq_true as_; obtain ⟨ad122, e122, hx122_0⟩ := Kd.at_string (Kd.R_reads' HO_3.out).2.2 (ji11) p122 q122; cases e122; have hn122_0 : ad122.block ≠ gb118 := Kd.own_blk (Kd.R_ne HO_3.out BK118.out r24_); have hn122_1 : ad122.block ≠ gb118 := Kd.own_blk (Kd.R_ne HO_3.out BK118.out r24_); have hn122_2 : ad122.block ≠ gb118 := Kd.own_blk (Kd.R_ne HO_3.out BK118.out r24_); have hn122_3 : ad122.block ≠ gb118 := Kd.own_blk (Kd.R_ne HO_3.out BK118.out r24_); replace hx122_0 := (cell_far (p := ⟨gb118, 0, none⟩) r32_ (.string ((rd_T37 l0 x10_1).f0))).trans hx122_0; replace hx122_0 := (cell_far (p := ⟨gb118, 1, none⟩) r33_ (.int .u64 ((rd_T37 l0 x10_1).f1))).trans hx122_0; replace hx122_0 := (cell_far (p := ⟨gb118, 2, none⟩) r34_ (.bool ((rd_T37 l0 x10_1).f2))).trans hx122_0; replace hx122_0 := (cell_far (p := ⟨gb118, 3, none⟩) r35_ (.string ((rd_T37 l0 x10_1).f3))).trans hx122_0; (try have hy122_0 := fun (n_ : Nat) => (show ((((((w15.drewN n_).setCell ⟨gb118, 0, none⟩ (.string ((rd_T37 l0 x10_1).f0))).setCell ⟨gb118, 1, none⟩ (.int .u64 ((rd_T37 l0 x10_1).f1))).setCell ⟨gb118, 2, none⟩ (.bool ((rd_T37 l0 x10_1).f2))).setCell ⟨gb118, 3, none⟩ (.string ((rd_T37 l0 x10_1).f3)))).cell? _ = some _ from hx122_0)); clear hn122_0; clear hn122_1; clear hn122_2; clear hn122_3; replace p122 := eq_true p122; replace q122 := eq_true q122)))
    go_roundg k1
    case measure => have := HK1.out; omega
    case rel => exact ⟨(x3_1), (wrap64 (x10_1 + 1)), rs_, hH_, ⟨by have := HK1.out; omega⟩, ⟨r11_⟩, ⟨r15_⟩⟩
   rw [if_neg c14] at H
   have c14b0 := beq_eq_false_iff_ne.mpr c14
   have c14b1 := bne_iff_ne.mpr c14
   by_cases c18 : x3_1.length < 8796093022208
   rotate_left
   ·rw [if_neg c18] at H
    exact absurd H r17_
   rw [if_pos c18] at H
   have LMc18 := Aside0.mk c18
   clear c18
   obtain ⟨y123, hy123⟩ : ∃ y_ : List ByteArray, y_ = (x3_1 ++ [(rd_T37 l0 x10_1).f0]) := ⟨_, rfl⟩
   replace H : (qQ.l0 k1 y123 l0 (l0.length : Int) (wrap64 (x10_1 + 1))) = some r := by first | (rw [hy123]; with_reducible exact H) | (have H2_ := (Option.bind_some _ _).symm.trans H; rw [hy123]; with_reducible exact H2_) | (have H2_ := (Option.bind_some _ _).symm.trans H; with_reducible exact H2_) | with_reducible exact H | (rw [hy123]; exact H) | exact H
   have Ny123 := Aside0.mk hy123
   clear hy123
   have H' := Aside0.mk H
   clear H
   have p117 : 0 ≤ (x10_1 : Int) := of_decide_eq_true as_
   have q117 : x10_1 < (l0.length : Int) := of_decide_eq_true as_
   obtain ⟨ad117, e117, hx117_0, hx117_1, hx117_2, hx117_3⟩ := at_T37 HR0.out x10_1 p117 q117
   cases e117
   replace hx117_0 := (HB.out.cell (World.block_lt_of_cell? w _ hx117_0)).trans hx117_0
   replace hx117_1 := (HB.out.cell (World.block_lt_of_cell? w _ hx117_1)).trans hx117_1
   replace hx117_2 := (HB.out.cell (World.block_lt_of_cell? w _ hx117_2)).trans hx117_2
   replace hx117_3 := (HB.out.cell (World.block_lt_of_cell? w _ hx117_3)).trans hx117_3
   replace p117 := eq_true p117
   replace q117 := eq_true q117
   go_wp2_with (first | ((with_reducible refine gate_dst (N := 5) rfl ?_); (try (refine gate_guard r37_ ?_; dsimp only)); refine box_event ?hg (N := 5) ?hd (cs := #[.string (⟨#[]⟩ : ByteArray), .int .u64 0, .bool false, .string (⟨#[]⟩ : ByteArray)]) (t := 37) ?hr ?_; (case hd => rfl); (case hg => rfl); (case hr => first | (go_simp; done) | (go_simp; rfl)); intro gb118 hg w19 hbox hb; replace HO_3 := Aside0.mk (Kd.R_below r14_ hb); have BK118 := Aside0.mk (hbox); have GW118 := Aside0.mk ((by rw [hg]; exact (below_size hB_) : w.heap.size ≤ gb118)); have GE118 := Aside0.mk ((by rw [hg]; exact (below_size hB_) : w.heap.size ≤ gb118)); replace HB := Aside0.mk (below_step hB_ hb); clear hb hbox hg; have hcz20_0 : w19.cell? ⟨gb118, 0, none⟩ = some (.string (⟨#[]⟩ : ByteArray)) := (blk_cell BK118.out 0).trans rfl; have hcz20_1 : w19.cell? ⟨gb118, 1, none⟩ = some (.int .u64 0) := (blk_cell BK118.out 1).trans rfl; have hcz20_2 : w19.cell? ⟨gb118, 2, none⟩ = some (.bool false) := (blk_cell BK118.out 2).trans rfl; have hcz20_3 : w19.cell? ⟨gb118, 3, none⟩ = some (.string (⟨#[]⟩ : ByteArray)) := (blk_cell BK118.out 3).trans rfl; have hfz20_0 := blk_frozen BK118.out 0; have hfz20_1 := blk_frozen BK118.out 1; have hfz20_2 := blk_frozen BK118.out 2; have hfz20_3 := blk_frozen BK118.out 3; obtain ⟨Ao21, co21, eo21⟩ := Kd.R_slice HO_3.out; subst eo21; have p122 : 0 ≤ ((ji11) : Int) := of_decide_eq_true as_; have q122 : (ji11) < (x3_1.length : Int) := of_decide_eq_true as_; obtain ⟨ad122, e122, hx122_0⟩ := Kd.at_string (Kd.R_reads' HO_3.out).2.2 (ji11) p122 q122; cases e122; have hn122_0 : ad122.block ≠ gb118 := Kd.own_blk (Kd.R_ne HO_3.out BK118.out r24_); have hn122_1 : ad122.block ≠ gb118 := Kd.own_blk (Kd.R_ne HO_3.out BK118.out r24_); have hn122_2 : ad122.block ≠ gb118 := Kd.own_blk (Kd.R_ne HO_3.out BK118.out r24_); have hn122_3 : ad122.block ≠ gb118 := Kd.own_blk (Kd.R_ne HO_3.out BK118.out r24_); replace hx122_0 := (cell_far (p := ⟨gb118, 0, none⟩) r32_ (.string ((rd_T37 l0 x10_1).f0))).trans hx122_0; replace hx122_0 := (cell_far (p := ⟨gb118, 1, none⟩) r33_ (.int .u64 ((rd_T37 l0 x10_1).f1))).trans hx122_0; replace hx122_0 := (cell_far (p := ⟨gb118, 2, none⟩) r34_ (.bool ((rd_T37 l0 x10_1).f2))).trans hx122_0; replace hx122_0 := (cell_far (p := ⟨gb118, 3, none⟩) r35_ (.string ((rd_T37 l0 x10_1).f3))).trans hx122_0; (try have hy122_0 := fun (n_ : Nat) => (show ((((((w19.drewN n_).setCell ⟨gb118, 0, none⟩ (.string ((rd_T37 l0 x10_1).f0))).setCell ⟨gb118, 1, none⟩ (.int .u64 ((rd_T37 l0 x10_1).f1))).setCell ⟨gb118, 2, none⟩ (.bool ((rd_T37 l0 x10_1).f2))).setCell ⟨gb118, 3, none⟩ (.string ((rd_T37 l0 x10_1).f3)))).cell? _ = some _ from hx122_0)); clear hn122_0; clear hn122_1; clear hn122_2; clear hn122_3; replace p122 := eq_true p122; replace q122 := eq_true q122) | ((with_reducible refine gate_builtin (b := .append) (xs := #[.tmp 28, .tmp 31]) rfl ?_); (try (refine gate_guard r37_ ?_; dsimp only)); at_builtin; refine Kd.R_append Kd.string (w0 := w) w.heap.size rfl (.tmp 28) (.tmp 31) 73 9 (.string ⟨#[]⟩) 16 rfl Try.underlying73 info9 rfl r24_ r18_ (.slice (some ad122) x3_1.length co21) x3_1 ((rd_T37 l0 x10_1).f0) [.string ((rd_T37 l0 x10_1).f0)] (fun _ => True) (fun _ => False) rfl r25_ ?aP (fun _ hk => hk.elim) ?aF ?aO ?aB ?aS ?aL ?_; (case aP => exact rfl); (case aB => exact r15_); (case aF => exact (fun _ _ => trivial)); (case aO => exact r11_); (case aS => exact (below_size r15_)); (case aL => have := LMc18.out; omega); intro v124 w22 ho hb hg hat; rw [← Ny123.out] at ho; replace BK118 := Aside0.mk (blk_grown (g := gb118) (o := .cells #[.string ((rd_T37 l0 x10_1).f0), .int .u64 ((rd_T37 l0 x10_1).f1), .bool ((rd_T37 l0 x10_1).f2), .string ((rd_T37 l0 x10_1).f3)] 37 (0, 0)) r7_ hg (Kd.R_ne HO_3.out BK118.out r24_)); replace HB := Aside0.mk (hb); have HO125 := Aside0.mk (ho); clear HO_3; clear ho hb hg hat))
   repeat (go_quiet (fail); try go_wp2_with (first | ((with_reducible refine gate_dst (N := 5) rfl ?_); (try (refine gate_guard r37_ ?_; dsimp only)); refine box_event ?hg (N := 5) ?hd (cs := #[.string (⟨#[]⟩ : ByteArray), .int .u64 0, .bool false, .string (⟨#[]⟩ : ByteArray)]) (t := 37) ?hr ?_; (case hd => rfl); (case hg => rfl); (case hr => first | (go_simp; done) | (go_simp; rfl)); intro gb118 hg w19 hbox hb; replace HO_3 := Aside0.mk (Kd.R_below r14_ hb); have BK118 := Aside0.mk (hbox); have GW118 := Aside0.mk ((by rw [hg]; exact (below_size hB_) : w.heap.size ≤ gb118)); have GE118 := Aside0.mk ((by rw [hg]; exact (below_size hB_) : w.heap.size ≤ gb118)); replace HB := Aside0.mk (below_step hB_ hb); clear hb hbox hg; have hcz20_0 : w19.cell? ⟨gb118, 0, none⟩ = some (.string (⟨#[]⟩ : ByteArray)) := (blk_cell BK118.out 0).trans rfl; have hcz20_1 : w19.cell? ⟨gb118, 1, none⟩ = some (.int .u64 0) := (blk_cell BK118.out 1).trans rfl; have hcz20_2 : w19.cell? ⟨gb118, 2, none⟩ = some (.bool false) := (blk_cell BK118.out 2).trans rfl; have hcz20_3 : w19.cell? ⟨gb118, 3, none⟩ = some (.string (⟨#[]⟩ : ByteArray)) := (blk_cell BK118.out 3).trans rfl; have hfz20_0 := blk_frozen BK118.out 0; have hfz20_1 := blk_frozen BK118.out 1; have hfz20_2 := blk_frozen BK118.out 2; have hfz20_3 := blk_frozen BK118.out 3; obtain ⟨Ao21, co21, eo21⟩ := Kd.R_slice HO_3.out; subst eo21; have p122 : 0 ≤ ((ji11) : Int) := of_decide_eq_true as_; have q122 : (ji11) < (x3_1.length : Int) := of_decide_eq_true as_; obtain ⟨ad122, e122, hx122_0⟩ := Kd.at_string (Kd.R_reads' HO_3.out).2.2 (ji11) p122 q122; cases e122; have hn122_0 : ad122.block ≠ gb118 := Kd.own_blk (Kd.R_ne HO_3.out BK118.out r24_); have hn122_1 : ad122.block ≠ gb118 := Kd.own_blk (Kd.R_ne HO_3.out BK118.out r24_); have hn122_2 : ad122.block ≠ gb118 := Kd.own_blk (Kd.R_ne HO_3.out BK118.out r24_); have hn122_3 : ad122.block ≠ gb118 := Kd.own_blk (Kd.R_ne HO_3.out BK118.out r24_); replace hx122_0 := (cell_far (p := ⟨gb118, 0, none⟩) r32_ (.string ((rd_T37 l0 x10_1).f0))).trans hx122_0; replace hx122_0 := (cell_far (p := ⟨gb118, 1, none⟩) r33_ (.int .u64 ((rd_T37 l0 x10_1).f1))).trans hx122_0; replace hx122_0 := (cell_far (p := ⟨gb118, 2, none⟩) r34_ (.bool ((rd_T37 l0 x10_1).f2))).trans hx122_0; replace hx122_0 := (cell_far (p := ⟨gb118, 3, none⟩) r35_ (.string ((rd_T37 l0 x10_1).f3))).trans hx122_0; (try have hy122_0 := fun (n_ : Nat) => (show ((((((w19.drewN n_).setCell ⟨gb118, 0, none⟩ (.string ((rd_T37 l0 x10_1).f0))).setCell ⟨gb118, 1, none⟩ (.int .u64 ((rd_T37 l0 x10_1).f1))).setCell ⟨gb118, 2, none⟩ (.bool ((rd_T37 l0 x10_1).f2))).setCell ⟨gb118, 3, none⟩ (.string ((rd_T37 l0 x10_1).f3)))).cell? _ = some _ from hx122_0)); clear hn122_0; clear hn122_1; clear hn122_2; clear hn122_3; replace p122 := eq_true p122; replace q122 := eq_true q122) | ((with_reducible refine gate_builtin (b := .append) (xs := #[.tmp 28, .tmp 31]) rfl ?_); (try (refine gate_guard r37_ ?_; dsimp only)); at_builtin; refine Kd.R_append Kd.string (w0 := w) w.heap.size rfl (.tmp 28) (.tmp 31) 73 9 (.string ⟨#[]⟩) 16 rfl Try.underlying73 info9 rfl r24_ r18_ (.slice (some ad122) x3_1.length co21) x3_1 ((rd_T37 l0 x10_1).f0) [.string ((rd_T37 l0 x10_1).f0)] (fun _ => True) (fun _ => False) rfl r25_ ?aP (fun _ hk => hk.elim) ?aF ?aO ?aB ?aS ?aL ?_; (case aP => exact rfl); (case aB => exact r15_); (case aF => exact (fun _ _ => trivial)); (case aO => exact r11_); (case aS => exact (below_size r15_)); (case aL => have := LMc18.out; omega); intro v124 w22 ho hb hg hat; rw [← Ny123.out] at ho; replace BK118 := Aside0.mk (blk_grown (g := gb118) (o := .cells #[.string ((rd_T37 l0 x10_1).f0), .int .u64 ((rd_T37 l0 x10_1).f1), .bool ((rd_T37 l0 x10_1).f2), .string ((rd_T37 l0 x10_1).f3)] 37 (0, 0)) r7_ hg (Kd.R_ne HO_3.out BK118.out r24_)); replace HB := Aside0.mk (hb); have HO125 := Aside0.mk (ho); clear HO_3; clear ho hb hg hat)))
   go_roundg k1
   case measure => have := HK1.out; omega
   case rel => exact ⟨(y123), (wrap64 (x10_1 + 1)), rs_, hH_, ⟨by have := HK1.out; omega⟩, ⟨by (with_reducible repeat (first | apply Kd.R_alloc | apply Kd.R_drewN | apply Kd.R_drew)); exact HO125.out⟩, ⟨r15_⟩⟩

end Go.Proofs.Ytgdkikkjaofbfaa.P
