-- Printed by a program of this session's own (wip/tools/pprint.sh, over the kit's print, with given contracts): not typed by hand.
import Derived.Test.YtcdadhgcjkgnoaaPx0
import Derived.Test.YtcdadhgcjkgnoaaPx12
import Derived.Test.YtcdadhgcjkgnoaaPx15
namespace Go.Proofs.Ytcdadhgcjkgnoaa.P
open Go.RowKit Go.Proofs.YtcdadhgcjkgnoaaW.PrintWords Go.Proofs.YtcdadhgcjkgnoaaW.PrintLast Go.Proofs.YtcdadhgcjkgnoaaW.PrintMore
set_option linter.unusedVariables false
set_option linter.unusedSimpArgs false
-- SQUEEZED3

/-! ### screeref17_Visible: function 17 -/
mutual
def screeref17_Visible.l0 : Nat → List (S47) → ByteArray → Int → Int → Int → ByteArray → Int → ByteArray → Int → Int → Int → Int → Int → Option (ByteArray × Bool)
 | 0, _, _, _, _, _, _, _, _, _, _, _, _, _ => none
 | k + 1, x0, x1, x2, x9, x393000, x393001, x393002, x393003, x393004, x393005, x393006, x393007, x393008 => if x9 < (x0.length : Int) then (if 0 ≤ x9 then ((screeref17_Read.f k ((rd_T47 x0 x9).f0) ((rd_T47 x0 x9).f1) ((rd_T47 x0 x9).f2) ((rd_T47 x0 x9).f3)).bind fun bt394 => (if bt394.1 = 2 then (if bt394.2.1.toList = x1.toList then (if bt394.2.2.2.2.2.2.2.2 = 3 then (screeref17_Visible.l0 k x0 x1 x2 (wrap64 (x9 + 1)) x393000 x393001 x393002 x393003 x393004 x393005 x393006 x393007 x393008) else (if bt394.2.2.1 ≤ x2 then (if x393000 = 0 then (screeref17_Visible.l0 k x0 x1 x2 (wrap64 (x9 + 1)) bt394.1 bt394.2.1 bt394.2.2.1 bt394.2.2.2.1 bt394.2.2.2.2.1 bt394.2.2.2.2.2.1 bt394.2.2.2.2.2.2.1 bt394.2.2.2.2.2.2.2.1 bt394.2.2.2.2.2.2.2.2) else (if bt394.2.2.1 > x393002 then (screeref17_Visible.l0 k x0 x1 x2 (wrap64 (x9 + 1)) bt394.1 bt394.2.1 bt394.2.2.1 bt394.2.2.2.1 bt394.2.2.2.2.1 bt394.2.2.2.2.2.1 bt394.2.2.2.2.2.2.1 bt394.2.2.2.2.2.2.2.1 bt394.2.2.2.2.2.2.2.2) else (screeref17_Visible.l0 k x0 x1 x2 (wrap64 (x9 + 1)) x393000 x393001 x393002 x393003 x393004 x393005 x393006 x393007 x393008))) else (screeref17_Visible.l0 k x0 x1 x2 (wrap64 (x9 + 1)) x393000 x393001 x393002 x393003 x393004 x393005 x393006 x393007 x393008))) else (screeref17_Visible.l0 k x0 x1 x2 (wrap64 (x9 + 1)) x393000 x393001 x393002 x393003 x393004 x393005 x393006 x393007 x393008)) else (screeref17_Visible.l0 k x0 x1 x2 (wrap64 (x9 + 1)) x393000 x393001 x393002 x393003 x393004 x393005 x393006 x393007 x393008))) else (none)) else (screeref17_Visible.l1 k x0 x1 0 x393000 x393001 x393002 x393003 x393004 x393005 x393006 x393007 x393008)
def screeref17_Visible.l1 : Nat → List (S47) → ByteArray → Int → Int → ByteArray → Int → ByteArray → Int → Int → Int → Int → Int → Option (ByteArray × Bool)
 | 0, _, _, _, _, _, _, _, _, _, _, _, _ => none
 | k + 1, x0, x1, x11, x393000, x393001, x393002, x393003, x393004, x393005, x393006, x393007, x393008 => if x11 < (x0.length : Int) then (screeref17_Visible.j2 k x0 x1 x11 (x393008 == 1) x393000 x393001 x393002 x393003 x393004 x393005 x393006 x393007 x393008) else (screeref17_Visible.j2 k x0 x1 x11 false x393000 x393001 x393002 x393003 x393004 x393005 x393006 x393007 x393008)
def screeref17_Visible.j2 : Nat → List (S47) → ByteArray → Int → Bool → Int → ByteArray → Int → ByteArray → Int → Int → Int → Int → Int → Option (ByteArray × Bool)
 | 0, _, _, _, _, _, _, _, _, _, _, _, _, _ => none
 | k + 1, x0, x1, x11, x71, x393000, x393001, x393002, x393003, x393004, x393005, x393006, x393007, x393008 => if x71 = true then (if 0 ≤ x11 then (if x11 < (x0.length : Int) then ((screeref17_Read.f k ((rd_T47 x0 x11).f0) ((rd_T47 x0 x11).f1) ((rd_T47 x0 x11).f2) ((rd_T47 x0 x11).f3)).bind fun bt405 => (if bt405.1 = 3 then (if bt405.2.1.toList = x1.toList then (if bt405.2.2.1 = x393007 then (some ((rd_T47 x0 x11).f3, true)) else (screeref17_Visible.l1 k x0 x1 (wrap64 (x11 + 1)) x393000 x393001 x393002 x393003 x393004 x393005 x393006 x393007 x393008)) else (screeref17_Visible.l1 k x0 x1 (wrap64 (x11 + 1)) x393000 x393001 x393002 x393003 x393004 x393005 x393006 x393007 x393008)) else (screeref17_Visible.l1 k x0 x1 (wrap64 (x11 + 1)) x393000 x393001 x393002 x393003 x393004 x393005 x393006 x393007 x393008))) else (none)) else (none)) else (some ((⟨#[]⟩ : ByteArray), false))
end
def screeref17_Visible.f (k : Nat) (l0 : List (S47)) (a1 : ByteArray) (a2 : Int) : Option (ByteArray × Bool) := (screeref17_Rises.f k l0).bind fun t391 => (if t391 = true then (screeref17_Visible.l0 k l0 a1 a2 0 0 (⟨#[]⟩ : ByteArray) 0 (⟨#[]⟩ : ByteArray) 0 0 0 0 0) else (some ((⟨#[]⟩ : ByteArray), false)))
theorem screeref17_Visible.mono_l : ∀ k, (∀ y0 y1 y2 y3 y4 y5 y6 y7 y8 y9 y10 y11 y12, LeO (screeref17_Visible.l0 k y0 y1 y2 y3 y4 y5 y6 y7 y8 y9 y10 y11 y12) (screeref17_Visible.l0 (k + 1) y0 y1 y2 y3 y4 y5 y6 y7 y8 y9 y10 y11 y12)) ∧ (∀ y0 y1 y2 y3 y4 y5 y6 y7 y8 y9 y10 y11, LeO (screeref17_Visible.l1 k y0 y1 y2 y3 y4 y5 y6 y7 y8 y9 y10 y11) (screeref17_Visible.l1 (k + 1) y0 y1 y2 y3 y4 y5 y6 y7 y8 y9 y10 y11)) ∧ (∀ y0 y1 y2 y3 y4 y5 y6 y7 y8 y9 y10 y11 y12, LeO (screeref17_Visible.j2 k y0 y1 y2 y3 y4 y5 y6 y7 y8 y9 y10 y11 y12) (screeref17_Visible.j2 (k + 1) y0 y1 y2 y3 y4 y5 y6 y7 y8 y9 y10 y11 y12))
 | 0 => ⟨fun _ _ _ _ _ _ _ _ _ _ _ _ _ r h => by simp [screeref17_Visible.l0] at h, fun _ _ _ _ _ _ _ _ _ _ _ _ r h => by simp [screeref17_Visible.l1] at h, fun _ _ _ _ _ _ _ _ _ _ _ _ _ r h => by simp [screeref17_Visible.j2] at h⟩
 | k + 1 => by
  obtain ⟨ih0, ih1, ih2⟩ := screeref17_Visible.mono_l k
  refine ⟨?_, ?_, ?_⟩
  ·intro y0 y1 y2 y3 y4 y5 y6 y7 y8 y9 y10 y11 y12
   unfold screeref17_Visible.l0
   repeat' first
   | (with_reducible exact ih0 _ _ _ _ _ _ _ _ _ _ _ _ _)
   | (with_reducible exact ih1 _ _ _ _ _ _ _ _ _ _ _ _)
   | (with_reducible exact ih2 _ _ _ _ _ _ _ _ _ _ _ _ _)
   | (with_reducible exact LeO.refl _)
   | (with_reducible exact LeO.none _)
   | (with_reducible refine LeO.ite ?_ ?_)
   | (with_reducible refine LeO.bind ?_ (fun _ => ?_))
   | exact ih0 _ _ _ _ _ _ _ _ _ _ _ _ _
   | exact ih1 _ _ _ _ _ _ _ _ _ _ _ _
   | exact ih2 _ _ _ _ _ _ _ _ _ _ _ _ _
   | exact screeref17_Read.mono _ _ _ _ _
   | exact screeref17_Rises.mono _ _
   | exact LeO.none _
   | refine LeO.ite ?_ ?_
   | refine LeO.bind ?_ (fun _ => ?_)
  ·intro y0 y1 y2 y3 y4 y5 y6 y7 y8 y9 y10 y11
   unfold screeref17_Visible.l1
   repeat' first
   | (with_reducible exact ih0 _ _ _ _ _ _ _ _ _ _ _ _ _)
   | (with_reducible exact ih1 _ _ _ _ _ _ _ _ _ _ _ _)
   | (with_reducible exact ih2 _ _ _ _ _ _ _ _ _ _ _ _ _)
   | (with_reducible exact LeO.refl _)
   | (with_reducible exact LeO.none _)
   | (with_reducible refine LeO.ite ?_ ?_)
   | (with_reducible refine LeO.bind ?_ (fun _ => ?_))
   | exact ih0 _ _ _ _ _ _ _ _ _ _ _ _ _
   | exact ih1 _ _ _ _ _ _ _ _ _ _ _ _
   | exact ih2 _ _ _ _ _ _ _ _ _ _ _ _ _
   | exact screeref17_Read.mono _ _ _ _ _
   | exact screeref17_Rises.mono _ _
   | exact LeO.none _
   | refine LeO.ite ?_ ?_
   | refine LeO.bind ?_ (fun _ => ?_)
  ·intro y0 y1 y2 y3 y4 y5 y6 y7 y8 y9 y10 y11 y12
   unfold screeref17_Visible.j2
   repeat' first
   | (with_reducible exact ih0 _ _ _ _ _ _ _ _ _ _ _ _ _)
   | (with_reducible exact ih1 _ _ _ _ _ _ _ _ _ _ _ _)
   | (with_reducible exact ih2 _ _ _ _ _ _ _ _ _ _ _ _ _)
   | (with_reducible exact LeO.refl _)
   | (with_reducible exact LeO.none _)
   | (with_reducible refine LeO.ite ?_ ?_)
   | (with_reducible refine LeO.bind ?_ (fun _ => ?_))
   | exact ih0 _ _ _ _ _ _ _ _ _ _ _ _ _
   | exact ih1 _ _ _ _ _ _ _ _ _ _ _ _
   | exact ih2 _ _ _ _ _ _ _ _ _ _ _ _ _
   | exact screeref17_Read.mono _ _ _ _ _
   | exact screeref17_Rises.mono _ _
   | exact LeO.none _
   | refine LeO.ite ?_ ?_
   | refine LeO.bind ?_ (fun _ => ?_)
theorem screeref17_Visible.mono : ∀ a0 a1 a2 k, LeO (screeref17_Visible.f k a0 a1 a2) (screeref17_Visible.f (k + 1) a0 a1 a2) := by
 intro a0 a1 a2 k
 obtain ⟨ih0, ih1, ih2⟩ := screeref17_Visible.mono_l k
 unfold screeref17_Visible.f
 repeat' first
   | (with_reducible exact ih0 _ _ _ _ _ _ _ _ _ _ _ _ _)
   | (with_reducible exact ih1 _ _ _ _ _ _ _ _ _ _ _ _)
   | (with_reducible exact ih2 _ _ _ _ _ _ _ _ _ _ _ _ _)
   | (with_reducible exact LeO.refl _)
   | (with_reducible exact LeO.none _)
   | (with_reducible refine LeO.ite ?_ ?_)
   | (with_reducible refine LeO.bind ?_ (fun _ => ?_))
   | exact ih0 _ _ _ _ _ _ _ _ _ _ _ _ _
   | exact ih1 _ _ _ _ _ _ _ _ _ _ _ _
   | exact ih2 _ _ _ _ _ _ _ _ _ _ _ _ _
   | exact screeref17_Read.mono _ _ _ _ _
   | exact screeref17_Rises.mono _ _
   | exact LeO.none _
   | refine LeO.ite ?_ ?_
   | refine LeO.bind ?_ (fun _ => ?_)
set_option maxHeartbeats 8000000 in
set_option maxRecDepth 100000 in
theorem screeref17_Visible.calls (k : Nat) (A0 : Option Addr) (c0 : Nat) (l0 : List (S47)) (a1 : ByteArray) (a2 : Int) (r1 : ByteArray) (r2 : Bool) (w : World) (hr0 : Kd.C k47 w A0 l0.length l0) (hc0 : l0.length ≤ c0) (h : screeref17_Visible.f k l0 a1 a2 = some (r1, r2)) :
  Calls Try.prog 17 #[.slice A0 l0.length c0, .string a1, .int .u64 a2] w fun e w' => e = .returned (.tuple #[.string r1, .bool r2]) ∧ Below w.heap.size w w' := by
 have hu44 := Try.underlying44
 have hu47 := Try.underlying47
 have HR0 := Aside0.mk hr0
 have HC0 := Aside0.mk hc0
 clear hr0 hc0
 have HB := Aside0.mk (Below.refl w.heap.size w)
 have H : ((screeref17_Rises.f k l0).bind fun t391 => (if t391 = true then (screeref17_Visible.l0 k l0 a1 a2 0 0 (⟨#[]⟩ : ByteArray) 0 (⟨#[]⟩ : ByteArray) 0 0 0 0 0) else (some ((⟨#[]⟩ : ByteArray), false)))) = some (r1, r2) := h
 clear h
 replace H := Option.bind_eq_some_iff.mp H
 obtain ⟨t391, A40, H⟩ := H
 try dsimp only at H
 have A4 := Aside0.mk A40
 clear A40
 by_cases c5 : t391 = true
 rotate_left
 ·replace c5 := Bool.eq_false_iff.mpr c5
  subst c5
  rw [if_neg ff_] at H
  simp only [Option.some.injEq, Prod.mk.injEq] at H
  obtain ⟨rfl, rfl⟩ := H
  go_enter Try.func17, Try.ntmps17
  go_wp2_with (first | ((with_reducible refine gate_callee (f := 26) rfl ?_); refine goesL_ (some 14) rfl rfl Try.func26 r6_ rfl #[.slice A0 l0.length c0] rfl hA_ ?_; (with_reducible refine (screeref17_Rises.calls k _ _ l0 false _ ?side1 ?side2 A4.out).mono ?_); (case side1 => repeat (first | exact HR0.out | (with_reducible refine Kd.C_alloc ?_ _) | (with_reducible refine Kd.C_drewN ?_ _) | (with_reducible refine Kd.C_drew ?_))); (case side2 => exact HC0.out); rintro e w' ⟨rfl, ⟨nd, rfl⟩⟩; refine ⟨_, rfl, ?_⟩))
  go_ret2
  exact ⟨rf_, hB_⟩
 subst c5
 rw [if_pos rfl] at H
 have H' := Aside0.mk H
 clear H
 go_enter Try.func17, Try.ntmps17
 go_wp2_with (first | ((with_reducible refine gate_callee (f := 26) rfl ?_); refine goesL_ (some 14) rfl rfl Try.func26 r6_ rfl #[.slice A0 l0.length c0] rfl hA_ ?_; (with_reducible refine (screeref17_Rises.calls k _ _ l0 true _ ?side1 ?side2 A4.out).mono ?_); (case side1 => repeat (first | exact HR0.out | (with_reducible refine Kd.C_alloc ?_ _) | (with_reducible refine Kd.C_drewN ?_ _) | (with_reducible refine Kd.C_drew ?_))); (case side2 => exact HC0.out); rintro e w' ⟨rfl, ⟨nd, rfl⟩⟩; refine ⟨_, rfl, ?_⟩) | ((with_reducible refine gate_dst (N := 8) rfl ?_); refine box_event ?hg (N := 8) ?hd (cs := #[.int .i64 0, .string (⟨#[]⟩ : ByteArray), .int .u64 0, .string (⟨#[]⟩ : ByteArray), .int .u64 0, .int .i64 0, .int .u64 0, .int .u64 0, .int .i64 0]) (t := 44) ?hr ?_; (case hd => rfl); (case hg => rfl); (case hr => first | (go_simp; done) | (go_simp; rfl)); intro gb392 hg w6 hbox hb; have BK392 := Aside0.mk (hbox); have GW392 := Aside0.mk ((by rw [hg]; exact (below_size hB_) : w.heap.size ≤ gb392)); have GE392 := Aside0.mk ((by rw [hg]; exact (below_size hB_) : w.heap.size ≤ gb392)); replace HB := Aside0.mk (below_step hB_ hb); clear hb hbox hg; have hcz7_0 : w6.cell? ⟨gb392, 0, none⟩ = some (.int .i64 0) := (blk_cell BK392.out 0).trans rfl; have hcz7_1 : w6.cell? ⟨gb392, 1, none⟩ = some (.string (⟨#[]⟩ : ByteArray)) := (blk_cell BK392.out 1).trans rfl; have hcz7_2 : w6.cell? ⟨gb392, 2, none⟩ = some (.int .u64 0) := (blk_cell BK392.out 2).trans rfl; have hcz7_3 : w6.cell? ⟨gb392, 3, none⟩ = some (.string (⟨#[]⟩ : ByteArray)) := (blk_cell BK392.out 3).trans rfl; have hcz7_4 : w6.cell? ⟨gb392, 4, none⟩ = some (.int .u64 0) := (blk_cell BK392.out 4).trans rfl; have hcz7_5 : w6.cell? ⟨gb392, 5, none⟩ = some (.int .i64 0) := (blk_cell BK392.out 5).trans rfl; have hcz7_6 : w6.cell? ⟨gb392, 6, none⟩ = some (.int .u64 0) := (blk_cell BK392.out 6).trans rfl; have hcz7_7 : w6.cell? ⟨gb392, 7, none⟩ = some (.int .u64 0) := (blk_cell BK392.out 7).trans rfl; have hcz7_8 : w6.cell? ⟨gb392, 8, none⟩ = some (.int .i64 0) := (blk_cell BK392.out 8).trans rfl; have hfz7_0 := blk_frozen BK392.out 0; have hfz7_1 := blk_frozen BK392.out 1; have hfz7_2 := blk_frozen BK392.out 2; have hfz7_3 := blk_frozen BK392.out 3; have hfz7_4 := blk_frozen BK392.out 4; have hfz7_5 := blk_frozen BK392.out 5; have hfz7_6 := blk_frozen BK392.out 6; have hfz7_7 := blk_frozen BK392.out 7; have hfz7_8 := blk_frozen BK392.out 8))
 go_loopg [9] k (fun kq v9 w' => ∃ (x9_1 : Int) (x393000_1 : Int) (x393001_1 : ByteArray) (x393002_1 : Int) (x393003_1 : ByteArray) (x393004_1 : Int) (x393005_1 : Int) (x393006_1 : Int) (x393007_1 : Int) (x393008_1 : Int), v9 = .int .i64 x9_1 ∧ Aside0 (screeref17_Visible.l0 kq l0 a1 a2 x9_1 x393000_1 x393001_1 x393002_1 x393003_1 x393004_1 x393005_1 x393006_1 x393007_1 x393008_1 = some (r1, r2)) ∧ Aside0 (kq ≤ k) ∧ Aside0 (w'.heap[gb392]? = some (.cells #[.int .i64 x393000_1, .string x393001_1, .int .u64 x393002_1, .string x393003_1, .int .u64 x393004_1, .int .i64 x393005_1, .int .u64 x393006_1, .int .u64 x393007_1, .int .i64 x393008_1] 44 (0, 0))) ∧ Aside0 (Below w.heap.size w w'))
 case atStart => exact ⟨(0), (0), ((⟨#[]⟩ : ByteArray)), (0), ((⟨#[]⟩ : ByteArray)), (0), (0), (0), (0), (0), rs_, H', ⟨Nat.le_refl _⟩, ⟨by (with_reducible repeat (first | refine blk_drewN ?_ _ | refine blk_drew ?_ | refine blk_alloc ?_ _)); refine blk_put (cs := #[.int .i64 0, .string (⟨#[]⟩ : ByteArray), .int .u64 0, .string (⟨#[]⟩ : ByteArray), .int .u64 0, .int .i64 0, .int .u64 0, .int .u64 0, .int .i64 0]) ?_ 8 _ rfl; (with_reducible repeat (first | refine blk_drewN ?_ _ | refine blk_drew ?_ | refine blk_alloc ?_ _)); refine blk_put (cs := #[.int .i64 0, .string (⟨#[]⟩ : ByteArray), .int .u64 0, .string (⟨#[]⟩ : ByteArray), .int .u64 0, .int .i64 0, .int .u64 0, .int .u64 0, .int .i64 0]) ?_ 7 _ rfl; (with_reducible repeat (first | refine blk_drewN ?_ _ | refine blk_drew ?_ | refine blk_alloc ?_ _)); refine blk_put (cs := #[.int .i64 0, .string (⟨#[]⟩ : ByteArray), .int .u64 0, .string (⟨#[]⟩ : ByteArray), .int .u64 0, .int .i64 0, .int .u64 0, .int .u64 0, .int .i64 0]) ?_ 6 _ rfl; (with_reducible repeat (first | refine blk_drewN ?_ _ | refine blk_drew ?_ | refine blk_alloc ?_ _)); refine blk_put (cs := #[.int .i64 0, .string (⟨#[]⟩ : ByteArray), .int .u64 0, .string (⟨#[]⟩ : ByteArray), .int .u64 0, .int .i64 0, .int .u64 0, .int .u64 0, .int .i64 0]) ?_ 5 _ rfl; (with_reducible repeat (first | refine blk_drewN ?_ _ | refine blk_drew ?_ | refine blk_alloc ?_ _)); refine blk_put (cs := #[.int .i64 0, .string (⟨#[]⟩ : ByteArray), .int .u64 0, .string (⟨#[]⟩ : ByteArray), .int .u64 0, .int .i64 0, .int .u64 0, .int .u64 0, .int .i64 0]) ?_ 4 _ rfl; (with_reducible repeat (first | refine blk_drewN ?_ _ | refine blk_drew ?_ | refine blk_alloc ?_ _)); refine blk_put (cs := #[.int .i64 0, .string (⟨#[]⟩ : ByteArray), .int .u64 0, .string (⟨#[]⟩ : ByteArray), .int .u64 0, .int .i64 0, .int .u64 0, .int .u64 0, .int .i64 0]) ?_ 3 _ rfl; (with_reducible repeat (first | refine blk_drewN ?_ _ | refine blk_drew ?_ | refine blk_alloc ?_ _)); refine blk_put (cs := #[.int .i64 0, .string (⟨#[]⟩ : ByteArray), .int .u64 0, .string (⟨#[]⟩ : ByteArray), .int .u64 0, .int .i64 0, .int .u64 0, .int .u64 0, .int .i64 0]) ?_ 2 _ rfl; (with_reducible repeat (first | refine blk_drewN ?_ _ | refine blk_drew ?_ | refine blk_alloc ?_ _)); refine blk_put (cs := #[.int .i64 0, .string (⟨#[]⟩ : ByteArray), .int .u64 0, .string (⟨#[]⟩ : ByteArray), .int .u64 0, .int .i64 0, .int .u64 0, .int .u64 0, .int .i64 0]) ?_ 1 _ rfl; (with_reducible repeat (first | refine blk_drewN ?_ _ | refine blk_drew ?_ | refine blk_alloc ?_ _)); refine blk_put (cs := #[.int .i64 0, .string (⟨#[]⟩ : ByteArray), .int .u64 0, .string (⟨#[]⟩ : ByteArray), .int .u64 0, .int .i64 0, .int .u64 0, .int .u64 0, .int .i64 0]) ?_ 0 _ rfl; (with_reducible repeat (first | refine blk_drewN ?_ _ | refine blk_drew ?_ | refine blk_alloc ?_ _)); exact BK392.out⟩, ⟨r0_⟩⟩
 case round =>
  clear H'
  try clear c5
  try clear hcz7_0
  try clear hcz7_1
  try clear hcz7_2
  try clear hcz7_3
  try clear hcz7_4
  try clear hcz7_5
  try clear hcz7_6
  try clear hcz7_7
  try clear hcz7_8
  try clear hfz7_0
  try clear hfz7_1
  try clear hfz7_2
  try clear hfz7_3
  try clear hfz7_4
  try clear hfz7_5
  try clear hfz7_6
  try clear hfz7_7
  try clear hfz7_8
  obtain ⟨x9_1, x393000_1, x393001_1, x393002_1, x393003_1, x393004_1, x393005_1, x393006_1, x393007_1, x393008_1, rfl, HA, HK1, BK392, HB⟩ := hrel
  cases gk with
  | zero => exact absurd HA.out (by simp [screeref17_Visible.l0])
  | succ k1 =>
   have H := HA.out
   clear HA
   simp only [screeref17_Visible.l0] at H
   by_cases c8 : x9_1 < (l0.length : Int)
   ·rw [if_pos c8] at H
    have c8b0 := decide_eq_true c8
    clear c8
    by_cases c9 : 0 ≤ x9_1
    rotate_left
    ·rw [if_neg c9] at H
     exact absurd H r34_
    rw [if_pos c9] at H
    have c9b0 := decide_eq_true c9
    clear c9
    replace H := Option.bind_eq_some_iff.mp H
    obtain ⟨⟨t394, t395, t396, t397, t398, t399, t400, t401, t402⟩, A100, H⟩ := H
    try dsimp only at H
    have A10 := Aside0.mk A100
    clear A100
    by_cases c11 : t394 = 2
    rotate_left
    ·rw [if_neg c11] at H
     have c11b0 := beq_eq_false_iff_ne.mpr c11
     have c11b1 := bne_iff_ne.mpr c11
     have H' := Aside0.mk H
     clear H
     have p393 : 0 ≤ (x9_1 : Int) := of_decide_eq_true as_
     have q393 : x9_1 < (l0.length : Int) := of_decide_eq_true as_
     obtain ⟨ad393, e393, hx393_0, hx393_1, hx393_2, hx393_3⟩ := at_T47 HR0.out x9_1 p393 q393
     cases e393
     replace hx393_0 := (HB.out.cell (World.block_lt_of_cell? w _ hx393_0)).trans hx393_0
     replace hx393_1 := (HB.out.cell (World.block_lt_of_cell? w _ hx393_1)).trans hx393_1
     replace hx393_2 := (HB.out.cell (World.block_lt_of_cell? w _ hx393_2)).trans hx393_2
     replace hx393_3 := (HB.out.cell (World.block_lt_of_cell? w _ hx393_3)).trans hx393_3
     replace p393 := eq_true p393
     replace q393 := eq_true q393
     go_wp2_with (first | ((with_reducible refine gate_callee (f := 21) rfl ?_); refine goesL_ (some 27) rfl rfl Try.func21 r6_ rfl #[.agg #[.string ((rd_T47 l0 x9_1).f0), .int .u64 ((rd_T47 l0 x9_1).f1), .bool ((rd_T47 l0 x9_1).f2), .string ((rd_T47 l0 x9_1).f3)]] rfl hA_ ?_; (with_reducible refine (screeref17_Read.calls k1 ((rd_T47 l0 x9_1).f0) ((rd_T47 l0 x9_1).f1) ((rd_T47 l0 x9_1).f2) ((rd_T47 l0 x9_1).f3) t394 t395 t396 t397 t398 t399 t400 t401 t402 _ A10.out).mono ?_); rintro e w44 ⟨rfl, hb⟩; refine ⟨_, rfl, ?_⟩; replace BK392 := Aside0.mk (blk_below (g := gb392) (o := .cells #[.int .i64 x393000_1, .string x393001_1, .int .u64 x393002_1, .string x393003_1, .int .u64 x393004_1, .int .i64 x393005_1, .int .u64 x393006_1, .int .u64 x393007_1, .int .i64 x393008_1] 44 (0, 0)) r1_ hb); replace HB := Aside0.mk (below_step r0_ hb); clear hb A10) | ((with_reducible refine gate_dst (N := 10) rfl ?_); refine box_event ?hg (N := 10) ?hd (cs := #[.int .i64 0, .string (⟨#[]⟩ : ByteArray), .int .u64 0, .string (⟨#[]⟩ : ByteArray), .int .u64 0, .int .i64 0, .int .u64 0, .int .u64 0, .int .i64 0]) (t := 44) ?hr ?_; (case hd => rfl); (case hg => rfl); (case hr => first | (go_simp; done) | (go_simp; rfl)); intro gb403 hg w45 hbox hb; have BK403 := Aside0.mk (hbox); have GW403 := Aside0.mk ((by rw [hg]; exact (below_size r0_) : w.heap.size ≤ gb403)); have GE403 := Aside0.mk ((by rw [hg]; exact (below_size r0_) : w.heap.size ≤ gb403)); replace HB := Aside0.mk (below_step r0_ hb); have NB392_403 := Aside0.mk ((by rw [hg]; exact Nat.ne_of_lt (blk_lt (g := gb392) (o := .cells #[.int .i64 x393000_1, .string x393001_1, .int .u64 x393002_1, .string x393003_1, .int .u64 x393004_1, .int .i64 x393005_1, .int .u64 x393006_1, .int .u64 x393007_1, .int .i64 x393008_1] 44 (0, 0)) r1_) : gb392 ≠ gb403)); have NB403_392 := Aside0.mk ((by rw [hg]; exact Nat.ne_of_gt (blk_lt (g := gb392) (o := .cells #[.int .i64 x393000_1, .string x393001_1, .int .u64 x393002_1, .string x393003_1, .int .u64 x393004_1, .int .i64 x393005_1, .int .u64 x393006_1, .int .u64 x393007_1, .int .i64 x393008_1] 44 (0, 0)) r1_) : gb403 ≠ gb392)); replace BK392 := Aside0.mk (blk_below (g := gb392) (o := .cells #[.int .i64 x393000_1, .string x393001_1, .int .u64 x393002_1, .string x393003_1, .int .u64 x393004_1, .int .i64 x393005_1, .int .u64 x393006_1, .int .u64 x393007_1, .int .i64 x393008_1] 44 (0, 0)) r1_ hb); clear hb hbox hg; have hnb46 := NB403_392.out; have hnc46 := NB392_403.out; have hcz47_0 : w45.cell? ⟨gb403, 0, none⟩ = some (.int .i64 0) := (blk_cell BK403.out 0).trans rfl; have hcz47_1 : w45.cell? ⟨gb403, 1, none⟩ = some (.string (⟨#[]⟩ : ByteArray)) := (blk_cell BK403.out 1).trans rfl; have hcz47_2 : w45.cell? ⟨gb403, 2, none⟩ = some (.int .u64 0) := (blk_cell BK403.out 2).trans rfl; have hcz47_3 : w45.cell? ⟨gb403, 3, none⟩ = some (.string (⟨#[]⟩ : ByteArray)) := (blk_cell BK403.out 3).trans rfl; have hcz47_4 : w45.cell? ⟨gb403, 4, none⟩ = some (.int .u64 0) := (blk_cell BK403.out 4).trans rfl; have hcz47_5 : w45.cell? ⟨gb403, 5, none⟩ = some (.int .i64 0) := (blk_cell BK403.out 5).trans rfl; have hcz47_6 : w45.cell? ⟨gb403, 6, none⟩ = some (.int .u64 0) := (blk_cell BK403.out 6).trans rfl; have hcz47_7 : w45.cell? ⟨gb403, 7, none⟩ = some (.int .u64 0) := (blk_cell BK403.out 7).trans rfl; have hcz47_8 : w45.cell? ⟨gb403, 8, none⟩ = some (.int .i64 0) := (blk_cell BK403.out 8).trans rfl; have hfz47_0 := blk_frozen BK403.out 0; have hfz47_1 := blk_frozen BK403.out 1; have hfz47_2 := blk_frozen BK403.out 2; have hfz47_3 := blk_frozen BK403.out 3; have hfz47_4 := blk_frozen BK403.out 4; have hfz47_5 := blk_frozen BK403.out 5; have hfz47_6 := blk_frozen BK403.out 6; have hfz47_7 := blk_frozen BK403.out 7; have hfz47_8 := blk_frozen BK403.out 8))
     go_roundg k1
     case measure => have := HK1.out; omega
     case rel => exact ⟨(wrap64 (x9_1 + 1)), (x393000_1), (x393001_1), (x393002_1), (x393003_1), (x393004_1), (x393005_1), (x393006_1), (x393007_1), (x393008_1), rs_, hH_, ⟨by have := HK1.out; omega⟩, ⟨r2_⟩, ⟨r27_⟩⟩
    rw [if_pos c11] at H
    have c11b0 := beq_iff_eq.mpr c11
    have c11b1 := bne_eq_false_iff_eq.mpr c11
    clear c11
    by_cases c12 : t395.toList = a1.toList
    rotate_left
    ·rw [if_neg c12] at H
     have c12b0 := beq_eq_false_iff_ne.mpr c12
     have c12b1 := bne_iff_ne.mpr c12
     have H' := Aside0.mk H
     clear H
     have p393 : 0 ≤ (x9_1 : Int) := of_decide_eq_true as_
     have q393 : x9_1 < (l0.length : Int) := of_decide_eq_true as_
     obtain ⟨ad393, e393, hx393_0, hx393_1, hx393_2, hx393_3⟩ := at_T47 HR0.out x9_1 p393 q393
     cases e393
     replace hx393_0 := (HB.out.cell (World.block_lt_of_cell? w _ hx393_0)).trans hx393_0
     replace hx393_1 := (HB.out.cell (World.block_lt_of_cell? w _ hx393_1)).trans hx393_1
     replace hx393_2 := (HB.out.cell (World.block_lt_of_cell? w _ hx393_2)).trans hx393_2
     replace hx393_3 := (HB.out.cell (World.block_lt_of_cell? w _ hx393_3)).trans hx393_3
     replace p393 := eq_true p393
     replace q393 := eq_true q393
     go_wp2_with (first | ((with_reducible refine gate_callee (f := 21) rfl ?_); refine goesL_ (some 27) rfl rfl Try.func21 r6_ rfl #[.agg #[.string ((rd_T47 l0 x9_1).f0), .int .u64 ((rd_T47 l0 x9_1).f1), .bool ((rd_T47 l0 x9_1).f2), .string ((rd_T47 l0 x9_1).f3)]] rfl hA_ ?_; (with_reducible refine (screeref17_Read.calls k1 ((rd_T47 l0 x9_1).f0) ((rd_T47 l0 x9_1).f1) ((rd_T47 l0 x9_1).f2) ((rd_T47 l0 x9_1).f3) t394 t395 t396 t397 t398 t399 t400 t401 t402 _ A10.out).mono ?_); rintro e w40 ⟨rfl, hb⟩; refine ⟨_, rfl, ?_⟩; replace BK392 := Aside0.mk (blk_below (g := gb392) (o := .cells #[.int .i64 x393000_1, .string x393001_1, .int .u64 x393002_1, .string x393003_1, .int .u64 x393004_1, .int .i64 x393005_1, .int .u64 x393006_1, .int .u64 x393007_1, .int .i64 x393008_1] 44 (0, 0)) r1_ hb); replace HB := Aside0.mk (below_step r0_ hb); clear hb A10) | ((with_reducible refine gate_dst (N := 10) rfl ?_); refine box_event ?hg (N := 10) ?hd (cs := #[.int .i64 0, .string (⟨#[]⟩ : ByteArray), .int .u64 0, .string (⟨#[]⟩ : ByteArray), .int .u64 0, .int .i64 0, .int .u64 0, .int .u64 0, .int .i64 0]) (t := 44) ?hr ?_; (case hd => rfl); (case hg => rfl); (case hr => first | (go_simp; done) | (go_simp; rfl)); intro gb403 hg w41 hbox hb; have BK403 := Aside0.mk (hbox); have GW403 := Aside0.mk ((by rw [hg]; exact (below_size r0_) : w.heap.size ≤ gb403)); have GE403 := Aside0.mk ((by rw [hg]; exact (below_size r0_) : w.heap.size ≤ gb403)); replace HB := Aside0.mk (below_step r0_ hb); have NB392_403 := Aside0.mk ((by rw [hg]; exact Nat.ne_of_lt (blk_lt (g := gb392) (o := .cells #[.int .i64 x393000_1, .string x393001_1, .int .u64 x393002_1, .string x393003_1, .int .u64 x393004_1, .int .i64 x393005_1, .int .u64 x393006_1, .int .u64 x393007_1, .int .i64 x393008_1] 44 (0, 0)) r1_) : gb392 ≠ gb403)); have NB403_392 := Aside0.mk ((by rw [hg]; exact Nat.ne_of_gt (blk_lt (g := gb392) (o := .cells #[.int .i64 x393000_1, .string x393001_1, .int .u64 x393002_1, .string x393003_1, .int .u64 x393004_1, .int .i64 x393005_1, .int .u64 x393006_1, .int .u64 x393007_1, .int .i64 x393008_1] 44 (0, 0)) r1_) : gb403 ≠ gb392)); replace BK392 := Aside0.mk (blk_below (g := gb392) (o := .cells #[.int .i64 x393000_1, .string x393001_1, .int .u64 x393002_1, .string x393003_1, .int .u64 x393004_1, .int .i64 x393005_1, .int .u64 x393006_1, .int .u64 x393007_1, .int .i64 x393008_1] 44 (0, 0)) r1_ hb); clear hb hbox hg; have hnb42 := NB403_392.out; have hnc42 := NB392_403.out; have hcz43_0 : w41.cell? ⟨gb403, 0, none⟩ = some (.int .i64 0) := (blk_cell BK403.out 0).trans rfl; have hcz43_1 : w41.cell? ⟨gb403, 1, none⟩ = some (.string (⟨#[]⟩ : ByteArray)) := (blk_cell BK403.out 1).trans rfl; have hcz43_2 : w41.cell? ⟨gb403, 2, none⟩ = some (.int .u64 0) := (blk_cell BK403.out 2).trans rfl; have hcz43_3 : w41.cell? ⟨gb403, 3, none⟩ = some (.string (⟨#[]⟩ : ByteArray)) := (blk_cell BK403.out 3).trans rfl; have hcz43_4 : w41.cell? ⟨gb403, 4, none⟩ = some (.int .u64 0) := (blk_cell BK403.out 4).trans rfl; have hcz43_5 : w41.cell? ⟨gb403, 5, none⟩ = some (.int .i64 0) := (blk_cell BK403.out 5).trans rfl; have hcz43_6 : w41.cell? ⟨gb403, 6, none⟩ = some (.int .u64 0) := (blk_cell BK403.out 6).trans rfl; have hcz43_7 : w41.cell? ⟨gb403, 7, none⟩ = some (.int .u64 0) := (blk_cell BK403.out 7).trans rfl; have hcz43_8 : w41.cell? ⟨gb403, 8, none⟩ = some (.int .i64 0) := (blk_cell BK403.out 8).trans rfl; have hfz43_0 := blk_frozen BK403.out 0; have hfz43_1 := blk_frozen BK403.out 1; have hfz43_2 := blk_frozen BK403.out 2; have hfz43_3 := blk_frozen BK403.out 3; have hfz43_4 := blk_frozen BK403.out 4; have hfz43_5 := blk_frozen BK403.out 5; have hfz43_6 := blk_frozen BK403.out 6; have hfz43_7 := blk_frozen BK403.out 7; have hfz43_8 := blk_frozen BK403.out 8))
     go_roundg k1
     case measure => have := HK1.out; omega
     case rel => exact ⟨(wrap64 (x9_1 + 1)), (x393000_1), (x393001_1), (x393002_1), (x393003_1), (x393004_1), (x393005_1), (x393006_1), (x393007_1), (x393008_1), rs_, hH_, ⟨by have := HK1.out; omega⟩, ⟨r2_⟩, ⟨r27_⟩⟩
    rw [if_pos c12] at H
    have c12b0 := beq_iff_eq.mpr c12
    have c12b1 := bne_eq_false_iff_eq.mpr c12
    clear c12
    by_cases c13 : t402 = 3
    ·rw [if_pos c13] at H
     have c13b0 := beq_iff_eq.mpr c13
     have c13b1 := bne_eq_false_iff_eq.mpr c13
     clear c13
     have H' := Aside0.mk H
     clear H
     have p393 : 0 ≤ (x9_1 : Int) := of_decide_eq_true as_
     have q393 : x9_1 < (l0.length : Int) := of_decide_eq_true as_
     obtain ⟨ad393, e393, hx393_0, hx393_1, hx393_2, hx393_3⟩ := at_T47 HR0.out x9_1 p393 q393
     cases e393
     replace hx393_0 := (HB.out.cell (World.block_lt_of_cell? w _ hx393_0)).trans hx393_0
     replace hx393_1 := (HB.out.cell (World.block_lt_of_cell? w _ hx393_1)).trans hx393_1
     replace hx393_2 := (HB.out.cell (World.block_lt_of_cell? w _ hx393_2)).trans hx393_2
     replace hx393_3 := (HB.out.cell (World.block_lt_of_cell? w _ hx393_3)).trans hx393_3
     replace p393 := eq_true p393
     replace q393 := eq_true q393
     go_wp2_with (first | ((with_reducible refine gate_callee (f := 21) rfl ?_); refine goesL_ (some 27) rfl rfl Try.func21 r6_ rfl #[.agg #[.string ((rd_T47 l0 x9_1).f0), .int .u64 ((rd_T47 l0 x9_1).f1), .bool ((rd_T47 l0 x9_1).f2), .string ((rd_T47 l0 x9_1).f3)]] rfl hA_ ?_; (with_reducible refine (screeref17_Read.calls k1 ((rd_T47 l0 x9_1).f0) ((rd_T47 l0 x9_1).f1) ((rd_T47 l0 x9_1).f2) ((rd_T47 l0 x9_1).f3) t394 t395 t396 t397 t398 t399 t400 t401 t402 _ A10.out).mono ?_); rintro e w14 ⟨rfl, hb⟩; refine ⟨_, rfl, ?_⟩; replace BK392 := Aside0.mk (blk_below (g := gb392) (o := .cells #[.int .i64 x393000_1, .string x393001_1, .int .u64 x393002_1, .string x393003_1, .int .u64 x393004_1, .int .i64 x393005_1, .int .u64 x393006_1, .int .u64 x393007_1, .int .i64 x393008_1] 44 (0, 0)) r1_ hb); replace HB := Aside0.mk (below_step r0_ hb); clear hb A10) | ((with_reducible refine gate_dst (N := 10) rfl ?_); refine box_event ?hg (N := 10) ?hd (cs := #[.int .i64 0, .string (⟨#[]⟩ : ByteArray), .int .u64 0, .string (⟨#[]⟩ : ByteArray), .int .u64 0, .int .i64 0, .int .u64 0, .int .u64 0, .int .i64 0]) (t := 44) ?hr ?_; (case hd => rfl); (case hg => rfl); (case hr => first | (go_simp; done) | (go_simp; rfl)); intro gb403 hg w15 hbox hb; have BK403 := Aside0.mk (hbox); have GW403 := Aside0.mk ((by rw [hg]; exact (below_size r0_) : w.heap.size ≤ gb403)); have GE403 := Aside0.mk ((by rw [hg]; exact (below_size r0_) : w.heap.size ≤ gb403)); replace HB := Aside0.mk (below_step r0_ hb); have NB392_403 := Aside0.mk ((by rw [hg]; exact Nat.ne_of_lt (blk_lt (g := gb392) (o := .cells #[.int .i64 x393000_1, .string x393001_1, .int .u64 x393002_1, .string x393003_1, .int .u64 x393004_1, .int .i64 x393005_1, .int .u64 x393006_1, .int .u64 x393007_1, .int .i64 x393008_1] 44 (0, 0)) r1_) : gb392 ≠ gb403)); have NB403_392 := Aside0.mk ((by rw [hg]; exact Nat.ne_of_gt (blk_lt (g := gb392) (o := .cells #[.int .i64 x393000_1, .string x393001_1, .int .u64 x393002_1, .string x393003_1, .int .u64 x393004_1, .int .i64 x393005_1, .int .u64 x393006_1, .int .u64 x393007_1, .int .i64 x393008_1] 44 (0, 0)) r1_) : gb403 ≠ gb392)); replace BK392 := Aside0.mk (blk_below (g := gb392) (o := .cells #[.int .i64 x393000_1, .string x393001_1, .int .u64 x393002_1, .string x393003_1, .int .u64 x393004_1, .int .i64 x393005_1, .int .u64 x393006_1, .int .u64 x393007_1, .int .i64 x393008_1] 44 (0, 0)) r1_ hb); clear hb hbox hg; have hnb16 := NB403_392.out; have hnc16 := NB392_403.out; have hcz17_0 : w15.cell? ⟨gb403, 0, none⟩ = some (.int .i64 0) := (blk_cell BK403.out 0).trans rfl; have hcz17_1 : w15.cell? ⟨gb403, 1, none⟩ = some (.string (⟨#[]⟩ : ByteArray)) := (blk_cell BK403.out 1).trans rfl; have hcz17_2 : w15.cell? ⟨gb403, 2, none⟩ = some (.int .u64 0) := (blk_cell BK403.out 2).trans rfl; have hcz17_3 : w15.cell? ⟨gb403, 3, none⟩ = some (.string (⟨#[]⟩ : ByteArray)) := (blk_cell BK403.out 3).trans rfl; have hcz17_4 : w15.cell? ⟨gb403, 4, none⟩ = some (.int .u64 0) := (blk_cell BK403.out 4).trans rfl; have hcz17_5 : w15.cell? ⟨gb403, 5, none⟩ = some (.int .i64 0) := (blk_cell BK403.out 5).trans rfl; have hcz17_6 : w15.cell? ⟨gb403, 6, none⟩ = some (.int .u64 0) := (blk_cell BK403.out 6).trans rfl; have hcz17_7 : w15.cell? ⟨gb403, 7, none⟩ = some (.int .u64 0) := (blk_cell BK403.out 7).trans rfl; have hcz17_8 : w15.cell? ⟨gb403, 8, none⟩ = some (.int .i64 0) := (blk_cell BK403.out 8).trans rfl; have hfz17_0 := blk_frozen BK403.out 0; have hfz17_1 := blk_frozen BK403.out 1; have hfz17_2 := blk_frozen BK403.out 2; have hfz17_3 := blk_frozen BK403.out 3; have hfz17_4 := blk_frozen BK403.out 4; have hfz17_5 := blk_frozen BK403.out 5; have hfz17_6 := blk_frozen BK403.out 6; have hfz17_7 := blk_frozen BK403.out 7; have hfz17_8 := blk_frozen BK403.out 8))
     go_roundg k1
     case measure => have := HK1.out; omega
     case rel => exact ⟨(wrap64 (x9_1 + 1)), (x393000_1), (x393001_1), (x393002_1), (x393003_1), (x393004_1), (x393005_1), (x393006_1), (x393007_1), (x393008_1), rs_, hH_, ⟨by have := HK1.out; omega⟩, ⟨r2_⟩, ⟨r27_⟩⟩
    rw [if_neg c13] at H
    have c13b0 := beq_eq_false_iff_ne.mpr c13
    have c13b1 := bne_iff_ne.mpr c13
    by_cases c18 : t396 ≤ a2
    rotate_left
    ·rw [if_neg c18] at H
     have c18b0 := decide_eq_false c18
     clear c18
     have H' := Aside0.mk H
     clear H
     have p393 : 0 ≤ (x9_1 : Int) := of_decide_eq_true as_
     have q393 : x9_1 < (l0.length : Int) := of_decide_eq_true as_
     obtain ⟨ad393, e393, hx393_0, hx393_1, hx393_2, hx393_3⟩ := at_T47 HR0.out x9_1 p393 q393
     cases e393
     replace hx393_0 := (HB.out.cell (World.block_lt_of_cell? w _ hx393_0)).trans hx393_0
     replace hx393_1 := (HB.out.cell (World.block_lt_of_cell? w _ hx393_1)).trans hx393_1
     replace hx393_2 := (HB.out.cell (World.block_lt_of_cell? w _ hx393_2)).trans hx393_2
     replace hx393_3 := (HB.out.cell (World.block_lt_of_cell? w _ hx393_3)).trans hx393_3
     replace p393 := eq_true p393
     replace q393 := eq_true q393
     go_wp2_with (first | ((with_reducible refine gate_callee (f := 21) rfl ?_); refine goesL_ (some 27) rfl rfl Try.func21 r6_ rfl #[.agg #[.string ((rd_T47 l0 x9_1).f0), .int .u64 ((rd_T47 l0 x9_1).f1), .bool ((rd_T47 l0 x9_1).f2), .string ((rd_T47 l0 x9_1).f3)]] rfl hA_ ?_; (with_reducible refine (screeref17_Read.calls k1 ((rd_T47 l0 x9_1).f0) ((rd_T47 l0 x9_1).f1) ((rd_T47 l0 x9_1).f2) ((rd_T47 l0 x9_1).f3) t394 t395 t396 t397 t398 t399 t400 t401 t402 _ A10.out).mono ?_); rintro e w36 ⟨rfl, hb⟩; refine ⟨_, rfl, ?_⟩; replace BK392 := Aside0.mk (blk_below (g := gb392) (o := .cells #[.int .i64 x393000_1, .string x393001_1, .int .u64 x393002_1, .string x393003_1, .int .u64 x393004_1, .int .i64 x393005_1, .int .u64 x393006_1, .int .u64 x393007_1, .int .i64 x393008_1] 44 (0, 0)) r1_ hb); replace HB := Aside0.mk (below_step r0_ hb); clear hb A10) | ((with_reducible refine gate_dst (N := 10) rfl ?_); refine box_event ?hg (N := 10) ?hd (cs := #[.int .i64 0, .string (⟨#[]⟩ : ByteArray), .int .u64 0, .string (⟨#[]⟩ : ByteArray), .int .u64 0, .int .i64 0, .int .u64 0, .int .u64 0, .int .i64 0]) (t := 44) ?hr ?_; (case hd => rfl); (case hg => rfl); (case hr => first | (go_simp; done) | (go_simp; rfl)); intro gb403 hg w37 hbox hb; have BK403 := Aside0.mk (hbox); have GW403 := Aside0.mk ((by rw [hg]; exact (below_size r0_) : w.heap.size ≤ gb403)); have GE403 := Aside0.mk ((by rw [hg]; exact (below_size r0_) : w.heap.size ≤ gb403)); replace HB := Aside0.mk (below_step r0_ hb); have NB392_403 := Aside0.mk ((by rw [hg]; exact Nat.ne_of_lt (blk_lt (g := gb392) (o := .cells #[.int .i64 x393000_1, .string x393001_1, .int .u64 x393002_1, .string x393003_1, .int .u64 x393004_1, .int .i64 x393005_1, .int .u64 x393006_1, .int .u64 x393007_1, .int .i64 x393008_1] 44 (0, 0)) r1_) : gb392 ≠ gb403)); have NB403_392 := Aside0.mk ((by rw [hg]; exact Nat.ne_of_gt (blk_lt (g := gb392) (o := .cells #[.int .i64 x393000_1, .string x393001_1, .int .u64 x393002_1, .string x393003_1, .int .u64 x393004_1, .int .i64 x393005_1, .int .u64 x393006_1, .int .u64 x393007_1, .int .i64 x393008_1] 44 (0, 0)) r1_) : gb403 ≠ gb392)); replace BK392 := Aside0.mk (blk_below (g := gb392) (o := .cells #[.int .i64 x393000_1, .string x393001_1, .int .u64 x393002_1, .string x393003_1, .int .u64 x393004_1, .int .i64 x393005_1, .int .u64 x393006_1, .int .u64 x393007_1, .int .i64 x393008_1] 44 (0, 0)) r1_ hb); clear hb hbox hg; have hnb38 := NB403_392.out; have hnc38 := NB392_403.out; have hcz39_0 : w37.cell? ⟨gb403, 0, none⟩ = some (.int .i64 0) := (blk_cell BK403.out 0).trans rfl; have hcz39_1 : w37.cell? ⟨gb403, 1, none⟩ = some (.string (⟨#[]⟩ : ByteArray)) := (blk_cell BK403.out 1).trans rfl; have hcz39_2 : w37.cell? ⟨gb403, 2, none⟩ = some (.int .u64 0) := (blk_cell BK403.out 2).trans rfl; have hcz39_3 : w37.cell? ⟨gb403, 3, none⟩ = some (.string (⟨#[]⟩ : ByteArray)) := (blk_cell BK403.out 3).trans rfl; have hcz39_4 : w37.cell? ⟨gb403, 4, none⟩ = some (.int .u64 0) := (blk_cell BK403.out 4).trans rfl; have hcz39_5 : w37.cell? ⟨gb403, 5, none⟩ = some (.int .i64 0) := (blk_cell BK403.out 5).trans rfl; have hcz39_6 : w37.cell? ⟨gb403, 6, none⟩ = some (.int .u64 0) := (blk_cell BK403.out 6).trans rfl; have hcz39_7 : w37.cell? ⟨gb403, 7, none⟩ = some (.int .u64 0) := (blk_cell BK403.out 7).trans rfl; have hcz39_8 : w37.cell? ⟨gb403, 8, none⟩ = some (.int .i64 0) := (blk_cell BK403.out 8).trans rfl; have hfz39_0 := blk_frozen BK403.out 0; have hfz39_1 := blk_frozen BK403.out 1; have hfz39_2 := blk_frozen BK403.out 2; have hfz39_3 := blk_frozen BK403.out 3; have hfz39_4 := blk_frozen BK403.out 4; have hfz39_5 := blk_frozen BK403.out 5; have hfz39_6 := blk_frozen BK403.out 6; have hfz39_7 := blk_frozen BK403.out 7; have hfz39_8 := blk_frozen BK403.out 8))
     go_roundg k1
     case measure => have := HK1.out; omega
     case rel => exact ⟨(wrap64 (x9_1 + 1)), (x393000_1), (x393001_1), (x393002_1), (x393003_1), (x393004_1), (x393005_1), (x393006_1), (x393007_1), (x393008_1), rs_, hH_, ⟨by have := HK1.out; omega⟩, ⟨r2_⟩, ⟨r27_⟩⟩
    rw [if_pos c18] at H
    have c18b0 := decide_eq_true c18
    clear c18
    by_cases c19 : x393000_1 = 0
    ·rw [if_pos c19] at H
     have c19b0 := beq_iff_eq.mpr c19
     have c19b1 := bne_eq_false_iff_eq.mpr c19
     clear c19
     have H' := Aside0.mk H
     clear H
     have p393 : 0 ≤ (x9_1 : Int) := of_decide_eq_true as_
     have q393 : x9_1 < (l0.length : Int) := of_decide_eq_true as_
     obtain ⟨ad393, e393, hx393_0, hx393_1, hx393_2, hx393_3⟩ := at_T47 HR0.out x9_1 p393 q393
     cases e393
     replace hx393_0 := (HB.out.cell (World.block_lt_of_cell? w _ hx393_0)).trans hx393_0
     replace hx393_1 := (HB.out.cell (World.block_lt_of_cell? w _ hx393_1)).trans hx393_1
     replace hx393_2 := (HB.out.cell (World.block_lt_of_cell? w _ hx393_2)).trans hx393_2
     replace hx393_3 := (HB.out.cell (World.block_lt_of_cell? w _ hx393_3)).trans hx393_3
     replace p393 := eq_true p393
     replace q393 := eq_true q393
     go_wp2_with (first | ((with_reducible refine gate_callee (f := 21) rfl ?_); refine goesL_ (some 27) rfl rfl Try.func21 r6_ rfl #[.agg #[.string ((rd_T47 l0 x9_1).f0), .int .u64 ((rd_T47 l0 x9_1).f1), .bool ((rd_T47 l0 x9_1).f2), .string ((rd_T47 l0 x9_1).f3)]] rfl hA_ ?_; (with_reducible refine (screeref17_Read.calls k1 ((rd_T47 l0 x9_1).f0) ((rd_T47 l0 x9_1).f1) ((rd_T47 l0 x9_1).f2) ((rd_T47 l0 x9_1).f3) t394 t395 t396 t397 t398 t399 t400 t401 t402 _ A10.out).mono ?_); rintro e w20 ⟨rfl, hb⟩; refine ⟨_, rfl, ?_⟩; replace BK392 := Aside0.mk (blk_below (g := gb392) (o := .cells #[.int .i64 x393000_1, .string x393001_1, .int .u64 x393002_1, .string x393003_1, .int .u64 x393004_1, .int .i64 x393005_1, .int .u64 x393006_1, .int .u64 x393007_1, .int .i64 x393008_1] 44 (0, 0)) r1_ hb); replace HB := Aside0.mk (below_step r0_ hb); clear hb A10) | ((with_reducible refine gate_dst (N := 10) rfl ?_); refine box_event ?hg (N := 10) ?hd (cs := #[.int .i64 0, .string (⟨#[]⟩ : ByteArray), .int .u64 0, .string (⟨#[]⟩ : ByteArray), .int .u64 0, .int .i64 0, .int .u64 0, .int .u64 0, .int .i64 0]) (t := 44) ?hr ?_; (case hd => rfl); (case hg => rfl); (case hr => first | (go_simp; done) | (go_simp; rfl)); intro gb403 hg w21 hbox hb; have BK403 := Aside0.mk (hbox); have GW403 := Aside0.mk ((by rw [hg]; exact (below_size r0_) : w.heap.size ≤ gb403)); have GE403 := Aside0.mk ((by rw [hg]; exact (below_size r0_) : w.heap.size ≤ gb403)); replace HB := Aside0.mk (below_step r0_ hb); have NB392_403 := Aside0.mk ((by rw [hg]; exact Nat.ne_of_lt (blk_lt (g := gb392) (o := .cells #[.int .i64 x393000_1, .string x393001_1, .int .u64 x393002_1, .string x393003_1, .int .u64 x393004_1, .int .i64 x393005_1, .int .u64 x393006_1, .int .u64 x393007_1, .int .i64 x393008_1] 44 (0, 0)) r1_) : gb392 ≠ gb403)); have NB403_392 := Aside0.mk ((by rw [hg]; exact Nat.ne_of_gt (blk_lt (g := gb392) (o := .cells #[.int .i64 x393000_1, .string x393001_1, .int .u64 x393002_1, .string x393003_1, .int .u64 x393004_1, .int .i64 x393005_1, .int .u64 x393006_1, .int .u64 x393007_1, .int .i64 x393008_1] 44 (0, 0)) r1_) : gb403 ≠ gb392)); replace BK392 := Aside0.mk (blk_below (g := gb392) (o := .cells #[.int .i64 x393000_1, .string x393001_1, .int .u64 x393002_1, .string x393003_1, .int .u64 x393004_1, .int .i64 x393005_1, .int .u64 x393006_1, .int .u64 x393007_1, .int .i64 x393008_1] 44 (0, 0)) r1_ hb); clear hb hbox hg; have hnb22 := NB403_392.out; have hnc22 := NB392_403.out; have hcz23_0 : w21.cell? ⟨gb403, 0, none⟩ = some (.int .i64 0) := (blk_cell BK403.out 0).trans rfl; have hcz23_1 : w21.cell? ⟨gb403, 1, none⟩ = some (.string (⟨#[]⟩ : ByteArray)) := (blk_cell BK403.out 1).trans rfl; have hcz23_2 : w21.cell? ⟨gb403, 2, none⟩ = some (.int .u64 0) := (blk_cell BK403.out 2).trans rfl; have hcz23_3 : w21.cell? ⟨gb403, 3, none⟩ = some (.string (⟨#[]⟩ : ByteArray)) := (blk_cell BK403.out 3).trans rfl; have hcz23_4 : w21.cell? ⟨gb403, 4, none⟩ = some (.int .u64 0) := (blk_cell BK403.out 4).trans rfl; have hcz23_5 : w21.cell? ⟨gb403, 5, none⟩ = some (.int .i64 0) := (blk_cell BK403.out 5).trans rfl; have hcz23_6 : w21.cell? ⟨gb403, 6, none⟩ = some (.int .u64 0) := (blk_cell BK403.out 6).trans rfl; have hcz23_7 : w21.cell? ⟨gb403, 7, none⟩ = some (.int .u64 0) := (blk_cell BK403.out 7).trans rfl; have hcz23_8 : w21.cell? ⟨gb403, 8, none⟩ = some (.int .i64 0) := (blk_cell BK403.out 8).trans rfl; have hfz23_0 := blk_frozen BK403.out 0; have hfz23_1 := blk_frozen BK403.out 1; have hfz23_2 := blk_frozen BK403.out 2; have hfz23_3 := blk_frozen BK403.out 3; have hfz23_4 := blk_frozen BK403.out 4; have hfz23_5 := blk_frozen BK403.out 5; have hfz23_6 := blk_frozen BK403.out 6; have hfz23_7 := blk_frozen BK403.out 7; have hfz23_8 := blk_frozen BK403.out 8; have hcz24_0 : w21.cell? ⟨gb392, 0, none⟩ = some (.int .i64 x393000_1) := (blk_cell BK392.out 0).trans rfl; have hcz24_1 : w21.cell? ⟨gb392, 1, none⟩ = some (.string x393001_1) := (blk_cell BK392.out 1).trans rfl; have hcz24_2 : w21.cell? ⟨gb392, 2, none⟩ = some (.int .u64 x393002_1) := (blk_cell BK392.out 2).trans rfl; have hcz24_3 : w21.cell? ⟨gb392, 3, none⟩ = some (.string x393003_1) := (blk_cell BK392.out 3).trans rfl; have hcz24_4 : w21.cell? ⟨gb392, 4, none⟩ = some (.int .u64 x393004_1) := (blk_cell BK392.out 4).trans rfl; have hcz24_5 : w21.cell? ⟨gb392, 5, none⟩ = some (.int .i64 x393005_1) := (blk_cell BK392.out 5).trans rfl; have hcz24_6 : w21.cell? ⟨gb392, 6, none⟩ = some (.int .u64 x393006_1) := (blk_cell BK392.out 6).trans rfl; have hcz24_7 : w21.cell? ⟨gb392, 7, none⟩ = some (.int .u64 x393007_1) := (blk_cell BK392.out 7).trans rfl; have hcz24_8 : w21.cell? ⟨gb392, 8, none⟩ = some (.int .i64 x393008_1) := (blk_cell BK392.out 8).trans rfl; have hfz24_0 := blk_frozen BK392.out 0; have hfz24_1 := blk_frozen BK392.out 1; have hfz24_2 := blk_frozen BK392.out 2; have hfz24_3 := blk_frozen BK392.out 3; have hfz24_4 := blk_frozen BK392.out 4; have hfz24_5 := blk_frozen BK392.out 5; have hfz24_6 := blk_frozen BK392.out 6; have hfz24_7 := blk_frozen BK392.out 7; have hfz24_8 := blk_frozen BK392.out 8))
     go_roundg k1
     case measure => have := HK1.out; omega
     case rel => exact ⟨(wrap64 (x9_1 + 1)), (t394), (t395), (t396), (t397), (t398), (t399), (t400), (t401), (t402), rs_, hH_, ⟨by have := HK1.out; omega⟩, ⟨by (with_reducible repeat (first | refine blk_drewN ?_ _ | refine blk_drew ?_ | refine blk_alloc ?_ _)); refine blk_put (cs := #[.int .i64 t394, .string t395, .int .u64 t396, .string t397, .int .u64 t398, .int .i64 t399, .int .u64 t400, .int .u64 t401, .int .i64 x393008_1]) ?_ 8 _ rfl; (with_reducible repeat (first | refine blk_drewN ?_ _ | refine blk_drew ?_ | refine blk_alloc ?_ _)); refine blk_put (cs := #[.int .i64 t394, .string t395, .int .u64 t396, .string t397, .int .u64 t398, .int .i64 t399, .int .u64 t400, .int .u64 x393007_1, .int .i64 x393008_1]) ?_ 7 _ rfl; (with_reducible repeat (first | refine blk_drewN ?_ _ | refine blk_drew ?_ | refine blk_alloc ?_ _)); refine blk_put (cs := #[.int .i64 t394, .string t395, .int .u64 t396, .string t397, .int .u64 t398, .int .i64 t399, .int .u64 x393006_1, .int .u64 x393007_1, .int .i64 x393008_1]) ?_ 6 _ rfl; (with_reducible repeat (first | refine blk_drewN ?_ _ | refine blk_drew ?_ | refine blk_alloc ?_ _)); refine blk_put (cs := #[.int .i64 t394, .string t395, .int .u64 t396, .string t397, .int .u64 t398, .int .i64 x393005_1, .int .u64 x393006_1, .int .u64 x393007_1, .int .i64 x393008_1]) ?_ 5 _ rfl; (with_reducible repeat (first | refine blk_drewN ?_ _ | refine blk_drew ?_ | refine blk_alloc ?_ _)); refine blk_put (cs := #[.int .i64 t394, .string t395, .int .u64 t396, .string t397, .int .u64 x393004_1, .int .i64 x393005_1, .int .u64 x393006_1, .int .u64 x393007_1, .int .i64 x393008_1]) ?_ 4 _ rfl; (with_reducible repeat (first | refine blk_drewN ?_ _ | refine blk_drew ?_ | refine blk_alloc ?_ _)); refine blk_put (cs := #[.int .i64 t394, .string t395, .int .u64 t396, .string x393003_1, .int .u64 x393004_1, .int .i64 x393005_1, .int .u64 x393006_1, .int .u64 x393007_1, .int .i64 x393008_1]) ?_ 3 _ rfl; (with_reducible repeat (first | refine blk_drewN ?_ _ | refine blk_drew ?_ | refine blk_alloc ?_ _)); refine blk_put (cs := #[.int .i64 t394, .string t395, .int .u64 x393002_1, .string x393003_1, .int .u64 x393004_1, .int .i64 x393005_1, .int .u64 x393006_1, .int .u64 x393007_1, .int .i64 x393008_1]) ?_ 2 _ rfl; (with_reducible repeat (first | refine blk_drewN ?_ _ | refine blk_drew ?_ | refine blk_alloc ?_ _)); refine blk_put (cs := #[.int .i64 t394, .string x393001_1, .int .u64 x393002_1, .string x393003_1, .int .u64 x393004_1, .int .i64 x393005_1, .int .u64 x393006_1, .int .u64 x393007_1, .int .i64 x393008_1]) ?_ 1 _ rfl; (with_reducible repeat (first | refine blk_drewN ?_ _ | refine blk_drew ?_ | refine blk_alloc ?_ _)); refine blk_put (cs := #[.int .i64 x393000_1, .string x393001_1, .int .u64 x393002_1, .string x393003_1, .int .u64 x393004_1, .int .i64 x393005_1, .int .u64 x393006_1, .int .u64 x393007_1, .int .i64 x393008_1]) ?_ 0 _ rfl; (with_reducible repeat (first | refine blk_drewN ?_ _ | refine blk_drew ?_ | refine blk_alloc ?_ _)); refine blk_far ?_ NB392_403.out _; (with_reducible repeat (first | refine blk_drewN ?_ _ | refine blk_drew ?_ | refine blk_alloc ?_ _)); refine blk_far ?_ NB392_403.out _; (with_reducible repeat (first | refine blk_drewN ?_ _ | refine blk_drew ?_ | refine blk_alloc ?_ _)); refine blk_far ?_ NB392_403.out _; (with_reducible repeat (first | refine blk_drewN ?_ _ | refine blk_drew ?_ | refine blk_alloc ?_ _)); refine blk_far ?_ NB392_403.out _; (with_reducible repeat (first | refine blk_drewN ?_ _ | refine blk_drew ?_ | refine blk_alloc ?_ _)); refine blk_far ?_ NB392_403.out _; (with_reducible repeat (first | refine blk_drewN ?_ _ | refine blk_drew ?_ | refine blk_alloc ?_ _)); refine blk_far ?_ NB392_403.out _; (with_reducible repeat (first | refine blk_drewN ?_ _ | refine blk_drew ?_ | refine blk_alloc ?_ _)); refine blk_far ?_ NB392_403.out _; (with_reducible repeat (first | refine blk_drewN ?_ _ | refine blk_drew ?_ | refine blk_alloc ?_ _)); refine blk_far ?_ NB392_403.out _; (with_reducible repeat (first | refine blk_drewN ?_ _ | refine blk_drew ?_ | refine blk_alloc ?_ _)); refine blk_far ?_ NB392_403.out _; (with_reducible repeat (first | refine blk_drewN ?_ _ | refine blk_drew ?_ | refine blk_alloc ?_ _)); exact BK392.out⟩, ⟨r27_⟩⟩
    rw [if_neg c19] at H
    have c19b0 := beq_eq_false_iff_ne.mpr c19
    have c19b1 := bne_iff_ne.mpr c19
    by_cases c25 : t396 > x393002_1
    ·rw [if_pos c25] at H
     have c25b0 : decide (x393002_1 < t396) = true := decide_eq_true c25
     clear c25
     have H' := Aside0.mk H
     clear H
     have p393 : 0 ≤ (x9_1 : Int) := of_decide_eq_true as_
     have q393 : x9_1 < (l0.length : Int) := of_decide_eq_true as_
     obtain ⟨ad393, e393, hx393_0, hx393_1, hx393_2, hx393_3⟩ := at_T47 HR0.out x9_1 p393 q393
     cases e393
     replace hx393_0 := (HB.out.cell (World.block_lt_of_cell? w _ hx393_0)).trans hx393_0
     replace hx393_1 := (HB.out.cell (World.block_lt_of_cell? w _ hx393_1)).trans hx393_1
     replace hx393_2 := (HB.out.cell (World.block_lt_of_cell? w _ hx393_2)).trans hx393_2
     replace hx393_3 := (HB.out.cell (World.block_lt_of_cell? w _ hx393_3)).trans hx393_3
     replace p393 := eq_true p393
     replace q393 := eq_true q393
     go_wp2_with (first | ((with_reducible refine gate_callee (f := 21) rfl ?_); refine goesL_ (some 27) rfl rfl Try.func21 r6_ rfl #[.agg #[.string ((rd_T47 l0 x9_1).f0), .int .u64 ((rd_T47 l0 x9_1).f1), .bool ((rd_T47 l0 x9_1).f2), .string ((rd_T47 l0 x9_1).f3)]] rfl hA_ ?_; (with_reducible refine (screeref17_Read.calls k1 ((rd_T47 l0 x9_1).f0) ((rd_T47 l0 x9_1).f1) ((rd_T47 l0 x9_1).f2) ((rd_T47 l0 x9_1).f3) t394 t395 t396 t397 t398 t399 t400 t401 t402 _ A10.out).mono ?_); rintro e w26 ⟨rfl, hb⟩; refine ⟨_, rfl, ?_⟩; replace BK392 := Aside0.mk (blk_below (g := gb392) (o := .cells #[.int .i64 x393000_1, .string x393001_1, .int .u64 x393002_1, .string x393003_1, .int .u64 x393004_1, .int .i64 x393005_1, .int .u64 x393006_1, .int .u64 x393007_1, .int .i64 x393008_1] 44 (0, 0)) r1_ hb); replace HB := Aside0.mk (below_step r0_ hb); clear hb A10) | ((with_reducible refine gate_dst (N := 10) rfl ?_); refine box_event ?hg (N := 10) ?hd (cs := #[.int .i64 0, .string (⟨#[]⟩ : ByteArray), .int .u64 0, .string (⟨#[]⟩ : ByteArray), .int .u64 0, .int .i64 0, .int .u64 0, .int .u64 0, .int .i64 0]) (t := 44) ?hr ?_; (case hd => rfl); (case hg => rfl); (case hr => first | (go_simp; done) | (go_simp; rfl)); intro gb403 hg w27 hbox hb; have BK403 := Aside0.mk (hbox); have GW403 := Aside0.mk ((by rw [hg]; exact (below_size r0_) : w.heap.size ≤ gb403)); have GE403 := Aside0.mk ((by rw [hg]; exact (below_size r0_) : w.heap.size ≤ gb403)); replace HB := Aside0.mk (below_step r0_ hb); have NB392_403 := Aside0.mk ((by rw [hg]; exact Nat.ne_of_lt (blk_lt (g := gb392) (o := .cells #[.int .i64 x393000_1, .string x393001_1, .int .u64 x393002_1, .string x393003_1, .int .u64 x393004_1, .int .i64 x393005_1, .int .u64 x393006_1, .int .u64 x393007_1, .int .i64 x393008_1] 44 (0, 0)) r1_) : gb392 ≠ gb403)); have NB403_392 := Aside0.mk ((by rw [hg]; exact Nat.ne_of_gt (blk_lt (g := gb392) (o := .cells #[.int .i64 x393000_1, .string x393001_1, .int .u64 x393002_1, .string x393003_1, .int .u64 x393004_1, .int .i64 x393005_1, .int .u64 x393006_1, .int .u64 x393007_1, .int .i64 x393008_1] 44 (0, 0)) r1_) : gb403 ≠ gb392)); replace BK392 := Aside0.mk (blk_below (g := gb392) (o := .cells #[.int .i64 x393000_1, .string x393001_1, .int .u64 x393002_1, .string x393003_1, .int .u64 x393004_1, .int .i64 x393005_1, .int .u64 x393006_1, .int .u64 x393007_1, .int .i64 x393008_1] 44 (0, 0)) r1_ hb); clear hb hbox hg; have hnb28 := NB403_392.out; have hnc28 := NB392_403.out; have hcz29_0 : w27.cell? ⟨gb403, 0, none⟩ = some (.int .i64 0) := (blk_cell BK403.out 0).trans rfl; have hcz29_1 : w27.cell? ⟨gb403, 1, none⟩ = some (.string (⟨#[]⟩ : ByteArray)) := (blk_cell BK403.out 1).trans rfl; have hcz29_2 : w27.cell? ⟨gb403, 2, none⟩ = some (.int .u64 0) := (blk_cell BK403.out 2).trans rfl; have hcz29_3 : w27.cell? ⟨gb403, 3, none⟩ = some (.string (⟨#[]⟩ : ByteArray)) := (blk_cell BK403.out 3).trans rfl; have hcz29_4 : w27.cell? ⟨gb403, 4, none⟩ = some (.int .u64 0) := (blk_cell BK403.out 4).trans rfl; have hcz29_5 : w27.cell? ⟨gb403, 5, none⟩ = some (.int .i64 0) := (blk_cell BK403.out 5).trans rfl; have hcz29_6 : w27.cell? ⟨gb403, 6, none⟩ = some (.int .u64 0) := (blk_cell BK403.out 6).trans rfl; have hcz29_7 : w27.cell? ⟨gb403, 7, none⟩ = some (.int .u64 0) := (blk_cell BK403.out 7).trans rfl; have hcz29_8 : w27.cell? ⟨gb403, 8, none⟩ = some (.int .i64 0) := (blk_cell BK403.out 8).trans rfl; have hfz29_0 := blk_frozen BK403.out 0; have hfz29_1 := blk_frozen BK403.out 1; have hfz29_2 := blk_frozen BK403.out 2; have hfz29_3 := blk_frozen BK403.out 3; have hfz29_4 := blk_frozen BK403.out 4; have hfz29_5 := blk_frozen BK403.out 5; have hfz29_6 := blk_frozen BK403.out 6; have hfz29_7 := blk_frozen BK403.out 7; have hfz29_8 := blk_frozen BK403.out 8; have hcz30_0 : w27.cell? ⟨gb392, 0, none⟩ = some (.int .i64 x393000_1) := (blk_cell BK392.out 0).trans rfl; have hcz30_1 : w27.cell? ⟨gb392, 1, none⟩ = some (.string x393001_1) := (blk_cell BK392.out 1).trans rfl; have hcz30_2 : w27.cell? ⟨gb392, 2, none⟩ = some (.int .u64 x393002_1) := (blk_cell BK392.out 2).trans rfl; have hcz30_3 : w27.cell? ⟨gb392, 3, none⟩ = some (.string x393003_1) := (blk_cell BK392.out 3).trans rfl; have hcz30_4 : w27.cell? ⟨gb392, 4, none⟩ = some (.int .u64 x393004_1) := (blk_cell BK392.out 4).trans rfl; have hcz30_5 : w27.cell? ⟨gb392, 5, none⟩ = some (.int .i64 x393005_1) := (blk_cell BK392.out 5).trans rfl; have hcz30_6 : w27.cell? ⟨gb392, 6, none⟩ = some (.int .u64 x393006_1) := (blk_cell BK392.out 6).trans rfl; have hcz30_7 : w27.cell? ⟨gb392, 7, none⟩ = some (.int .u64 x393007_1) := (blk_cell BK392.out 7).trans rfl; have hcz30_8 : w27.cell? ⟨gb392, 8, none⟩ = some (.int .i64 x393008_1) := (blk_cell BK392.out 8).trans rfl; have hfz30_0 := blk_frozen BK392.out 0; have hfz30_1 := blk_frozen BK392.out 1; have hfz30_2 := blk_frozen BK392.out 2; have hfz30_3 := blk_frozen BK392.out 3; have hfz30_4 := blk_frozen BK392.out 4; have hfz30_5 := blk_frozen BK392.out 5; have hfz30_6 := blk_frozen BK392.out 6; have hfz30_7 := blk_frozen BK392.out 7; have hfz30_8 := blk_frozen BK392.out 8))
     go_roundg k1
     case measure => have := HK1.out; omega
     case rel => exact ⟨(wrap64 (x9_1 + 1)), (t394), (t395), (t396), (t397), (t398), (t399), (t400), (t401), (t402), rs_, hH_, ⟨by have := HK1.out; omega⟩, ⟨by (with_reducible repeat (first | refine blk_drewN ?_ _ | refine blk_drew ?_ | refine blk_alloc ?_ _)); refine blk_put (cs := #[.int .i64 t394, .string t395, .int .u64 t396, .string t397, .int .u64 t398, .int .i64 t399, .int .u64 t400, .int .u64 t401, .int .i64 x393008_1]) ?_ 8 _ rfl; (with_reducible repeat (first | refine blk_drewN ?_ _ | refine blk_drew ?_ | refine blk_alloc ?_ _)); refine blk_put (cs := #[.int .i64 t394, .string t395, .int .u64 t396, .string t397, .int .u64 t398, .int .i64 t399, .int .u64 t400, .int .u64 x393007_1, .int .i64 x393008_1]) ?_ 7 _ rfl; (with_reducible repeat (first | refine blk_drewN ?_ _ | refine blk_drew ?_ | refine blk_alloc ?_ _)); refine blk_put (cs := #[.int .i64 t394, .string t395, .int .u64 t396, .string t397, .int .u64 t398, .int .i64 t399, .int .u64 x393006_1, .int .u64 x393007_1, .int .i64 x393008_1]) ?_ 6 _ rfl; (with_reducible repeat (first | refine blk_drewN ?_ _ | refine blk_drew ?_ | refine blk_alloc ?_ _)); refine blk_put (cs := #[.int .i64 t394, .string t395, .int .u64 t396, .string t397, .int .u64 t398, .int .i64 x393005_1, .int .u64 x393006_1, .int .u64 x393007_1, .int .i64 x393008_1]) ?_ 5 _ rfl; (with_reducible repeat (first | refine blk_drewN ?_ _ | refine blk_drew ?_ | refine blk_alloc ?_ _)); refine blk_put (cs := #[.int .i64 t394, .string t395, .int .u64 t396, .string t397, .int .u64 x393004_1, .int .i64 x393005_1, .int .u64 x393006_1, .int .u64 x393007_1, .int .i64 x393008_1]) ?_ 4 _ rfl; (with_reducible repeat (first | refine blk_drewN ?_ _ | refine blk_drew ?_ | refine blk_alloc ?_ _)); refine blk_put (cs := #[.int .i64 t394, .string t395, .int .u64 t396, .string x393003_1, .int .u64 x393004_1, .int .i64 x393005_1, .int .u64 x393006_1, .int .u64 x393007_1, .int .i64 x393008_1]) ?_ 3 _ rfl; (with_reducible repeat (first | refine blk_drewN ?_ _ | refine blk_drew ?_ | refine blk_alloc ?_ _)); refine blk_put (cs := #[.int .i64 t394, .string t395, .int .u64 x393002_1, .string x393003_1, .int .u64 x393004_1, .int .i64 x393005_1, .int .u64 x393006_1, .int .u64 x393007_1, .int .i64 x393008_1]) ?_ 2 _ rfl; (with_reducible repeat (first | refine blk_drewN ?_ _ | refine blk_drew ?_ | refine blk_alloc ?_ _)); refine blk_put (cs := #[.int .i64 t394, .string x393001_1, .int .u64 x393002_1, .string x393003_1, .int .u64 x393004_1, .int .i64 x393005_1, .int .u64 x393006_1, .int .u64 x393007_1, .int .i64 x393008_1]) ?_ 1 _ rfl; (with_reducible repeat (first | refine blk_drewN ?_ _ | refine blk_drew ?_ | refine blk_alloc ?_ _)); refine blk_put (cs := #[.int .i64 x393000_1, .string x393001_1, .int .u64 x393002_1, .string x393003_1, .int .u64 x393004_1, .int .i64 x393005_1, .int .u64 x393006_1, .int .u64 x393007_1, .int .i64 x393008_1]) ?_ 0 _ rfl; (with_reducible repeat (first | refine blk_drewN ?_ _ | refine blk_drew ?_ | refine blk_alloc ?_ _)); refine blk_far ?_ NB392_403.out _; (with_reducible repeat (first | refine blk_drewN ?_ _ | refine blk_drew ?_ | refine blk_alloc ?_ _)); refine blk_far ?_ NB392_403.out _; (with_reducible repeat (first | refine blk_drewN ?_ _ | refine blk_drew ?_ | refine blk_alloc ?_ _)); refine blk_far ?_ NB392_403.out _; (with_reducible repeat (first | refine blk_drewN ?_ _ | refine blk_drew ?_ | refine blk_alloc ?_ _)); refine blk_far ?_ NB392_403.out _; (with_reducible repeat (first | refine blk_drewN ?_ _ | refine blk_drew ?_ | refine blk_alloc ?_ _)); refine blk_far ?_ NB392_403.out _; (with_reducible repeat (first | refine blk_drewN ?_ _ | refine blk_drew ?_ | refine blk_alloc ?_ _)); refine blk_far ?_ NB392_403.out _; (with_reducible repeat (first | refine blk_drewN ?_ _ | refine blk_drew ?_ | refine blk_alloc ?_ _)); refine blk_far ?_ NB392_403.out _; (with_reducible repeat (first | refine blk_drewN ?_ _ | refine blk_drew ?_ | refine blk_alloc ?_ _)); refine blk_far ?_ NB392_403.out _; (with_reducible repeat (first | refine blk_drewN ?_ _ | refine blk_drew ?_ | refine blk_alloc ?_ _)); refine blk_far ?_ NB392_403.out _; (with_reducible repeat (first | refine blk_drewN ?_ _ | refine blk_drew ?_ | refine blk_alloc ?_ _)); exact BK392.out⟩, ⟨r27_⟩⟩
    rw [if_neg c25] at H
    have c25b0 : decide (x393002_1 < t396) = false := decide_eq_false c25
    clear c25
    have H' := Aside0.mk H
    clear H
    have p393 : 0 ≤ (x9_1 : Int) := of_decide_eq_true as_
    have q393 : x9_1 < (l0.length : Int) := of_decide_eq_true as_
    obtain ⟨ad393, e393, hx393_0, hx393_1, hx393_2, hx393_3⟩ := at_T47 HR0.out x9_1 p393 q393
    cases e393
    replace hx393_0 := (HB.out.cell (World.block_lt_of_cell? w _ hx393_0)).trans hx393_0
    replace hx393_1 := (HB.out.cell (World.block_lt_of_cell? w _ hx393_1)).trans hx393_1
    replace hx393_2 := (HB.out.cell (World.block_lt_of_cell? w _ hx393_2)).trans hx393_2
    replace hx393_3 := (HB.out.cell (World.block_lt_of_cell? w _ hx393_3)).trans hx393_3
    replace p393 := eq_true p393
    replace q393 := eq_true q393
    go_wp2_with (first | ((with_reducible refine gate_callee (f := 21) rfl ?_); refine goesL_ (some 27) rfl rfl Try.func21 r6_ rfl #[.agg #[.string ((rd_T47 l0 x9_1).f0), .int .u64 ((rd_T47 l0 x9_1).f1), .bool ((rd_T47 l0 x9_1).f2), .string ((rd_T47 l0 x9_1).f3)]] rfl hA_ ?_; (with_reducible refine (screeref17_Read.calls k1 ((rd_T47 l0 x9_1).f0) ((rd_T47 l0 x9_1).f1) ((rd_T47 l0 x9_1).f2) ((rd_T47 l0 x9_1).f3) t394 t395 t396 t397 t398 t399 t400 t401 t402 _ A10.out).mono ?_); rintro e w31 ⟨rfl, hb⟩; refine ⟨_, rfl, ?_⟩; replace BK392 := Aside0.mk (blk_below (g := gb392) (o := .cells #[.int .i64 x393000_1, .string x393001_1, .int .u64 x393002_1, .string x393003_1, .int .u64 x393004_1, .int .i64 x393005_1, .int .u64 x393006_1, .int .u64 x393007_1, .int .i64 x393008_1] 44 (0, 0)) r1_ hb); replace HB := Aside0.mk (below_step r0_ hb); clear hb A10) | ((with_reducible refine gate_dst (N := 10) rfl ?_); refine box_event ?hg (N := 10) ?hd (cs := #[.int .i64 0, .string (⟨#[]⟩ : ByteArray), .int .u64 0, .string (⟨#[]⟩ : ByteArray), .int .u64 0, .int .i64 0, .int .u64 0, .int .u64 0, .int .i64 0]) (t := 44) ?hr ?_; (case hd => rfl); (case hg => rfl); (case hr => first | (go_simp; done) | (go_simp; rfl)); intro gb403 hg w32 hbox hb; have BK403 := Aside0.mk (hbox); have GW403 := Aside0.mk ((by rw [hg]; exact (below_size r0_) : w.heap.size ≤ gb403)); have GE403 := Aside0.mk ((by rw [hg]; exact (below_size r0_) : w.heap.size ≤ gb403)); replace HB := Aside0.mk (below_step r0_ hb); have NB392_403 := Aside0.mk ((by rw [hg]; exact Nat.ne_of_lt (blk_lt (g := gb392) (o := .cells #[.int .i64 x393000_1, .string x393001_1, .int .u64 x393002_1, .string x393003_1, .int .u64 x393004_1, .int .i64 x393005_1, .int .u64 x393006_1, .int .u64 x393007_1, .int .i64 x393008_1] 44 (0, 0)) r1_) : gb392 ≠ gb403)); have NB403_392 := Aside0.mk ((by rw [hg]; exact Nat.ne_of_gt (blk_lt (g := gb392) (o := .cells #[.int .i64 x393000_1, .string x393001_1, .int .u64 x393002_1, .string x393003_1, .int .u64 x393004_1, .int .i64 x393005_1, .int .u64 x393006_1, .int .u64 x393007_1, .int .i64 x393008_1] 44 (0, 0)) r1_) : gb403 ≠ gb392)); replace BK392 := Aside0.mk (blk_below (g := gb392) (o := .cells #[.int .i64 x393000_1, .string x393001_1, .int .u64 x393002_1, .string x393003_1, .int .u64 x393004_1, .int .i64 x393005_1, .int .u64 x393006_1, .int .u64 x393007_1, .int .i64 x393008_1] 44 (0, 0)) r1_ hb); clear hb hbox hg; have hnb33 := NB403_392.out; have hnc33 := NB392_403.out; have hcz34_0 : w32.cell? ⟨gb403, 0, none⟩ = some (.int .i64 0) := (blk_cell BK403.out 0).trans rfl; have hcz34_1 : w32.cell? ⟨gb403, 1, none⟩ = some (.string (⟨#[]⟩ : ByteArray)) := (blk_cell BK403.out 1).trans rfl; have hcz34_2 : w32.cell? ⟨gb403, 2, none⟩ = some (.int .u64 0) := (blk_cell BK403.out 2).trans rfl; have hcz34_3 : w32.cell? ⟨gb403, 3, none⟩ = some (.string (⟨#[]⟩ : ByteArray)) := (blk_cell BK403.out 3).trans rfl; have hcz34_4 : w32.cell? ⟨gb403, 4, none⟩ = some (.int .u64 0) := (blk_cell BK403.out 4).trans rfl; have hcz34_5 : w32.cell? ⟨gb403, 5, none⟩ = some (.int .i64 0) := (blk_cell BK403.out 5).trans rfl; have hcz34_6 : w32.cell? ⟨gb403, 6, none⟩ = some (.int .u64 0) := (blk_cell BK403.out 6).trans rfl; have hcz34_7 : w32.cell? ⟨gb403, 7, none⟩ = some (.int .u64 0) := (blk_cell BK403.out 7).trans rfl; have hcz34_8 : w32.cell? ⟨gb403, 8, none⟩ = some (.int .i64 0) := (blk_cell BK403.out 8).trans rfl; have hfz34_0 := blk_frozen BK403.out 0; have hfz34_1 := blk_frozen BK403.out 1; have hfz34_2 := blk_frozen BK403.out 2; have hfz34_3 := blk_frozen BK403.out 3; have hfz34_4 := blk_frozen BK403.out 4; have hfz34_5 := blk_frozen BK403.out 5; have hfz34_6 := blk_frozen BK403.out 6; have hfz34_7 := blk_frozen BK403.out 7; have hfz34_8 := blk_frozen BK403.out 8; have hcz35_0 : w32.cell? ⟨gb392, 0, none⟩ = some (.int .i64 x393000_1) := (blk_cell BK392.out 0).trans rfl; have hcz35_1 : w32.cell? ⟨gb392, 1, none⟩ = some (.string x393001_1) := (blk_cell BK392.out 1).trans rfl; have hcz35_2 : w32.cell? ⟨gb392, 2, none⟩ = some (.int .u64 x393002_1) := (blk_cell BK392.out 2).trans rfl; have hcz35_3 : w32.cell? ⟨gb392, 3, none⟩ = some (.string x393003_1) := (blk_cell BK392.out 3).trans rfl; have hcz35_4 : w32.cell? ⟨gb392, 4, none⟩ = some (.int .u64 x393004_1) := (blk_cell BK392.out 4).trans rfl; have hcz35_5 : w32.cell? ⟨gb392, 5, none⟩ = some (.int .i64 x393005_1) := (blk_cell BK392.out 5).trans rfl; have hcz35_6 : w32.cell? ⟨gb392, 6, none⟩ = some (.int .u64 x393006_1) := (blk_cell BK392.out 6).trans rfl; have hcz35_7 : w32.cell? ⟨gb392, 7, none⟩ = some (.int .u64 x393007_1) := (blk_cell BK392.out 7).trans rfl; have hcz35_8 : w32.cell? ⟨gb392, 8, none⟩ = some (.int .i64 x393008_1) := (blk_cell BK392.out 8).trans rfl; have hfz35_0 := blk_frozen BK392.out 0; have hfz35_1 := blk_frozen BK392.out 1; have hfz35_2 := blk_frozen BK392.out 2; have hfz35_3 := blk_frozen BK392.out 3; have hfz35_4 := blk_frozen BK392.out 4; have hfz35_5 := blk_frozen BK392.out 5; have hfz35_6 := blk_frozen BK392.out 6; have hfz35_7 := blk_frozen BK392.out 7; have hfz35_8 := blk_frozen BK392.out 8))
    go_roundg k1
    case measure => have := HK1.out; omega
    case rel => exact ⟨(wrap64 (x9_1 + 1)), (x393000_1), (x393001_1), (x393002_1), (x393003_1), (x393004_1), (x393005_1), (x393006_1), (x393007_1), (x393008_1), rs_, hH_, ⟨by have := HK1.out; omega⟩, ⟨r2_⟩, ⟨r27_⟩⟩
   rw [if_neg c8] at H
   have c8b0 := decide_eq_false c8
   clear c8
   have H' := Aside0.mk H
   clear H
   go_wp2
   go_loopg [11] k1 (fun kq v11 w' => ∃ (x11_2 : Int), v11 = .int .i64 x11_2 ∧ Aside0 (screeref17_Visible.l1 kq l0 a1 x11_2 x393000_1 x393001_1 x393002_1 x393003_1 x393004_1 x393005_1 x393006_1 x393007_1 x393008_1 = some (r1, r2)) ∧ Aside0 (kq ≤ k1) ∧ Aside0 (w'.heap[gb392]? = some (.cells #[.int .i64 x393000_1, .string x393001_1, .int .u64 x393002_1, .string x393003_1, .int .u64 x393004_1, .int .i64 x393005_1, .int .u64 x393006_1, .int .u64 x393007_1, .int .i64 x393008_1] 44 (0, 0))) ∧ Aside0 (Below w.heap.size w w'))
   case atStart => exact ⟨(0), rs_, H', ⟨Nat.le_refl _⟩, ⟨r1_⟩, ⟨r0_⟩⟩
   case round =>
    clear H'
    try clear c5
    try clear c8
    try clear c8b0
    try clear hcz7_0
    try clear hcz7_1
    try clear hcz7_2
    try clear hcz7_3
    try clear hcz7_4
    try clear hcz7_5
    try clear hcz7_6
    try clear hcz7_7
    try clear hcz7_8
    try clear hfz7_0
    try clear hfz7_1
    try clear hfz7_2
    try clear hfz7_3
    try clear hfz7_4
    try clear hfz7_5
    try clear hfz7_6
    try clear hfz7_7
    try clear hfz7_8
    obtain ⟨x11_2, rfl, HA, HK2, BK392, HB⟩ := hrel
    cases gk with
    | zero => exact absurd HA.out (by simp [screeref17_Visible.l1])
    | succ k2 =>
     have H := HA.out
     clear HA
     simp only [screeref17_Visible.l1] at H
     have HC48 := Aside0.mk H
     clear H
     go_upto_region 11 with (fail)
     go_cut [71] (fun v71 wc => ∃ (kq : Nat) (x71_47 : Bool), v71 = .bool x71_47 ∧ Aside0 (screeref17_Visible.j2 kq l0 a1 x11_2 x71_47 x393000_1 x393001_1 x393002_1 x393003_1 x393004_1 x393005_1 x393006_1 x393007_1 x393008_1 = some (r1, r2)) ∧ Aside0 (kq ≤ k2) ∧ Aside0 (wc.heap[gb392]? = some (.cells #[.int .i64 x393000_1, .string x393001_1, .int .u64 x393002_1, .string x393003_1, .int .u64 x393004_1, .int .i64 x393005_1, .int .u64 x393006_1, .int .u64 x393007_1, .int .i64 x393008_1] 44 (0, 0))) ∧ Aside0 (Below w.heap.size w wc))
     case first =>
      have H := HC48.out
      clear HC48
      by_cases c49 : x11_2 < (l0.length : Int)
      rotate_left
      ·rw [if_neg c49] at H
       have c49b0 := decide_eq_false c49
       clear c49
       (first | rw [c49b0] | (simp only [i64_w, i32_w]; rw [c49b0]) | skip)
       have H' := Aside0.mk H
       clear H
       go_wp2
       go_meet
       case rel => exact ⟨_, (false), rs_, hH_, ⟨by have := HK1.out; have := HK2.out; first | omega | exact Nat.le_refl _⟩, ⟨r1_⟩, ⟨r0_⟩⟩
      rw [if_pos c49] at H
      have c49b0 := decide_eq_true c49
      clear c49
      (first | rw [c49b0] | (simp only [i64_w, i32_w]; rw [c49b0]) | skip)
      have H' := Aside0.mk H
      clear H
      have hcz50_0 : wr.cell? ⟨gb392, 0, none⟩ = some (.int .i64 x393000_1) := (blk_cell BK392.out 0).trans rfl
      have hcz50_1 : wr.cell? ⟨gb392, 1, none⟩ = some (.string x393001_1) := (blk_cell BK392.out 1).trans rfl
      have hcz50_2 : wr.cell? ⟨gb392, 2, none⟩ = some (.int .u64 x393002_1) := (blk_cell BK392.out 2).trans rfl
      have hcz50_3 : wr.cell? ⟨gb392, 3, none⟩ = some (.string x393003_1) := (blk_cell BK392.out 3).trans rfl
      have hcz50_4 : wr.cell? ⟨gb392, 4, none⟩ = some (.int .u64 x393004_1) := (blk_cell BK392.out 4).trans rfl
      have hcz50_5 : wr.cell? ⟨gb392, 5, none⟩ = some (.int .i64 x393005_1) := (blk_cell BK392.out 5).trans rfl
      have hcz50_6 : wr.cell? ⟨gb392, 6, none⟩ = some (.int .u64 x393006_1) := (blk_cell BK392.out 6).trans rfl
      have hcz50_7 : wr.cell? ⟨gb392, 7, none⟩ = some (.int .u64 x393007_1) := (blk_cell BK392.out 7).trans rfl
      have hcz50_8 : wr.cell? ⟨gb392, 8, none⟩ = some (.int .i64 x393008_1) := (blk_cell BK392.out 8).trans rfl
      have hfz50_0 := blk_frozen BK392.out 0
      have hfz50_1 := blk_frozen BK392.out 1
      have hfz50_2 := blk_frozen BK392.out 2
      have hfz50_3 := blk_frozen BK392.out 3
      have hfz50_4 := blk_frozen BK392.out 4
      have hfz50_5 := blk_frozen BK392.out 5
      have hfz50_6 := blk_frozen BK392.out 6
      have hfz50_7 := blk_frozen BK392.out 7
      have hfz50_8 := blk_frozen BK392.out 8
      go_wp2
      go_meet
      case rel => exact ⟨_, ((x393008_1 == 1)), rs_, hH_, ⟨by have := HK1.out; have := HK2.out; first | omega | exact Nat.le_refl _⟩, ⟨r1_⟩, ⟨r0_⟩⟩
     case rest =>
      clear HC48
      try clear c5
      try clear c8
      try clear c8b0
      try clear hcz7_0
      try clear hcz7_1
      try clear hcz7_2
      try clear hcz7_3
      try clear hcz7_4
      try clear hcz7_5
      try clear hcz7_6
      try clear hcz7_7
      try clear hcz7_8
      try clear hfz7_0
      try clear hfz7_1
      try clear hfz7_2
      try clear hfz7_3
      try clear hfz7_4
      try clear hfz7_5
      try clear hfz7_6
      try clear hfz7_7
      try clear hfz7_8
      obtain ⟨kq, x71_47, rfl, HA, HJ47, BK392, HB⟩ := hcut
      cases kq with
      | zero => exact absurd HA.out (by simp [screeref17_Visible.j2])
      | succ kj47 =>
       have H := HA.out
       clear HA
       simp only [screeref17_Visible.j2] at H
       by_cases c51 : x71_47 = true
       rotate_left
       ·replace c51 := Bool.eq_false_iff.mpr c51
        subst c51
        rw [if_neg ff_] at H
        simp only [Option.some.injEq, Prod.mk.injEq] at H
        obtain ⟨rfl, rfl⟩ := H
        go_wp2
        go_ret2
        exact ⟨rf_, r0_⟩
       subst c51
       rw [if_pos rfl] at H
       by_cases c52 : 0 ≤ x11_2
       rotate_left
       ·rw [if_neg c52] at H
        exact absurd H r34_
       rw [if_pos c52] at H
       have c52b0 := decide_eq_true c52
       clear c52
       by_cases c53 : x11_2 < (l0.length : Int)
       rotate_left
       ·rw [if_neg c53] at H
        exact absurd H r34_
       rw [if_pos c53] at H
       have c53b0 := decide_eq_true c53
       clear c53
       replace H := Option.bind_eq_some_iff.mp H
       obtain ⟨⟨t405, t406, t407, t408, t409, t410, t411, t412, t413⟩, A540, H⟩ := H
       try dsimp only at H
       have A54 := Aside0.mk A540
       clear A540
       by_cases c55 : t405 = 3
       rotate_left
       ·rw [if_neg c55] at H
        have c55b0 := beq_eq_false_iff_ne.mpr c55
        have c55b1 := bne_iff_ne.mpr c55
        have H' := Aside0.mk H
        clear H
        have p404 : 0 ≤ (x11_2 : Int) := of_decide_eq_true as_
        have q404 : x11_2 < (l0.length : Int) := of_decide_eq_true as_
        obtain ⟨ad404, e404, hx404_0, hx404_1, hx404_2, hx404_3⟩ := at_T47 HR0.out x11_2 p404 q404
        cases e404
        replace hx404_0 := (HB.out.cell (World.block_lt_of_cell? w _ hx404_0)).trans hx404_0
        replace hx404_1 := (HB.out.cell (World.block_lt_of_cell? w _ hx404_1)).trans hx404_1
        replace hx404_2 := (HB.out.cell (World.block_lt_of_cell? w _ hx404_2)).trans hx404_2
        replace hx404_3 := (HB.out.cell (World.block_lt_of_cell? w _ hx404_3)).trans hx404_3
        replace p404 := eq_true p404
        replace q404 := eq_true q404
        go_wp2_with (first | ((with_reducible refine gate_callee (f := 21) rfl ?_); refine goesL_ (some 78) rfl rfl Try.func21 r6_ rfl #[.agg #[.string ((rd_T47 l0 x11_2).f0), .int .u64 ((rd_T47 l0 x11_2).f1), .bool ((rd_T47 l0 x11_2).f2), .string ((rd_T47 l0 x11_2).f3)]] rfl hA_ ?_; (with_reducible refine (screeref17_Read.calls kj47 ((rd_T47 l0 x11_2).f0) ((rd_T47 l0 x11_2).f1) ((rd_T47 l0 x11_2).f2) ((rd_T47 l0 x11_2).f3) t405 t406 t407 t408 t409 t410 t411 t412 t413 _ A54.out).mono ?_); rintro e w72 ⟨rfl, hb⟩; refine ⟨_, rfl, ?_⟩; replace BK392 := Aside0.mk (blk_below (g := gb392) (o := .cells #[.int .i64 x393000_1, .string x393001_1, .int .u64 x393002_1, .string x393003_1, .int .u64 x393004_1, .int .i64 x393005_1, .int .u64 x393006_1, .int .u64 x393007_1, .int .i64 x393008_1] 44 (0, 0)) r1_ hb); replace HB := Aside0.mk (below_step r0_ hb); clear hb A54) | ((with_reducible refine gate_dst (N := 12) rfl ?_); refine box_event ?hg (N := 12) ?hd (cs := #[.int .i64 0, .string (⟨#[]⟩ : ByteArray), .int .u64 0, .string (⟨#[]⟩ : ByteArray), .int .u64 0, .int .i64 0, .int .u64 0, .int .u64 0, .int .i64 0]) (t := 44) ?hr ?_; (case hd => rfl); (case hg => rfl); (case hr => first | (go_simp; done) | (go_simp; rfl)); intro gb414 hg w73 hbox hb; have BK414 := Aside0.mk (hbox); have GW414 := Aside0.mk ((by rw [hg]; exact (below_size r0_) : w.heap.size ≤ gb414)); have GE414 := Aside0.mk ((by rw [hg]; exact (below_size r0_) : w.heap.size ≤ gb414)); replace HB := Aside0.mk (below_step r0_ hb); have NB392_414 := Aside0.mk ((by rw [hg]; exact Nat.ne_of_lt (blk_lt (g := gb392) (o := .cells #[.int .i64 x393000_1, .string x393001_1, .int .u64 x393002_1, .string x393003_1, .int .u64 x393004_1, .int .i64 x393005_1, .int .u64 x393006_1, .int .u64 x393007_1, .int .i64 x393008_1] 44 (0, 0)) r1_) : gb392 ≠ gb414)); have NB414_392 := Aside0.mk ((by rw [hg]; exact Nat.ne_of_gt (blk_lt (g := gb392) (o := .cells #[.int .i64 x393000_1, .string x393001_1, .int .u64 x393002_1, .string x393003_1, .int .u64 x393004_1, .int .i64 x393005_1, .int .u64 x393006_1, .int .u64 x393007_1, .int .i64 x393008_1] 44 (0, 0)) r1_) : gb414 ≠ gb392)); replace BK392 := Aside0.mk (blk_below (g := gb392) (o := .cells #[.int .i64 x393000_1, .string x393001_1, .int .u64 x393002_1, .string x393003_1, .int .u64 x393004_1, .int .i64 x393005_1, .int .u64 x393006_1, .int .u64 x393007_1, .int .i64 x393008_1] 44 (0, 0)) r1_ hb); clear hb hbox hg; have hnb74 := NB414_392.out; have hnc74 := NB392_414.out; have hcz75_0 : w73.cell? ⟨gb414, 0, none⟩ = some (.int .i64 0) := (blk_cell BK414.out 0).trans rfl; have hcz75_1 : w73.cell? ⟨gb414, 1, none⟩ = some (.string (⟨#[]⟩ : ByteArray)) := (blk_cell BK414.out 1).trans rfl; have hcz75_2 : w73.cell? ⟨gb414, 2, none⟩ = some (.int .u64 0) := (blk_cell BK414.out 2).trans rfl; have hcz75_3 : w73.cell? ⟨gb414, 3, none⟩ = some (.string (⟨#[]⟩ : ByteArray)) := (blk_cell BK414.out 3).trans rfl; have hcz75_4 : w73.cell? ⟨gb414, 4, none⟩ = some (.int .u64 0) := (blk_cell BK414.out 4).trans rfl; have hcz75_5 : w73.cell? ⟨gb414, 5, none⟩ = some (.int .i64 0) := (blk_cell BK414.out 5).trans rfl; have hcz75_6 : w73.cell? ⟨gb414, 6, none⟩ = some (.int .u64 0) := (blk_cell BK414.out 6).trans rfl; have hcz75_7 : w73.cell? ⟨gb414, 7, none⟩ = some (.int .u64 0) := (blk_cell BK414.out 7).trans rfl; have hcz75_8 : w73.cell? ⟨gb414, 8, none⟩ = some (.int .i64 0) := (blk_cell BK414.out 8).trans rfl; have hfz75_0 := blk_frozen BK414.out 0; have hfz75_1 := blk_frozen BK414.out 1; have hfz75_2 := blk_frozen BK414.out 2; have hfz75_3 := blk_frozen BK414.out 3; have hfz75_4 := blk_frozen BK414.out 4; have hfz75_5 := blk_frozen BK414.out 5; have hfz75_6 := blk_frozen BK414.out 6; have hfz75_7 := blk_frozen BK414.out 7; have hfz75_8 := blk_frozen BK414.out 8))
        go_roundg kj47
        case measure => have := HK1.out; have := HK2.out; have := HJ47.out; omega
        case rel => exact ⟨(wrap64 (x11_2 + 1)), rs_, hH_, ⟨by have := HK1.out; have := HK2.out; have := HJ47.out; omega⟩, ⟨r13_⟩, ⟨r45_⟩⟩
       rw [if_pos c55] at H
       have c55b0 := beq_iff_eq.mpr c55
       have c55b1 := bne_eq_false_iff_eq.mpr c55
       clear c55
       by_cases c56 : t406.toList = a1.toList
       rotate_left
       ·rw [if_neg c56] at H
        have c56b0 := beq_eq_false_iff_ne.mpr c56
        have c56b1 := bne_iff_ne.mpr c56
        have H' := Aside0.mk H
        clear H
        have p404 : 0 ≤ (x11_2 : Int) := of_decide_eq_true as_
        have q404 : x11_2 < (l0.length : Int) := of_decide_eq_true as_
        obtain ⟨ad404, e404, hx404_0, hx404_1, hx404_2, hx404_3⟩ := at_T47 HR0.out x11_2 p404 q404
        cases e404
        replace hx404_0 := (HB.out.cell (World.block_lt_of_cell? w _ hx404_0)).trans hx404_0
        replace hx404_1 := (HB.out.cell (World.block_lt_of_cell? w _ hx404_1)).trans hx404_1
        replace hx404_2 := (HB.out.cell (World.block_lt_of_cell? w _ hx404_2)).trans hx404_2
        replace hx404_3 := (HB.out.cell (World.block_lt_of_cell? w _ hx404_3)).trans hx404_3
        replace p404 := eq_true p404
        replace q404 := eq_true q404
        go_wp2_with (first | ((with_reducible refine gate_callee (f := 21) rfl ?_); refine goesL_ (some 78) rfl rfl Try.func21 r6_ rfl #[.agg #[.string ((rd_T47 l0 x11_2).f0), .int .u64 ((rd_T47 l0 x11_2).f1), .bool ((rd_T47 l0 x11_2).f2), .string ((rd_T47 l0 x11_2).f3)]] rfl hA_ ?_; (with_reducible refine (screeref17_Read.calls kj47 ((rd_T47 l0 x11_2).f0) ((rd_T47 l0 x11_2).f1) ((rd_T47 l0 x11_2).f2) ((rd_T47 l0 x11_2).f3) t405 t406 t407 t408 t409 t410 t411 t412 t413 _ A54.out).mono ?_); rintro e w68 ⟨rfl, hb⟩; refine ⟨_, rfl, ?_⟩; replace BK392 := Aside0.mk (blk_below (g := gb392) (o := .cells #[.int .i64 x393000_1, .string x393001_1, .int .u64 x393002_1, .string x393003_1, .int .u64 x393004_1, .int .i64 x393005_1, .int .u64 x393006_1, .int .u64 x393007_1, .int .i64 x393008_1] 44 (0, 0)) r1_ hb); replace HB := Aside0.mk (below_step r0_ hb); clear hb A54) | ((with_reducible refine gate_dst (N := 12) rfl ?_); refine box_event ?hg (N := 12) ?hd (cs := #[.int .i64 0, .string (⟨#[]⟩ : ByteArray), .int .u64 0, .string (⟨#[]⟩ : ByteArray), .int .u64 0, .int .i64 0, .int .u64 0, .int .u64 0, .int .i64 0]) (t := 44) ?hr ?_; (case hd => rfl); (case hg => rfl); (case hr => first | (go_simp; done) | (go_simp; rfl)); intro gb414 hg w69 hbox hb; have BK414 := Aside0.mk (hbox); have GW414 := Aside0.mk ((by rw [hg]; exact (below_size r0_) : w.heap.size ≤ gb414)); have GE414 := Aside0.mk ((by rw [hg]; exact (below_size r0_) : w.heap.size ≤ gb414)); replace HB := Aside0.mk (below_step r0_ hb); have NB392_414 := Aside0.mk ((by rw [hg]; exact Nat.ne_of_lt (blk_lt (g := gb392) (o := .cells #[.int .i64 x393000_1, .string x393001_1, .int .u64 x393002_1, .string x393003_1, .int .u64 x393004_1, .int .i64 x393005_1, .int .u64 x393006_1, .int .u64 x393007_1, .int .i64 x393008_1] 44 (0, 0)) r1_) : gb392 ≠ gb414)); have NB414_392 := Aside0.mk ((by rw [hg]; exact Nat.ne_of_gt (blk_lt (g := gb392) (o := .cells #[.int .i64 x393000_1, .string x393001_1, .int .u64 x393002_1, .string x393003_1, .int .u64 x393004_1, .int .i64 x393005_1, .int .u64 x393006_1, .int .u64 x393007_1, .int .i64 x393008_1] 44 (0, 0)) r1_) : gb414 ≠ gb392)); replace BK392 := Aside0.mk (blk_below (g := gb392) (o := .cells #[.int .i64 x393000_1, .string x393001_1, .int .u64 x393002_1, .string x393003_1, .int .u64 x393004_1, .int .i64 x393005_1, .int .u64 x393006_1, .int .u64 x393007_1, .int .i64 x393008_1] 44 (0, 0)) r1_ hb); clear hb hbox hg; have hnb70 := NB414_392.out; have hnc70 := NB392_414.out; have hcz71_0 : w69.cell? ⟨gb414, 0, none⟩ = some (.int .i64 0) := (blk_cell BK414.out 0).trans rfl; have hcz71_1 : w69.cell? ⟨gb414, 1, none⟩ = some (.string (⟨#[]⟩ : ByteArray)) := (blk_cell BK414.out 1).trans rfl; have hcz71_2 : w69.cell? ⟨gb414, 2, none⟩ = some (.int .u64 0) := (blk_cell BK414.out 2).trans rfl; have hcz71_3 : w69.cell? ⟨gb414, 3, none⟩ = some (.string (⟨#[]⟩ : ByteArray)) := (blk_cell BK414.out 3).trans rfl; have hcz71_4 : w69.cell? ⟨gb414, 4, none⟩ = some (.int .u64 0) := (blk_cell BK414.out 4).trans rfl; have hcz71_5 : w69.cell? ⟨gb414, 5, none⟩ = some (.int .i64 0) := (blk_cell BK414.out 5).trans rfl; have hcz71_6 : w69.cell? ⟨gb414, 6, none⟩ = some (.int .u64 0) := (blk_cell BK414.out 6).trans rfl; have hcz71_7 : w69.cell? ⟨gb414, 7, none⟩ = some (.int .u64 0) := (blk_cell BK414.out 7).trans rfl; have hcz71_8 : w69.cell? ⟨gb414, 8, none⟩ = some (.int .i64 0) := (blk_cell BK414.out 8).trans rfl; have hfz71_0 := blk_frozen BK414.out 0; have hfz71_1 := blk_frozen BK414.out 1; have hfz71_2 := blk_frozen BK414.out 2; have hfz71_3 := blk_frozen BK414.out 3; have hfz71_4 := blk_frozen BK414.out 4; have hfz71_5 := blk_frozen BK414.out 5; have hfz71_6 := blk_frozen BK414.out 6; have hfz71_7 := blk_frozen BK414.out 7; have hfz71_8 := blk_frozen BK414.out 8))
        go_roundg kj47
        case measure => have := HK1.out; have := HK2.out; have := HJ47.out; omega
        case rel => exact ⟨(wrap64 (x11_2 + 1)), rs_, hH_, ⟨by have := HK1.out; have := HK2.out; have := HJ47.out; omega⟩, ⟨r13_⟩, ⟨r45_⟩⟩
       rw [if_pos c56] at H
       have c56b0 := beq_iff_eq.mpr c56
       have c56b1 := bne_eq_false_iff_eq.mpr c56
       clear c56
       by_cases c57 : t407 = x393007_1
       ·rw [if_pos c57] at H
        have c57b0 := beq_iff_eq.mpr c57
        have c57b1 := bne_eq_false_iff_eq.mpr c57
        clear c57
        simp only [Option.some.injEq, Prod.mk.injEq] at H
        obtain ⟨rfl, rfl⟩ := H
        have p404 : 0 ≤ (x11_2 : Int) := of_decide_eq_true as_
        have q404 : x11_2 < (l0.length : Int) := of_decide_eq_true as_
        obtain ⟨ad404, e404, hx404_0, hx404_1, hx404_2, hx404_3⟩ := at_T47 HR0.out x11_2 p404 q404
        cases e404
        replace hx404_0 := (HB.out.cell (World.block_lt_of_cell? w _ hx404_0)).trans hx404_0
        replace hx404_1 := (HB.out.cell (World.block_lt_of_cell? w _ hx404_1)).trans hx404_1
        replace hx404_2 := (HB.out.cell (World.block_lt_of_cell? w _ hx404_2)).trans hx404_2
        replace hx404_3 := (HB.out.cell (World.block_lt_of_cell? w _ hx404_3)).trans hx404_3
        replace p404 := eq_true p404
        replace q404 := eq_true q404
        go_wp2_with (first | ((with_reducible refine gate_callee (f := 21) rfl ?_); refine goesL_ (some 78) rfl rfl Try.func21 r6_ rfl #[.agg #[.string ((rd_T47 l0 x11_2).f0), .int .u64 ((rd_T47 l0 x11_2).f1), .bool ((rd_T47 l0 x11_2).f2), .string ((rd_T47 l0 x11_2).f3)]] rfl hA_ ?_; (with_reducible refine (screeref17_Read.calls kj47 ((rd_T47 l0 x11_2).f0) ((rd_T47 l0 x11_2).f1) ((rd_T47 l0 x11_2).f2) ((rd_T47 l0 x11_2).f3) t405 t406 t407 t408 t409 t410 t411 t412 t413 _ A54.out).mono ?_); rintro e w58 ⟨rfl, hb⟩; refine ⟨_, rfl, ?_⟩; replace BK392 := Aside0.mk (blk_below (g := gb392) (o := .cells #[.int .i64 x393000_1, .string x393001_1, .int .u64 x393002_1, .string x393003_1, .int .u64 x393004_1, .int .i64 x393005_1, .int .u64 x393006_1, .int .u64 x393007_1, .int .i64 x393008_1] 44 (0, 0)) r1_ hb); replace HB := Aside0.mk (below_step r0_ hb); clear hb A54) | ((with_reducible refine gate_dst (N := 12) rfl ?_); refine box_event ?hg (N := 12) ?hd (cs := #[.int .i64 0, .string (⟨#[]⟩ : ByteArray), .int .u64 0, .string (⟨#[]⟩ : ByteArray), .int .u64 0, .int .i64 0, .int .u64 0, .int .u64 0, .int .i64 0]) (t := 44) ?hr ?_; (case hd => rfl); (case hg => rfl); (case hr => first | (go_simp; done) | (go_simp; rfl)); intro gb414 hg w59 hbox hb; have BK414 := Aside0.mk (hbox); have GW414 := Aside0.mk ((by rw [hg]; exact (below_size r0_) : w.heap.size ≤ gb414)); have GE414 := Aside0.mk ((by rw [hg]; exact (below_size r0_) : w.heap.size ≤ gb414)); replace HB := Aside0.mk (below_step r0_ hb); have NB392_414 := Aside0.mk ((by rw [hg]; exact Nat.ne_of_lt (blk_lt (g := gb392) (o := .cells #[.int .i64 x393000_1, .string x393001_1, .int .u64 x393002_1, .string x393003_1, .int .u64 x393004_1, .int .i64 x393005_1, .int .u64 x393006_1, .int .u64 x393007_1, .int .i64 x393008_1] 44 (0, 0)) r1_) : gb392 ≠ gb414)); have NB414_392 := Aside0.mk ((by rw [hg]; exact Nat.ne_of_gt (blk_lt (g := gb392) (o := .cells #[.int .i64 x393000_1, .string x393001_1, .int .u64 x393002_1, .string x393003_1, .int .u64 x393004_1, .int .i64 x393005_1, .int .u64 x393006_1, .int .u64 x393007_1, .int .i64 x393008_1] 44 (0, 0)) r1_) : gb414 ≠ gb392)); replace BK392 := Aside0.mk (blk_below (g := gb392) (o := .cells #[.int .i64 x393000_1, .string x393001_1, .int .u64 x393002_1, .string x393003_1, .int .u64 x393004_1, .int .i64 x393005_1, .int .u64 x393006_1, .int .u64 x393007_1, .int .i64 x393008_1] 44 (0, 0)) r1_ hb); clear hb hbox hg; have hnb60 := NB414_392.out; have hnc60 := NB392_414.out; have hcz61_0 : w59.cell? ⟨gb414, 0, none⟩ = some (.int .i64 0) := (blk_cell BK414.out 0).trans rfl; have hcz61_1 : w59.cell? ⟨gb414, 1, none⟩ = some (.string (⟨#[]⟩ : ByteArray)) := (blk_cell BK414.out 1).trans rfl; have hcz61_2 : w59.cell? ⟨gb414, 2, none⟩ = some (.int .u64 0) := (blk_cell BK414.out 2).trans rfl; have hcz61_3 : w59.cell? ⟨gb414, 3, none⟩ = some (.string (⟨#[]⟩ : ByteArray)) := (blk_cell BK414.out 3).trans rfl; have hcz61_4 : w59.cell? ⟨gb414, 4, none⟩ = some (.int .u64 0) := (blk_cell BK414.out 4).trans rfl; have hcz61_5 : w59.cell? ⟨gb414, 5, none⟩ = some (.int .i64 0) := (blk_cell BK414.out 5).trans rfl; have hcz61_6 : w59.cell? ⟨gb414, 6, none⟩ = some (.int .u64 0) := (blk_cell BK414.out 6).trans rfl; have hcz61_7 : w59.cell? ⟨gb414, 7, none⟩ = some (.int .u64 0) := (blk_cell BK414.out 7).trans rfl; have hcz61_8 : w59.cell? ⟨gb414, 8, none⟩ = some (.int .i64 0) := (blk_cell BK414.out 8).trans rfl; have hfz61_0 := blk_frozen BK414.out 0; have hfz61_1 := blk_frozen BK414.out 1; have hfz61_2 := blk_frozen BK414.out 2; have hfz61_3 := blk_frozen BK414.out 3; have hfz61_4 := blk_frozen BK414.out 4; have hfz61_5 := blk_frozen BK414.out 5; have hfz61_6 := blk_frozen BK414.out 6; have hfz61_7 := blk_frozen BK414.out 7; have hfz61_8 := blk_frozen BK414.out 8; have hcz62_0 : w59.cell? ⟨gb392, 0, none⟩ = some (.int .i64 x393000_1) := (blk_cell BK392.out 0).trans rfl; have hcz62_1 : w59.cell? ⟨gb392, 1, none⟩ = some (.string x393001_1) := (blk_cell BK392.out 1).trans rfl; have hcz62_2 : w59.cell? ⟨gb392, 2, none⟩ = some (.int .u64 x393002_1) := (blk_cell BK392.out 2).trans rfl; have hcz62_3 : w59.cell? ⟨gb392, 3, none⟩ = some (.string x393003_1) := (blk_cell BK392.out 3).trans rfl; have hcz62_4 : w59.cell? ⟨gb392, 4, none⟩ = some (.int .u64 x393004_1) := (blk_cell BK392.out 4).trans rfl; have hcz62_5 : w59.cell? ⟨gb392, 5, none⟩ = some (.int .i64 x393005_1) := (blk_cell BK392.out 5).trans rfl; have hcz62_6 : w59.cell? ⟨gb392, 6, none⟩ = some (.int .u64 x393006_1) := (blk_cell BK392.out 6).trans rfl; have hcz62_7 : w59.cell? ⟨gb392, 7, none⟩ = some (.int .u64 x393007_1) := (blk_cell BK392.out 7).trans rfl; have hcz62_8 : w59.cell? ⟨gb392, 8, none⟩ = some (.int .i64 x393008_1) := (blk_cell BK392.out 8).trans rfl; have hfz62_0 := blk_frozen BK392.out 0; have hfz62_1 := blk_frozen BK392.out 1; have hfz62_2 := blk_frozen BK392.out 2; have hfz62_3 := blk_frozen BK392.out 3; have hfz62_4 := blk_frozen BK392.out 4; have hfz62_5 := blk_frozen BK392.out 5; have hfz62_6 := blk_frozen BK392.out 6; have hfz62_7 := blk_frozen BK392.out 7; have hfz62_8 := blk_frozen BK392.out 8; have p415 : 0 ≤ (x11_2 : Int) := of_decide_eq_true as_; have q415 : x11_2 < (l0.length : Int) := of_decide_eq_true as_; obtain ⟨ad415, e415, hx415_0, hx415_1, hx415_2, hx415_3⟩ := at_T47 HR0.out x11_2 p415 q415; obtain rfl : ad404 = ad415 := (by injection e415); have hn415_0 : ad404.block ≠ gb414 := Nat.ne_of_lt (Nat.lt_of_lt_of_le r42_ GW414.out); have hn415_1 : ad404.block ≠ gb414 := Nat.ne_of_lt (Nat.lt_of_lt_of_le r42_ GW414.out); have hn415_2 : ad404.block ≠ gb414 := Nat.ne_of_lt (Nat.lt_of_lt_of_le r42_ GW414.out); have hn415_3 : ad404.block ≠ gb414 := Nat.ne_of_lt (Nat.lt_of_lt_of_le r42_ GW414.out); have hn415_4 : ad404.block ≠ gb414 := Nat.ne_of_lt (Nat.lt_of_lt_of_le r42_ GW414.out); have hn415_5 : ad404.block ≠ gb414 := Nat.ne_of_lt (Nat.lt_of_lt_of_le r42_ GW414.out); have hn415_6 : ad404.block ≠ gb414 := Nat.ne_of_lt (Nat.lt_of_lt_of_le r42_ GW414.out); have hn415_7 : ad404.block ≠ gb414 := Nat.ne_of_lt (Nat.lt_of_lt_of_le r42_ GW414.out); have hn415_8 : ad404.block ≠ gb414 := Nat.ne_of_lt (Nat.lt_of_lt_of_le r42_ GW414.out); replace hx415_0 := (HB.out.cell (World.block_lt_of_cell? w _ hx415_0)).trans hx415_0; replace hx415_1 := (HB.out.cell (World.block_lt_of_cell? w _ hx415_1)).trans hx415_1; replace hx415_2 := (HB.out.cell (World.block_lt_of_cell? w _ hx415_2)).trans hx415_2; replace hx415_3 := (HB.out.cell (World.block_lt_of_cell? w _ hx415_3)).trans hx415_3; replace hx415_0 := (cell_far (p := ⟨gb414, 0, none⟩) r54_ (.int .i64 t405)).trans hx415_0; replace hx415_1 := (cell_far (p := ⟨gb414, 0, none⟩) r54_ (.int .i64 t405)).trans hx415_1; replace hx415_2 := (cell_far (p := ⟨gb414, 0, none⟩) r54_ (.int .i64 t405)).trans hx415_2; replace hx415_3 := (cell_far (p := ⟨gb414, 0, none⟩) r54_ (.int .i64 t405)).trans hx415_3; replace hx415_0 := (cell_far (p := ⟨gb414, 1, none⟩) r55_ (.string t406)).trans hx415_0; replace hx415_1 := (cell_far (p := ⟨gb414, 1, none⟩) r55_ (.string t406)).trans hx415_1; replace hx415_2 := (cell_far (p := ⟨gb414, 1, none⟩) r55_ (.string t406)).trans hx415_2; replace hx415_3 := (cell_far (p := ⟨gb414, 1, none⟩) r55_ (.string t406)).trans hx415_3; replace hx415_0 := (cell_far (p := ⟨gb414, 2, none⟩) r56_ (.int .u64 t407)).trans hx415_0; replace hx415_1 := (cell_far (p := ⟨gb414, 2, none⟩) r56_ (.int .u64 t407)).trans hx415_1; replace hx415_2 := (cell_far (p := ⟨gb414, 2, none⟩) r56_ (.int .u64 t407)).trans hx415_2; replace hx415_3 := (cell_far (p := ⟨gb414, 2, none⟩) r56_ (.int .u64 t407)).trans hx415_3; replace hx415_0 := (cell_far (p := ⟨gb414, 3, none⟩) r57_ (.string t408)).trans hx415_0; replace hx415_1 := (cell_far (p := ⟨gb414, 3, none⟩) r57_ (.string t408)).trans hx415_1; replace hx415_2 := (cell_far (p := ⟨gb414, 3, none⟩) r57_ (.string t408)).trans hx415_2; replace hx415_3 := (cell_far (p := ⟨gb414, 3, none⟩) r57_ (.string t408)).trans hx415_3; replace hx415_0 := (cell_far (p := ⟨gb414, 4, none⟩) r58_ (.int .u64 t409)).trans hx415_0; replace hx415_1 := (cell_far (p := ⟨gb414, 4, none⟩) r58_ (.int .u64 t409)).trans hx415_1; replace hx415_2 := (cell_far (p := ⟨gb414, 4, none⟩) r58_ (.int .u64 t409)).trans hx415_2; replace hx415_3 := (cell_far (p := ⟨gb414, 4, none⟩) r58_ (.int .u64 t409)).trans hx415_3; replace hx415_0 := (cell_far (p := ⟨gb414, 5, none⟩) r59_ (.int .i64 t410)).trans hx415_0; replace hx415_1 := (cell_far (p := ⟨gb414, 5, none⟩) r59_ (.int .i64 t410)).trans hx415_1; replace hx415_2 := (cell_far (p := ⟨gb414, 5, none⟩) r59_ (.int .i64 t410)).trans hx415_2; replace hx415_3 := (cell_far (p := ⟨gb414, 5, none⟩) r59_ (.int .i64 t410)).trans hx415_3; replace hx415_0 := (cell_far (p := ⟨gb414, 6, none⟩) r60_ (.int .u64 t411)).trans hx415_0; replace hx415_1 := (cell_far (p := ⟨gb414, 6, none⟩) r60_ (.int .u64 t411)).trans hx415_1; replace hx415_2 := (cell_far (p := ⟨gb414, 6, none⟩) r60_ (.int .u64 t411)).trans hx415_2; replace hx415_3 := (cell_far (p := ⟨gb414, 6, none⟩) r60_ (.int .u64 t411)).trans hx415_3; replace hx415_0 := (cell_far (p := ⟨gb414, 7, none⟩) r61_ (.int .u64 t412)).trans hx415_0; replace hx415_1 := (cell_far (p := ⟨gb414, 7, none⟩) r61_ (.int .u64 t412)).trans hx415_1; replace hx415_2 := (cell_far (p := ⟨gb414, 7, none⟩) r61_ (.int .u64 t412)).trans hx415_2; replace hx415_3 := (cell_far (p := ⟨gb414, 7, none⟩) r61_ (.int .u64 t412)).trans hx415_3; replace hx415_0 := (cell_far (p := ⟨gb414, 8, none⟩) r62_ (.int .i64 t413)).trans hx415_0; replace hx415_1 := (cell_far (p := ⟨gb414, 8, none⟩) r62_ (.int .i64 t413)).trans hx415_1; replace hx415_2 := (cell_far (p := ⟨gb414, 8, none⟩) r62_ (.int .i64 t413)).trans hx415_2; replace hx415_3 := (cell_far (p := ⟨gb414, 8, none⟩) r62_ (.int .i64 t413)).trans hx415_3; clear hn415_0; clear hn415_1; clear hn415_2; clear hn415_3; clear hn415_4; clear hn415_5; clear hn415_6; clear hn415_7; clear hn415_8; replace p415 := eq_true p415; replace q415 := eq_true q415))
        go_ret2
        exact ⟨rf_, r45_⟩
       rw [if_neg c57] at H
       have c57b0 := beq_eq_false_iff_ne.mpr c57
       have c57b1 := bne_iff_ne.mpr c57
       have H' := Aside0.mk H
       clear H
       have p404 : 0 ≤ (x11_2 : Int) := of_decide_eq_true as_
       have q404 : x11_2 < (l0.length : Int) := of_decide_eq_true as_
       obtain ⟨ad404, e404, hx404_0, hx404_1, hx404_2, hx404_3⟩ := at_T47 HR0.out x11_2 p404 q404
       cases e404
       replace hx404_0 := (HB.out.cell (World.block_lt_of_cell? w _ hx404_0)).trans hx404_0
       replace hx404_1 := (HB.out.cell (World.block_lt_of_cell? w _ hx404_1)).trans hx404_1
       replace hx404_2 := (HB.out.cell (World.block_lt_of_cell? w _ hx404_2)).trans hx404_2
       replace hx404_3 := (HB.out.cell (World.block_lt_of_cell? w _ hx404_3)).trans hx404_3
       replace p404 := eq_true p404
       replace q404 := eq_true q404
       go_wp2_with (first | ((with_reducible refine gate_callee (f := 21) rfl ?_); refine goesL_ (some 78) rfl rfl Try.func21 r6_ rfl #[.agg #[.string ((rd_T47 l0 x11_2).f0), .int .u64 ((rd_T47 l0 x11_2).f1), .bool ((rd_T47 l0 x11_2).f2), .string ((rd_T47 l0 x11_2).f3)]] rfl hA_ ?_; (with_reducible refine (screeref17_Read.calls kj47 ((rd_T47 l0 x11_2).f0) ((rd_T47 l0 x11_2).f1) ((rd_T47 l0 x11_2).f2) ((rd_T47 l0 x11_2).f3) t405 t406 t407 t408 t409 t410 t411 t412 t413 _ A54.out).mono ?_); rintro e w63 ⟨rfl, hb⟩; refine ⟨_, rfl, ?_⟩; replace BK392 := Aside0.mk (blk_below (g := gb392) (o := .cells #[.int .i64 x393000_1, .string x393001_1, .int .u64 x393002_1, .string x393003_1, .int .u64 x393004_1, .int .i64 x393005_1, .int .u64 x393006_1, .int .u64 x393007_1, .int .i64 x393008_1] 44 (0, 0)) r1_ hb); replace HB := Aside0.mk (below_step r0_ hb); clear hb A54) | ((with_reducible refine gate_dst (N := 12) rfl ?_); refine box_event ?hg (N := 12) ?hd (cs := #[.int .i64 0, .string (⟨#[]⟩ : ByteArray), .int .u64 0, .string (⟨#[]⟩ : ByteArray), .int .u64 0, .int .i64 0, .int .u64 0, .int .u64 0, .int .i64 0]) (t := 44) ?hr ?_; (case hd => rfl); (case hg => rfl); (case hr => first | (go_simp; done) | (go_simp; rfl)); intro gb414 hg w64 hbox hb; have BK414 := Aside0.mk (hbox); have GW414 := Aside0.mk ((by rw [hg]; exact (below_size r0_) : w.heap.size ≤ gb414)); have GE414 := Aside0.mk ((by rw [hg]; exact (below_size r0_) : w.heap.size ≤ gb414)); replace HB := Aside0.mk (below_step r0_ hb); have NB392_414 := Aside0.mk ((by rw [hg]; exact Nat.ne_of_lt (blk_lt (g := gb392) (o := .cells #[.int .i64 x393000_1, .string x393001_1, .int .u64 x393002_1, .string x393003_1, .int .u64 x393004_1, .int .i64 x393005_1, .int .u64 x393006_1, .int .u64 x393007_1, .int .i64 x393008_1] 44 (0, 0)) r1_) : gb392 ≠ gb414)); have NB414_392 := Aside0.mk ((by rw [hg]; exact Nat.ne_of_gt (blk_lt (g := gb392) (o := .cells #[.int .i64 x393000_1, .string x393001_1, .int .u64 x393002_1, .string x393003_1, .int .u64 x393004_1, .int .i64 x393005_1, .int .u64 x393006_1, .int .u64 x393007_1, .int .i64 x393008_1] 44 (0, 0)) r1_) : gb414 ≠ gb392)); replace BK392 := Aside0.mk (blk_below (g := gb392) (o := .cells #[.int .i64 x393000_1, .string x393001_1, .int .u64 x393002_1, .string x393003_1, .int .u64 x393004_1, .int .i64 x393005_1, .int .u64 x393006_1, .int .u64 x393007_1, .int .i64 x393008_1] 44 (0, 0)) r1_ hb); clear hb hbox hg; have hnb65 := NB414_392.out; have hnc65 := NB392_414.out; have hcz66_0 : w64.cell? ⟨gb414, 0, none⟩ = some (.int .i64 0) := (blk_cell BK414.out 0).trans rfl; have hcz66_1 : w64.cell? ⟨gb414, 1, none⟩ = some (.string (⟨#[]⟩ : ByteArray)) := (blk_cell BK414.out 1).trans rfl; have hcz66_2 : w64.cell? ⟨gb414, 2, none⟩ = some (.int .u64 0) := (blk_cell BK414.out 2).trans rfl; have hcz66_3 : w64.cell? ⟨gb414, 3, none⟩ = some (.string (⟨#[]⟩ : ByteArray)) := (blk_cell BK414.out 3).trans rfl; have hcz66_4 : w64.cell? ⟨gb414, 4, none⟩ = some (.int .u64 0) := (blk_cell BK414.out 4).trans rfl; have hcz66_5 : w64.cell? ⟨gb414, 5, none⟩ = some (.int .i64 0) := (blk_cell BK414.out 5).trans rfl; have hcz66_6 : w64.cell? ⟨gb414, 6, none⟩ = some (.int .u64 0) := (blk_cell BK414.out 6).trans rfl; have hcz66_7 : w64.cell? ⟨gb414, 7, none⟩ = some (.int .u64 0) := (blk_cell BK414.out 7).trans rfl; have hcz66_8 : w64.cell? ⟨gb414, 8, none⟩ = some (.int .i64 0) := (blk_cell BK414.out 8).trans rfl; have hfz66_0 := blk_frozen BK414.out 0; have hfz66_1 := blk_frozen BK414.out 1; have hfz66_2 := blk_frozen BK414.out 2; have hfz66_3 := blk_frozen BK414.out 3; have hfz66_4 := blk_frozen BK414.out 4; have hfz66_5 := blk_frozen BK414.out 5; have hfz66_6 := blk_frozen BK414.out 6; have hfz66_7 := blk_frozen BK414.out 7; have hfz66_8 := blk_frozen BK414.out 8; have hcz67_0 : w64.cell? ⟨gb392, 0, none⟩ = some (.int .i64 x393000_1) := (blk_cell BK392.out 0).trans rfl; have hcz67_1 : w64.cell? ⟨gb392, 1, none⟩ = some (.string x393001_1) := (blk_cell BK392.out 1).trans rfl; have hcz67_2 : w64.cell? ⟨gb392, 2, none⟩ = some (.int .u64 x393002_1) := (blk_cell BK392.out 2).trans rfl; have hcz67_3 : w64.cell? ⟨gb392, 3, none⟩ = some (.string x393003_1) := (blk_cell BK392.out 3).trans rfl; have hcz67_4 : w64.cell? ⟨gb392, 4, none⟩ = some (.int .u64 x393004_1) := (blk_cell BK392.out 4).trans rfl; have hcz67_5 : w64.cell? ⟨gb392, 5, none⟩ = some (.int .i64 x393005_1) := (blk_cell BK392.out 5).trans rfl; have hcz67_6 : w64.cell? ⟨gb392, 6, none⟩ = some (.int .u64 x393006_1) := (blk_cell BK392.out 6).trans rfl; have hcz67_7 : w64.cell? ⟨gb392, 7, none⟩ = some (.int .u64 x393007_1) := (blk_cell BK392.out 7).trans rfl; have hcz67_8 : w64.cell? ⟨gb392, 8, none⟩ = some (.int .i64 x393008_1) := (blk_cell BK392.out 8).trans rfl; have hfz67_0 := blk_frozen BK392.out 0; have hfz67_1 := blk_frozen BK392.out 1; have hfz67_2 := blk_frozen BK392.out 2; have hfz67_3 := blk_frozen BK392.out 3; have hfz67_4 := blk_frozen BK392.out 4; have hfz67_5 := blk_frozen BK392.out 5; have hfz67_6 := blk_frozen BK392.out 6; have hfz67_7 := blk_frozen BK392.out 7; have hfz67_8 := blk_frozen BK392.out 8))
       go_roundg kj47
       case measure => have := HK1.out; have := HK2.out; have := HJ47.out; omega
       case rel => exact ⟨(wrap64 (x11_2 + 1)), rs_, hH_, ⟨by have := HK1.out; have := HK2.out; have := HJ47.out; omega⟩, ⟨r13_⟩, ⟨r45_⟩⟩

end Go.Proofs.Ytcdadhgcjkgnoaa.P
