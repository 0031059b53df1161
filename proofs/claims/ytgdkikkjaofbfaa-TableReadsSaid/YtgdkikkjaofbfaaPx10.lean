-- Printed by a program of this session's own (wip/tools/pprint.sh, over the kit's print, with given contracts): not typed by hand.
import Derived.Test.YtgdkikkjaofbfaaPx0
import Derived.Test.YtgdkikkjaofbfaaPx4
import Derived.Test.YtgdkikkjaofbfaaPx6
import Derived.Test.YtgdkikkjaofbfaaPx7
import Derived.Test.YtgdkikkjaofbfaaPx9
namespace Go.Proofs.Ytgdkikkjaofbfaa.P
open Go.RowKit Go.Proofs.YtgdkikkjaofbfaaW.PrintWords Go.Proofs.YtgdkikkjaofbfaaW.PrintLast Go.Proofs.YtgdkikkjaofbfaaW.PrintMore
attribute [local go_sem] max2_int min2_int max_two min_two max_three min_three max_four min_four   -- for this text's walks alone
set_option linter.unusedVariables false
set_option linter.unusedSimpArgs false
-- SQUEEZED4
-- SQUEEZED3

/-! ### qX: function 15 -/
-- needs 22 41 42 12
def qX.chk (e : Int) : List (S80) → Bool
 | [] => true
 | x :: l => if e < wrap64 (x.f2 + x.f3) then false else qX.chk e l
def qX.lo (s : ByteArray) (f : Int) : Nat := ((s.size : Int) - 32 - f).toNat
def qX.f (k : Nat) (s : ByteArray) : Option (Option (ByteArray × List (S80) × ByteArray × Int) × Int) :=
 (qF.f k s).bind fun p => if p.2.2.2 = true then (if 0 ≤ p.1 ∧ 0 ≤ p.2.1 ∧ p.1 + p.2.1 ≤ (s.size : Int) - 32 ∧ s.size ≤ 140737488351232 then
  (qk.f k (s.extract ((s.size : Int) - 32 - p.2.1 - p.1).toNat ((s.size : Int) - 32 - p.2.1).toNat)).bind fun h => if h.2 = true then (if qX.chk ((s.size : Int) - 32) h.1 = true then
   (qa1.f k s h.1 (s.extract ((s.size : Int) - 32 - p.2.1).toNat ((s.size : Int) - 32).toNat) p.2.2.1).bind fun a => (qh.f k a.1).bind fun b => if b.2 ≠ 0 ∨ b.1.toList ≠ s.toList then some (none, 2) else some (some (a.2.1, h.1, a.2.2.1, a.2.2.2), 0)
  else some (none, 2)) else some (none, 2) else none) else some (none, 2)
theorem qX.mono : ∀ a0 k, LeO (qX.f k a0) (qX.f (k + 1) a0) := by
 intro s k
 unfold qX.f
 exact LeO.bind (qF.mono _ _) (fun _ => LeO.ite (LeO.ite (LeO.bind (qk.mono _ _) (fun _ => LeO.ite (LeO.ite (LeO.bind (qa1.mono _ _ _ _ _) (fun _ => LeO.bind (qh.mono _ _) (fun _ => LeO.refl _))) (LeO.refl _)) (LeO.refl _))) (LeO.refl _)) (LeO.refl _))
/-- What Open hands back: nil, or a table, whose index stood ahead of it (w0). -/
def qX.Res (r : Option (ByteArray × List (S80) × ByteArray × Int)) (er : Int) (w : World) (e : Ending) (w' : World) : Prop := match r with
 | none => e = .returned (.tuple #[.pointer none, .int .i64 er]) ∧ Below w.heap.size w w'
 | some t => ∃ (g : Nat) (w0 : World), e = .returned (.tuple #[.pointer (some ⟨g, 0, none⟩), .int .i64 er]) ∧ IsS82 w0 w' g t.1 t.2.1 t.2.2.1 t.2.2.2 ∧ Below w0.heap.size w0 w' ∧ w.heap.size ≤ w0.heap.size ∧ Below w.heap.size w w'
set_option maxHeartbeats 6400000 in
set_option maxRecDepth 100000 in
theorem qX.calls (k : Nat) (a0 : ByteArray) (r : Option (ByteArray × List (S80) × ByteArray × Int)) (er : Int) (w : World) (h : qX.f k a0 = some (r, er)) :
  Calls Try.prog 15 #[.string a0] w fun e w' => qX.Res r er w e w' := by
 have hu9_ := Try.underlying9
 have hu8_ := Try.underlying80
 unfold qX.f at h
 replace h := bs_ h
 obtain ⟨⟨p1, p2, p3, ok⟩, hp, h⟩ := h
 have HP := Lib.hid hp
 clear hp
 cases ok with
 | false =>
  rw [if_neg r17_] at h
  simp only [Option.some.injEq, Prod.mk.injEq] at h
  obtain ⟨rfl, rfl⟩ := h
  go_enter Try.func15, Try.ntmps15
  go_wp2_with (fail)
  refine (qF.calls k a0 p1 p2 p3 false _ HP.out).mono ?_
  rintro e x1 ⟨rfl, hb⟩
  have HB1 := Aside0.mk hb
  go_wp2
  exact bodyPost_ret (v := .tuple #[.pointer none, .int .i64 2]) (by simp [results, Try.results15, go_sem]) rfl ⟨rfl, HB1.out⟩
 | true =>
 rw [if_pos rfl] at h
 by_cases hc : 0 ≤ p1 ∧ 0 ≤ p2 ∧ p1 + p2 ≤ (a0.size : Int) - 32 ∧ a0.size ≤ 140737488351232
 case neg => rw [if_neg hc] at h; exact absurd h r17_
 rw [if_pos hc] at h
 obtain ⟨hc1, hc2, hc3, hc4⟩ := hc
 replace h := bs_ h
 obtain ⟨⟨l, okh⟩, hh, h⟩ := h
 have S80D := Lib.hid hh
 have HG := Lib.hid h
 clear h hh
 have slw : ∀ (lo hi : Int), 0 ≤ lo → lo ≤ hi → hi ≤ (a0.size : Int) → ∀ W, (Instr.slice 9 (.string a0) (some (.int .i64 lo)) (some (.int .i64 hi)) none).run Try.prog W = .ok (.string (a0.extract lo.toNat hi.toNat)) W := fun lo hi h0 h1 h2 W => run_slice_string W 9 a0 .i64 .i64 lo hi hu9_ h0 h1 h2
 have sl1 := slw ((a0.size : Int) - 32 - p2 - p1) ((a0.size : Int) - 32 - p2) r18_ r18_ r18_
 have sl2 := slw ((a0.size : Int) - 32 - p2) ((a0.size : Int) - 32) r18_ r18_ r18_
 obtain ⟨t1, ht1⟩ : ∃ t, a0.extract ((a0.size : Int) - 32 - p2 - p1).toNat ((a0.size : Int) - 32 - p2).toNat = t := ⟨_, rfl⟩
 obtain ⟨t2, ht2⟩ : ∃ t, a0.extract ((a0.size : Int) - 32 - p2).toNat ((a0.size : Int) - 32).toNat = t := ⟨_, rfl⟩
 rw [ht1] at sl1
 rw [ht2] at sl2
 have S80D2 : Hid (qk.f k t1 = some (l, okh)) := Lib.hid (by have := S80D.out; rwa [← ht1])
 have hg0 := HG.out
 simp only [ht2] at hg0
 have HG2 := Lib.hid hg0
 clear slw hu9_ ht1 ht2 S80D HG hg0
 go_enter Try.func15, Try.ntmps15
 go_wp2_with (fail)
 refine (qF.calls k a0 p1 p2 p3 true _ HP.out).mono ?_
 rintro e x1 ⟨rfl, hb⟩
 have HB1 := Aside0.mk hb
 clear hb
 go_wp2_with (fail)
 refine (qk.calls k t1 l okh _ S80D2.out).mono ?_
 rintro e x2 ⟨v0, rfl, hr, hb⟩
 obtain ⟨A, c, ev⟩ := Kd.R_slice hr
 subst ev
 have HO2 := Aside0.mk (Kd.R_reads' hr).2.2
 have HB2 := Aside0.mk (below_step HB1.out hb)
 have HML := Lib.hid (Kd.C_max (Kd.R_reads' hr).2.2)
 clear hr hb HB1 S80D2
 have hgg := HG2.out
 clear HG2
 cases okh with
 | false =>
  rw [if_neg r17_] at hgg
  simp only [Option.some.injEq, Prod.mk.injEq] at hgg
  obtain ⟨rfl, rfl⟩ := hgg
  go_wp2
  exact bodyPost_ret (v := .tuple #[.pointer none, .int .i64 2]) (by simp [results, Try.results15, go_sem]) rfl ⟨rfl, HB2.out⟩
 | true =>
 rw [if_pos rfl] at hgg
 obtain ⟨cb, hcb⟩ : ∃ cb, qX.chk ((a0.size : Int) - 32) l = cb := ⟨_, rfl⟩
 simp only [hcb] at hgg
 have HG3 := Lib.hid hgg
 have HCB := Lib.hid hcb
 clear hgg hcb
 go_wp2_with (fail)
 go_loopg [45] l.length (fun kq v45 w' => ∃ (i : Nat), v45 = .int .i64 (i : Int) ∧ Aside0 (kq + i = l.length) ∧ Hid (qX.chk ((a0.size : Int) - 32) (l.drop i) = cb) ∧ Aside0 (Below w.heap.size w w') ∧ Aside0 (Below x2.heap.size x2 w'))
 case atStart => exact ⟨0, rfl, ⟨r18_⟩, HCB, HB2, ⟨Below.refl _ _⟩⟩
 case round =>
  clear HB2 HCB
  obtain ⟨i, rfl, HI, HCK, HB, HBX⟩ := hrel
  by_cases hlt : i < l.length
  ·have hkg : ∃ k1, gk = k1 + 1 := ⟨gk - 1, by have := HI.out; omega⟩
   obtain ⟨k1, rfl⟩ := hkg
   have hmx := HML.out
   have dl : decide ((i : Int) < (l.length : Int)) = true := decide_eq_true r18_
   have hdr : l.drop i = rd_T80 l (i : Int) :: l.drop (i + 1) := by
    rw [List.drop_eq_getElem_cons hlt]; simp [rd_T80, hlt]
   have hck := HCK.out
   rw [hdr] at hck
   unfold qX.chk at hck
   clear hdr HCK
   obtain ⟨ad, ead, hx0, hx1, hx2, hx3⟩ := at_T80 HO2.out (i : Int) r18_ r18_
   have hA := ead
   subst ead
   have htn : ((i : Int)).toNat = i := by omega
   rw [htn] at hx0 hx1 hx2 hx3
   clear htn hA
   replace hx0 := (HBX.out.cell (World.block_lt_of_cell? x2 _ hx0)).trans hx0
   replace hx1 := (HBX.out.cell (World.block_lt_of_cell? x2 _ hx1)).trans hx1
   replace hx2 := (HBX.out.cell (World.block_lt_of_cell? x2 _ hx2)).trans hx2
   replace hx3 := (HBX.out.cell (World.block_lt_of_cell? x2 _ hx3)).trans hx3
   generalize rd_T80 l (i : Int) = y at hck hx0 hx1 hx2 hx3
   obtain ⟨y0, y1, y2, y3⟩ := y
   simp only at hck hx0 hx1 hx2 hx3
   have HCK := Lib.hid hck
   clear hck
   go_upto_region 11 with (fail)
   have BK : Aside0 ((wr.alloc (.cells #[.string y0, .int .u64 y1, .int .i64 y2, .int .i64 y3] 80)).heap[wr.heap.size]? = some (.cells #[.string y0, .int .u64 y1, .int .i64 y2, .int .i64 y3] 80 (0, 0))) := ⟨blk_new _ _⟩
   have HBn := Aside0.mk (below_alloc HB.out (.cells #[.string y0, .int .u64 y1, .int .i64 y2, .int .i64 y3] 80))
   have HBXn := Aside0.mk (below_alloc HBX.out (.cells #[.string y0, .int .u64 y1, .int .i64 y2, .int .i64 y3] 80))
   clear HB HBX hx0 hx1 hx2 hx3
   generalize (wr.alloc (.cells #[.string y0, .int .u64 y1, .int .i64 y2, .int .i64 y3] 80)) = z1 at BK HBn HBXn ⊢
   generalize wr.heap.size = gx at BK ⊢
   have d2_ : z1.cell? ⟨gx, 2, none⟩ = some (.int .i64 y2) := (blk_cell BK.out 2).trans rfl
   have d3_ : z1.cell? ⟨gx, 3, none⟩ = some (.int .i64 y3) := (blk_cell BK.out 3).trans rfl
   obtain ⟨sm, hsm⟩ : ∃ z, wrap64 (y2 + y3) = z := ⟨_, rfl⟩
   have hck := HCK.out
   clear HCK
   rw [hsm] at hck
   by_cases hs : (a0.size : Int) - 32 < sm
   rotate_left
   ·rw [if_neg hs] at hck
    have HCN := Lib.hid hck
    have ds : decide ((a0.size : Int) - 32 < sm) = false := decide_eq_false hs
    clear hs hck
    go_wp2
    clear ds hsm d2_ d3_
    go_roundg k1
    case measure => omega
    case rel => exact ⟨i + 1, by go_num, ⟨by have := HI.out; omega⟩, HCN, HBn, HBXn⟩
   rw [if_pos hs] at hck
   subst hck
   have hg3 := HG3.out
   rw [if_neg r17_] at hg3
   simp only [Option.some.injEq, Prod.mk.injEq] at hg3
   obtain ⟨rfl, rfl⟩ := hg3
   have ds : decide ((a0.size : Int) - 32 < sm) = true := decide_eq_true hs
   clear hs
   go_wp2
   exact bodyPost_ret (v := .tuple #[.pointer none, .int .i64 2]) (by simp [results, Try.results15, go_sem]) rfl ⟨rfl, HBn.out⟩
  have hi : gk = 0 := by have := HI.out; omega
  subst hi
  have dl : decide ((i : Int) < (l.length : Int)) = false := decide_eq_false r18_
  have hck := HCK.out
  rw [List.drop_eq_nil_of_le r18_] at hck
  unfold qX.chk at hck
  subst hck
  clear HCK HI
  have hg3 := HG3.out
  clear HG3
  rw [if_pos rfl] at hg3
  replace hg3 := bs_ hg3
  obtain ⟨⟨la, sa, fa, na⟩, hall, hg3⟩ := hg3
  replace hg3 := bs_ hg3
  obtain ⟨⟨bs, be⟩, hbd, hg3⟩ := hg3
  have HALL := Lib.hid hall
  have HBD := Lib.hid hbd
  have HFIN : Hid ((if be ≠ 0 ∨ bs.toList ≠ a0.toList then some ((none : Option (ByteArray × List (S80) × ByteArray × Int)), (2 : Int)) else some (some (sa, l, fa, na), 0)) = some (r, er)) := Lib.hid hg3
  clear hall hbd hg3
  have HRW := Aside0.mk (Kd.C_below HO2.out HBX.out)
  clear HBX HO2
  go_upto_region 15 with (fail)
  have HIS : Aside0 (IsS82 wr (wr.alloc (.cells #[.string a0, .slice A l.length c, .string t2, .int .i64 p3] 82)) wr.heap.size a0 l t2 p3) := ⟨⟨A, c, blk_new _ _, Nat.le_refl _, HRW.out⟩⟩
  have HBR : Aside0 (Below wr.heap.size wr (wr.alloc (.cells #[.string a0, .slice A l.length c, .string t2, .int .i64 p3] 82))) := ⟨below_alloc (Below.refl _ _) _⟩
  have HSZ := Lib.hid HB.out.size
  generalize (wr.alloc (.cells #[.string a0, .slice A l.length c, .string t2, .int .i64 p3] 82)) = z1 at HIS HBR ⊢
  obtain ⟨g, hg⟩ : ∃ g, wr.heap.size = g := ⟨_, rfl⟩
  have HIS1 : Aside0 (IsS82 wr z1 g a0 l t2 p3) := by rw [← hg]; exact HIS
  rw [hg]
  clear HIS hg HRW
  go_wp2_with (fail)
  refine (qa1.calls k g a0 l t2 p3 la sa fa na wr _ HIS1.out HBR.out HALL.out).mono ?_
  rintro e z2 ⟨v1, rfl, hr, hi, hb, hk⟩
  obtain ⟨A2, c2, ev⟩ := Kd.R_slice hr
  subst ev
  have HC2 := Aside0.mk (Kd.R_reads' hr)
  have HI2 := Aside0.mk hi
  have HB2 := Aside0.mk hb
  clear hr hi hb hk HIS1 HBR
  go_wp2_with (fail)
  refine (qh.calls k A2 c2 la bs be _ HC2.out.2.2 HC2.out.2.1 HBD.out).mono ?_
  rintro e z3 ⟨rfl, hb⟩
  have HI3 := Aside0.mk (IsS82.below HI2.out hb)
  have HB3 := Aside0.mk (below_step HB2.out hb)
  have HBF := Aside0.mk (HB.out.trans (HB3.out.mono HSZ.out))
  clear hb HI2 HB2 HC2
  have hf := HFIN.out
  clear HFIN
  by_cases he : be = 0
  case neg =>
   rw [if_pos (Or.inl he)] at hf
   simp only [Option.some.injEq, Prod.mk.injEq] at hf
   obtain ⟨rfl, rfl⟩ := hf
   have e1_ : (be == 0) = false := beq_eq_false_iff_ne.mpr he
   have e2_ : (be != 0) = true := bne_iff_ne.mpr he
   clear he
   go_wp2
   exact bodyPost_ret (v := .tuple #[.pointer none, .int .i64 2]) (by simp [results, Try.results15, go_sem]) rfl ⟨rfl, HBF.out⟩
  subst he
  by_cases hs : bs.toList = a0.toList
  case neg =>
   rw [if_pos (Or.inr hs)] at hf
   simp only [Option.some.injEq, Prod.mk.injEq] at hf
   obtain ⟨rfl, rfl⟩ := hf
   have e1_ : (bs.toList == a0.toList) = false := beq_eq_false_iff_ne.mpr hs
   have e2_ : (bs.toList != a0.toList) = true := bne_iff_ne.mpr hs
   clear hs
   go_wp2
   exact bodyPost_ret (v := .tuple #[.pointer none, .int .i64 2]) (by simp [results, Try.results15, go_sem]) rfl ⟨rfl, HBF.out⟩
  rw [if_neg (fun e => e.elim (fun e => e rfl) (fun e => e hs))] at hf
  simp only [Option.some.injEq, Prod.mk.injEq] at hf
  obtain ⟨rfl, rfl⟩ := hf
  have e1_ : (bs.toList == a0.toList) = true := beq_iff_eq.mpr hs
  have e2_ : (bs.toList != a0.toList) = false := bne_eq_false_iff_eq.mpr hs
  clear hs
  go_wp2
  exact bodyPost_ret (v := .tuple #[.pointer (some ⟨g, 0, none⟩), .int .i64 0]) (by simp [results, Try.results15, go_sem]) rfl ⟨g, wr, rfl, HI3.out, HB3.out, HSZ.out, HBF.out⟩

-- NOT PRINTED: function 72 (sort_Search)

/-! ### qp1: function 78 -/
def qp1.f (a0_0 : ByteArray) (a0_1 : Int) (a0_2 : Int) (a0_3 : Int) (a1 : ByteArray) (a2 : Int) : Option (Bool) := if (Op.bytesLess a0_0.toList a1.toList) = true then (some true) else (if a0_0.toList = a1.toList then (some (decide (a0_1 > a2))) else (some false))
set_option maxHeartbeats 8000000 in
set_option maxRecDepth 100000 in
theorem qp1.calls (a0_0 : ByteArray) (a0_1 : Int) (a0_2 : Int) (a0_3 : Int) (a1 : ByteArray) (a2 : Int) (r : Bool) (w : World) (h : qp1.f a0_0 a0_1 a0_2 a0_3 a1 a2 = some r) :
  Calls Try.prog 78 #[.agg #[.string a0_0, .int .u64 a0_1, .int .i64 a0_2, .int .i64 a0_3], .string a1, .int .u64 a2] w fun e w' => e = .returned (.bool r) ∧ Below w.heap.size w w' := by
 have hu80 := Try.underlying80
 have HB := Aside0.mk (Below.refl w.heap.size w)
 have H : (if (Op.bytesLess a0_0.toList a1.toList) = true then (some true) else (if a0_0.toList = a1.toList then (some (decide (a0_1 > a2))) else (some false))) = some r := h
 clear h
 by_cases c4 : (Op.bytesLess a0_0.toList a1.toList) = true
 ·rw [if_pos c4] at H
  have c4b0 : (Op.bytesLess a0_0.toList a1.toList) = true := c4
  clear c4
  obtain rfl := Option.some.inj H
  go_enter Try.func78, Try.ntmps78
  go_wp2_with (first | ((with_reducible refine gate_dst (N := 3) rfl ?_); refine box_event ?hg (N := 3) ?hd (cs := #[.string a0_0, .int .u64 a0_1, .int .i64 a0_2, .int .i64 a0_3]) (t := 80) ?hr ?_; (case hd => rfl); (case hg => rfl); (case hr => first | (go_simp; done) | (go_simp; rfl)); intro gb152 hg w5 hbox hb; have BK152 := Aside0.mk (hbox); have GW152 := Aside0.mk ((by rw [hg]; exact (below_size hB_) : w.heap.size ≤ gb152)); have GE152 := Aside0.mk ((by rw [hg]; exact (below_size hB_) : w.heap.size ≤ gb152)); replace HB := Aside0.mk (below_step hB_ hb); clear hb hbox hg; have hcz6_0 : w5.cell? ⟨gb152, 0, none⟩ = some (.string a0_0) := (blk_cell BK152.out 0).trans rfl; have hcz6_1 : w5.cell? ⟨gb152, 1, none⟩ = some (.int .u64 a0_1) := (blk_cell BK152.out 1).trans rfl; have hcz6_2 : w5.cell? ⟨gb152, 2, none⟩ = some (.int .i64 a0_2) := (blk_cell BK152.out 2).trans rfl; have hcz6_3 : w5.cell? ⟨gb152, 3, none⟩ = some (.int .i64 a0_3) := (blk_cell BK152.out 3).trans rfl; have hfz6_0 := blk_frozen BK152.out 0; have hfz6_1 := blk_frozen BK152.out 1; have hfz6_2 := blk_frozen BK152.out 2; have hfz6_3 := blk_frozen BK152.out 3))
  go_ret
  exact ⟨rf_, r38_⟩
 rw [if_neg c4] at H
 have c4b0 : (Op.bytesLess a0_0.toList a1.toList) = false := by simpa using c4
 clear c4
 by_cases c7 : a0_0.toList = a1.toList
 rotate_left
 ·rw [if_neg c7] at H
  have c7b0 := beq_eq_false_iff_ne.mpr c7
  have c7b1 := bne_iff_ne.mpr c7
  obtain rfl := Option.some.inj H
  go_enter Try.func78, Try.ntmps78
  go_wp2_with (first | ((with_reducible refine gate_dst (N := 3) rfl ?_); refine box_event ?hg (N := 3) ?hd (cs := #[.string a0_0, .int .u64 a0_1, .int .i64 a0_2, .int .i64 a0_3]) (t := 80) ?hr ?_; (case hd => rfl); (case hg => rfl); (case hr => first | (go_simp; done) | (go_simp; rfl)); intro gb152 hg w10 hbox hb; have BK152 := Aside0.mk (hbox); have GW152 := Aside0.mk ((by rw [hg]; exact (below_size hB_) : w.heap.size ≤ gb152)); have GE152 := Aside0.mk ((by rw [hg]; exact (below_size hB_) : w.heap.size ≤ gb152)); replace HB := Aside0.mk (below_step hB_ hb); clear hb hbox hg; have hcz11_0 : w10.cell? ⟨gb152, 0, none⟩ = some (.string a0_0) := (blk_cell BK152.out 0).trans rfl; have hcz11_1 : w10.cell? ⟨gb152, 1, none⟩ = some (.int .u64 a0_1) := (blk_cell BK152.out 1).trans rfl; have hcz11_2 : w10.cell? ⟨gb152, 2, none⟩ = some (.int .i64 a0_2) := (blk_cell BK152.out 2).trans rfl; have hcz11_3 : w10.cell? ⟨gb152, 3, none⟩ = some (.int .i64 a0_3) := (blk_cell BK152.out 3).trans rfl; have hfz11_0 := blk_frozen BK152.out 0; have hfz11_1 := blk_frozen BK152.out 1; have hfz11_2 := blk_frozen BK152.out 2; have hfz11_3 := blk_frozen BK152.out 3))
  go_ret
  exact ⟨rf_, r38_⟩
 rw [if_pos c7] at H
 have c7b0 := beq_iff_eq.mpr c7
 have c7b1 := bne_eq_false_iff_eq.mpr c7
 clear c7
 obtain rfl := Option.some.inj H
 go_enter Try.func78, Try.ntmps78
 go_wp2_with (first | ((with_reducible refine gate_dst (N := 3) rfl ?_); refine box_event ?hg (N := 3) ?hd (cs := #[.string a0_0, .int .u64 a0_1, .int .i64 a0_2, .int .i64 a0_3]) (t := 80) ?hr ?_; (case hd => rfl); (case hg => rfl); (case hr => first | (go_simp; done) | (go_simp; rfl)); intro gb152 hg w8 hbox hb; have BK152 := Aside0.mk (hbox); have GW152 := Aside0.mk ((by rw [hg]; exact (below_size hB_) : w.heap.size ≤ gb152)); have GE152 := Aside0.mk ((by rw [hg]; exact (below_size hB_) : w.heap.size ≤ gb152)); replace HB := Aside0.mk (below_step hB_ hb); clear hb hbox hg; have hcz9_0 : w8.cell? ⟨gb152, 0, none⟩ = some (.string a0_0) := (blk_cell BK152.out 0).trans rfl; have hcz9_1 : w8.cell? ⟨gb152, 1, none⟩ = some (.int .u64 a0_1) := (blk_cell BK152.out 1).trans rfl; have hcz9_2 : w8.cell? ⟨gb152, 2, none⟩ = some (.int .i64 a0_2) := (blk_cell BK152.out 2).trans rfl; have hcz9_3 : w8.cell? ⟨gb152, 3, none⟩ = some (.int .i64 a0_3) := (blk_cell BK152.out 3).trans rfl; have hfz9_0 := blk_frozen BK152.out 0; have hfz9_1 := blk_frozen BK152.out 1; have hfz9_2 := blk_frozen BK152.out 2; have hfz9_3 := blk_frozen BK152.out 3))
 go_ret
 exact ⟨rf_, r38_⟩

-- NOT PRINTED: function 77 (table_Table_find_1)

/-! ### qv: function 47 -/
-- needs 46 78
def qv.pred (l : List (S80)) (key : ByteArray) (seq j : Int) : Option Bool := if 0 ≤ j ∧ j < (l.length : Int) then (qp1.f (rd_T80 l j).f0 (rd_T80 l j).f1 (rd_T80 l j).f2 (rd_T80 l j).f3 key seq).bind fun b => some (!b) else none
def qv.search (l : List (S80)) (key : ByteArray) (seq : Int) : Nat → Nat → Nat → Option Nat
 | 0, _, _ => none
 | q + 1, i, j => if i < j then (qv.pred l key seq (((i + j) / 2 : Nat) : Int)).bind fun b => if b = true then qv.search l key seq q i ((i + j) / 2) else qv.search l key seq q ((i + j) / 2 + 1) j else some i
def qv.f (k : Nat) (s0_0 : ByteArray) (s0_1 : List (S80)) (s0_2 : ByteArray) (s0_3 : Int) (a1 : ByteArray) (a2 : Int) : Option (Int × ByteArray × ByteArray × Int) := if s0_1.length ≤ 1000 then (qv.search s0_1 a1 a2 1001 0 s0_1.length).bind fun r => some ((r : Int), s0_0, s0_2, s0_3) else none
theorem qv.mono : ∀ a0 a1 a2 a3 a4 a5 k, LeO (qv.f k a0 a1 a2 a3 a4 a5) (qv.f (k + 1) a0 a1 a2 a3 a4 a5) := fun _ _ _ _ _ _ _ => LeO.refl _
structure qv.Bx (w0 w : World) (g p u v : Nat) (s : ByteArray) (l : List (S80)) (fl : ByteArray) (n : Int) (key : ByteArray) (seq : Int) : Prop where
 b0 : w.heap[p]? = some (.cells #[.pointer (some ⟨g, 0, none⟩)] 30 (0, 0))
 b1 : w.heap[u]? = some (.cells #[.string key] 9 (0, 0))
 b2 : w.heap[v]? = some (.cells #[.int .u64 seq] 29 (0, 0))
 tb : IsS82 w0 w g s l fl n
 bl : Below w0.heap.size w0 w
theorem qv.Bx.below {w0 w w' : World} {g p u v : Nat} {s : ByteArray} {l : List (S80)} {fl : ByteArray} {n : Int} {key : ByteArray} {seq : Int} (h : qv.Bx w0 w g p u v s l fl n key seq) (hb : Below w.heap.size w w') : qv.Bx w0 w' g p u v s l fl n key seq := ⟨blk_below h.b0 hb, blk_below h.b1 hb, blk_below h.b2 hb, IsS82.below h.tb hb, below_step h.bl hb⟩
set_option maxHeartbeats 1600000 in
set_option maxRecDepth 100000 in
theorem qv.predC (g p u v : Nat) (s : ByteArray) (l : List (S80)) (fl : ByteArray) (n : Int) (key : ByteArray) (seq : Int) (j : Nat) (b : Bool) (w0 w : World) (hx : qv.Bx w0 w g p u v s l fl n key seq) (h : qv.pred l key seq (j : Int) = some b) :
  Calls Try.prog 77 #[.int .i64 (j : Int), .pointer (some ⟨p, 0, none⟩), .pointer (some ⟨u, 0, none⟩), .pointer (some ⟨v, 0, none⟩)] w fun e w' => e = .returned (.bool b) ∧ qv.Bx w0 w' g p u v s l fl n key seq ∧ Below w.heap.size w w' := by
 unfold qv.pred at h
 by_cases hin : 0 ≤ (j : Int) ∧ (j : Int) < (l.length : Int)
 case neg => rw [if_neg hin] at h; exact absurd h r17_
 rw [if_pos hin] at h
 replace h := bs_ h
 obtain ⟨a, hah, h⟩ := h
 obtain rfl := Option.some.inj h
 clear h
 have hjl : j < l.length := by omega
 obtain ⟨A, c, htb, htg, hC⟩ := hx.tb
 obtain ⟨ad, ead, hy0, hy1, hy2, hy3⟩ := at_T80 hC (j : Int) r18_ r18_
 subst ead
 rw [Int.toNat_natCast] at hy0 hy1 hy2 hy3
 replace hy0 := (hx.bl.cell (World.block_lt_of_cell? w0 _ hy0)).trans hy0
 replace hy1 := (hx.bl.cell (World.block_lt_of_cell? w0 _ hy1)).trans hy1
 replace hy2 := (hx.bl.cell (World.block_lt_of_cell? w0 _ hy2)).trans hy2
 replace hy3 := (hx.bl.cell (World.block_lt_of_cell? w0 _ hy3)).trans hy3
 generalize rd_T80 l (j : Int) = y at hah hy0 hy1 hy2 hy3
 obtain ⟨y0, y1, y2, y3⟩ := y
 simp only at hah hy0 hy1 hy2 hy3
 have HAH := Lib.hid hah
 have BXa := Aside0.mk hx
 have BT := Aside0.mk htb
 clear hah hx hC htg htb
 have HY := Aside0.mk (And.intro hy0 (And.intro hy1 (And.intro hy2 hy3)))
 clear hy0 hy1 hy2 hy3
 have p0_ : (0 ≤ (j : Int)) = True := eq_true r18_
 have q0_ : ((j : Int) < (l.length : Int)) = True := eq_true r18_
 have q1_ : (j < l.length) = True := eq_true hjl
 clear hin hjl
 go_enter Try.func77, Try.ntmps77
 go_wp2_with (fail)
 refine start_ (n := 12) (S := fun w' => w'.cell? ⟨p, 0, none⟩ = some (.pointer (some ⟨g, 0, none⟩)) ∧ w'.cell? ⟨g, 1, none⟩ = some (.slice (some ad) l.length c) ∧ w'.cell? ⟨u, 0, none⟩ = some (.string key) ∧ w'.cell? ⟨v, 0, none⟩ = some (.int .u64 seq) ∧ w'.cell? (ad.add (j * 4)) = some (.string y0) ∧ w'.cell? ⟨(ad.add (j * 4)).block, (ad.add (j * 4)).off + 1, none⟩ = some (.int .u64 y1) ∧ w'.cell? ⟨(ad.add (j * 4)).block, (ad.add (j * 4)).off + 2, none⟩ = some (.int .i64 y2) ∧ w'.cell? ⟨(ad.add (j * 4)).block, (ad.add (j * 4)).off + 3, none⟩ = some (.int .i64 y3)) (ds := []) #[N,N,N,N,N,N,N,N,N,N,N,N] r2_ rfl rfl ⟨(blk_cell BXa.out.b0 0).trans rfl, (blk_cell BT.out 1).trans rfl, (blk_cell BXa.out.b1 0).trans rfl, (blk_cell BXa.out.b2 0).trans rfl, HY.out.1, HY.out.2.1, HY.out.2.2.1, HY.out.2.2.2⟩ (fun hHeld => ?_)
 have HB1 : Aside0 (Below w.heap.size w w.drew) := ⟨below_drew (Below.refl _ _)⟩
 have BX1 : Aside0 (qv.Bx w0 w.drew g p u v s l fl n key seq) := ⟨BXa.out.below HB1.out⟩
 clear BXa HY BT
 generalize w.drew = w1 at HB1 BX1 hHeld ⊢
 refine pu_ 4 (some 10) (mk_ 12 16) r2_ ?_
 refine tk_ (v := ?_) 0 (some 6) (mk_ 12 17) r2_ hHeld ?_ ?_
 rotate_left
 ·rintro w' ⟨s0, s1, s2, s3, s4, s5, s6, s7⟩
  go_simp
  with_reducible rfl
 refine pu_ 1 (some 7) (mk_ 12 19) r2_ ?_
 refine pu_ 2 (some 8) (mk_ 12 23) r2_ ?_
 refine tk_ (v := ?_) 3 (some 9) (mk_ 12 31) r2_ hHeld ?_ ?_
 rotate_left
 ·rintro w' ⟨s0, s1, s2, s3, s4, s5, s6, s7⟩
  go_simp
  with_reducible rfl
 refine pu_ 5 (some 11) (mk_ 12 63) r2_ ?_
 refine tk_ (v := ?_) 6 (some 12) (mk_ 12 127) r2_ hHeld ?_ ?_
 rotate_left
 ·rintro w' ⟨s0, s1, s2, s3, s4, s5, s6, s7⟩
  go_simp
  with_reducible rfl
 refine tk_ (v := ?_) 7 (some 13) (mk_ 12 255) r2_ hHeld ?_ ?_
 rotate_left
 ·rintro w' ⟨s0, s1, s2, s3, s4, s5, s6, s7⟩
  go_simp
  with_reducible rfl
 refine tk_ (v := ?_) 8 (some 14) (mk_ 12 511) r2_ hHeld ?_ ?_
 rotate_left
 ·rintro w' ⟨s0, s1, s2, s3, s4, s5, s6, s7⟩
  go_simp
  with_reducible rfl
 refine one_ (i := 9) (N := some 15) (mk_ 12 1023) rfl rfl r2_ r24_ (fun K hK => ?_)
 refine goes_ Try.func78 r2_ rfl #[.agg #[.string y0, .int .u64 y1, .int .i64 y2, .int .i64 y3], .string key, .int .u64 seq] r37_ rfl rfl r9_ ?_
 refine (qp1.calls y0 y1 y2 y3 key seq a _ HAH.out).mono ?_
 rintro e w2 ⟨rfl, hb⟩
 refine ⟨_, rfl, ?_⟩
 have BX2 := Aside0.mk (BX1.out.below hb)
 have HB2 := Aside0.mk (below_step HB1.out hb)
 obtain ⟨h0_, h1_, h2_, h3_, h4_, h5_, h6_, h7_⟩ := hHeld
 have kp : ∀ {x : Addr} {z : Value}, w1.cell? x = some z → w2.cell? x = some z := fun h => (hb.cell (World.block_lt_of_cell? w1 _ h)).trans h
 refine hK.out _ _ ⟨kp h0_, kp h1_, kp h2_, kp h3_, kp h4_, kp h5_, kp h6_, kp h7_⟩ (fun hHeld => ?_)
 clear hK K h0_ h1_ h2_ h3_ h4_ h5_ h6_ h7_ kp hb HB1 BX1
 refine nm_ (some 15) ?_
 refine pu_ 10 (some 16) (mk_ 12 2047) r2_ ?_
 refine pu_ 11 (some 5) (mk_ 12 4095) r2_ ?_
 refine done_ r2_ ?_
 (try clear hHeld)
 (try clear hHeld)
 go_wp2
 go_ret
 exact ⟨rfl, BX2.out, HB2.out⟩
set_option maxHeartbeats 1600000 in
set_option maxRecDepth 100000 in
theorem qv.searC (g p u v : Nat) (s : ByteArray) (l : List (S80)) (fl : ByteArray) (n : Int) (key : ByteArray) (seq : Int) (m r : Nat) (w0 w : World) (hx : qv.Bx w0 w g p u v s l fl n key seq) (hm : m ≤ 1000) (h : qv.search l key seq 1001 0 m = some r) :
  Calls Try.prog 72 #[.int .i64 (m : Int), .func (.func 77) #[] #[.pointer (some ⟨p, 0, none⟩), .pointer (some ⟨u, 0, none⟩), .pointer (some ⟨v, 0, none⟩)]] w fun e w' => e = .returned (.int .i64 (r : Int)) ∧ qv.Bx w0 w' g p u v s l fl n key seq ∧ Below w.heap.size w w' := by
 have S80_ := Lib.hid h
 have BX_ := Aside0.mk hx
 clear h hx
 have HB_ : Aside0 (Below w.heap.size w w) := ⟨Below.refl _ _⟩
 go_enter Try.func72, Try.ntmps72
 go_wp2_with (fail)
 go_loopg [5, 6] m (fun kq v5 v6 w' => ∃ (i j fu : Nat), v5 = .int .i64 (i : Int) ∧ v6 = .int .i64 (j : Int) ∧ Aside0 (i ≤ j) ∧ Aside0 (j ≤ m) ∧ Aside0 (kq = j - i) ∧ Aside0 (qv.search l key seq fu i j = some r) ∧ Aside0 (qv.Bx w0 w' g p u v s l fl n key seq) ∧ Aside0 (Below w.heap.size w w'))
 case atStart => exact ⟨0, m, 1001, rfl, rfl, ⟨Nat.zero_le _⟩, ⟨Nat.le_refl _⟩, ⟨rfl⟩, ⟨S80_.out⟩, BX_, HB_⟩
 case round =>
  clear BX_ HB_ S80_
  obtain ⟨i, j, fu, rfl, rfl, HIJ, HJM, HK, HSR, BX0, HB0⟩ := hrel
  have hsr := HSR.out
  clear HSR
  cases fu with
  | zero => exact absurd hsr (by simp [qv.search])
  | succ fu =>
   unfold qv.search at hsr
   by_cases hlt : i < j
   rotate_left
   ·rw [if_neg hlt] at hsr
    simp only [Option.some.injEq] at hsr
    subst hsr
    have hil : ¬ (i : Int) < (j : Int) := by omega
    go_wp2
    go_ret
    exact ⟨rfl, BX0.out, HB0.out⟩
   rw [if_pos hlt] at hsr
   replace hsr := bs_ hsr
   obtain ⟨b, hp, hsr⟩ := hsr
   have HP := Lib.hid hp
   have HSR := Lib.hid hsr
   clear hp hsr
   have hj : j ≤ 1000 := by have := HJM.out; omega
   have hil : (i : Int) < (j : Int) := by omega
   obtain ⟨c, hc⟩ : ∃ c, (i + j) / 2 = c := ⟨_, rfl⟩
   have hc1 : i ≤ c := by omega
   have hc2 : c < j := by omega
   rw [hc] at HP HSR
   have HC := Lib.hid hc
   clear hc
   go_wp2_with (fail)
   rw [show (((i : Int) + (j : Int)) / 2) = (c : Int) from by have := HC.out; omega]
   refine (qv.predC g p u v s l fl n key seq c b w0 _ BX0.out HP.out).mono ?_
   rintro e x1 ⟨rfl, hx, hb⟩
   have BX1 := Aside0.mk hx
   have HB1 := Aside0.mk (below_step HB0.out hb)
   clear hb hx BX0 HB0 HP
   cases b with
   | true =>
    have HS : Hid (qv.search l key seq fu i c = some r) := Lib.hid (by have := HSR.out; rwa [if_pos rfl] at this)
    clear HSR
    go_wp2
    go_roundg (c - i)
    case measure => have := HK.out; omega
    case rel => exact ⟨i, c, fu, rfl, rfl, ⟨hc1⟩, ⟨by have := HJM.out; omega⟩, ⟨rfl⟩, ⟨HS.out⟩, BX1, HB1⟩
   | false =>
    have HS : Hid (qv.search l key seq fu (c + 1) j = some r) := Lib.hid (by have := HSR.out; rwa [if_neg r24_] at this)
    clear HSR
    go_wp2
    go_roundg (j - (c + 1))
    case measure => have := HK.out; omega
    case rel => exact ⟨c + 1, j, fu, by go_num, rfl, ⟨r18_⟩, ⟨by have := HJM.out; omega⟩, ⟨rfl⟩, ⟨HS.out⟩, BX1, HB1⟩
set_option maxHeartbeats 1600000 in
set_option maxRecDepth 100000 in
theorem qv.callsB (g : Nat) (s0_0 : ByteArray) (s0_1 : List (S80)) (s0_2 : ByteArray) (s0_3 : Int) (a1 : ByteArray) (a2 : Int) (r : Nat) (w0 w : World) (hI : IsS82 w0 w g s0_0 s0_1 s0_2 s0_3) (hB : Below w0.heap.size w0 w) (hl : s0_1.length ≤ 1000) (hs : qv.search s0_1 a1 a2 1001 0 s0_1.length = some r) :
  Calls Try.prog 47 #[.pointer (some ⟨g, 0, none⟩), .string a1, .int .u64 a2] w fun e w' => e = .returned (.int .i64 (r : Int)) ∧ Below w.heap.size w w' := by
 have hmf : ∀ (fn : Fn) (first cap : Array Value) (w : World), (Instr.makeFunc fn first cap).run Try.prog w = .ok (.func fn first cap) w := fun _ _ _ _ => rfl
 have HS := Lib.hid hs
 have HI := Aside0.mk hI
 have HB := Aside0.mk hB
 have HL := Lib.hid hl
 clear hs hI hB hl
 go_enter Try.func47, Try.ntmps47
 go_upto_region 1 with (fail)
 obtain ⟨p, hp⟩ : ∃ p, p = w.heap.size := ⟨_, rfl⟩
 obtain ⟨u, hu⟩ : ∃ u, u = w.heap.size + 1 := ⟨_, rfl⟩
 obtain ⟨v, hv⟩ : ∃ v, v = w.heap.size + 1 + 1 := ⟨_, rfl⟩
 obtain ⟨A, c, htb, htg, hC⟩ := HI.out
 have BX : Aside0 (qv.Bx w0 (((w.alloc (.cells #[.pointer (some ⟨g, 0, none⟩)] 30)).alloc (.cells #[.string a1] 9)).alloc (.cells #[.int .u64 a2] 29)) g p u v s0_0 s0_1 s0_2 s0_3 a1 a2) := by
  refine ⟨⟨?_, ?_, ?_, IsS82.alloc (IsS82.alloc (IsS82.alloc HI.out _) _) _, below_alloc (below_alloc (below_alloc HB.out _) _) _⟩⟩
  ·rw [hp]; exact blk_alloc (blk_alloc (blk_new w _) _) _
  ·rw [hu]
   have := blk_new (w.alloc (.cells #[.pointer (some ⟨g, 0, none⟩)] 30)) (.cells #[.string a1] 9)
   rw [World.size_alloc] at this
   exact blk_alloc this _
  ·rw [hv]
   have := blk_new ((w.alloc (.cells #[.pointer (some ⟨g, 0, none⟩)] 30)).alloc (.cells #[.string a1] 9)) (.cells #[.int .u64 a2] 29)
   rwa [World.size_alloc, World.size_alloc] at this
 have BT := Aside0.mk (blk_alloc (blk_alloc (blk_alloc htb (.cells #[.pointer (some ⟨g, 0, none⟩)] 30)) (.cells #[.string a1] 9)) (.cells #[.int .u64 a2] 29))
 have HK := Aside0.mk (below_alloc (below_alloc (below_alloc (Below.refl w.heap.size w) (.cells #[.pointer (some ⟨g, 0, none⟩)] 30)) (.cells #[.string a1] 9)) (.cells #[.int .u64 a2] 29))
 clear htb htg hC HI HB
 rw [← hv, ← hu, ← hp]
 clear hp hu hv
 generalize (((w.alloc (.cells #[.pointer (some ⟨g, 0, none⟩)] 30)).alloc (.cells #[.string a1] 9)).alloc (.cells #[.int .u64 a2] 29)) = W1 at BX BT HK ⊢
 have c1_ : W1.cell? ⟨p, 0, none⟩ = some (.pointer (some ⟨g, 0, none⟩)) := (blk_cell BX.out.b0 0).trans rfl
 have c2_ : W1.cell? ⟨g, 1, none⟩ = some (.slice A s0_1.length c) := (blk_cell BT.out 1).trans rfl
 go_wp2_with (fail)
 refine (qv.searC g p u v s0_0 s0_1 s0_2 s0_3 a1 a2 s0_1.length r w0 _ BX.out HL.out HS.out).mono ?_
 rintro e x1 ⟨rfl, hx, hb⟩
 go_wp2
 go_ret
 exact ⟨rfl, below_step HK.out hb⟩
theorem qv.calls (k : Nat) (g : Nat) (s0_0 : ByteArray) (s0_1 : List (S80)) (s0_2 : ByteArray) (s0_3 : Int) (a1 : ByteArray) (a2 : Int) (r1 : Int) (r2 : ByteArray) (r3 : ByteArray) (r4 : Int) (w0 w : World) (hI : IsS82 w0 w g s0_0 s0_1 s0_2 s0_3) (hB : Below w0.heap.size w0 w) (h : qv.f k s0_0 s0_1 s0_2 s0_3 a1 a2 = some (r1, r2, r3, r4)) :
  Calls Try.prog 47 #[.pointer (some ⟨g, 0, none⟩), .string a1, .int .u64 a2] w fun e w' => e = .returned (.int .i64 r1) ∧ IsS82 w0 w' g r2 s0_1 r3 r4 ∧ Below w0.heap.size w0 w' ∧ KeepBut w w' g none := by
 unfold qv.f at h
 by_cases hl : s0_1.length ≤ 1000
 case neg => rw [if_neg hl] at h; exact absurd h r17_
 rw [if_pos hl] at h
 replace h := bs_ h
 obtain ⟨r, hs, h⟩ := h
 simp only [Option.some.injEq, Prod.mk.injEq] at h
 obtain ⟨rfl, rfl, rfl, rfl⟩ := h
 refine (qv.callsB g s0_0 s0_1 s0_2 s0_3 a1 a2 r w0 w hI hB hl hs).mono ?_
 rintro e w' ⟨rfl, hb⟩
 exact ⟨rfl, IsS82.below hI hb, below_step hB hb, KeepBut.of_below hb g none⟩

/-! ### qg1: function 49 -/
def qg1.bit (s : ByteArray) (p : Int) : Int := Go.bits .and .u8 (bt s (p / 8) / 2 ^ (p % 8).toNat) 1
set_option maxHeartbeats 800000 in
theorem qg1.calls1 (k : Nat) (a0 a1 : ByteArray) (hh : Int) (w : World) (h : qW.f k a1 = some hh) (h0 : a0.size ≤ 140737488351232) (h1 : 1 ≤ a0.size) :
  Calls Try.prog 49 #[.string a0, .string a1] w fun e w' => e = .returned (.bool ((qC.ps hh (8 * (a0.size : Int))).all fun p => qg1.bit a0 p != 0)) ∧ Below w.heap.size w w' := by
 have hz : ¬ (IntKind.u64.wrap (8 * (a0.size : Int)) = 0) := by rw [qC.wu]; omega
 have hne : (a0.toList == []) = false := by
  rw [beq_eq_false_iff_ne, ByteArray.toList_eq]; intro e
  have := congrArg List.length e; rw [Array.length_toList] at this
  have h2 : a0.data.size = a0.size := rfl
  rw [h2, List.length_nil] at this; omega
 have hin := Aside0.mk (qC.in_ hh (8 * (a0.size : Int)) (qW.range h).1 r18_ r18_)
 go_enter Try.func49, Try.ntmps49
 go_wp2_with (go_at_call 79; refine (qC.any k a1 (8 * (a0.size : Int)) hh _ h hz).mono ?_; rintro e w1 ⟨p0, p1, p2, p3, hps, rfl, hb⟩; have HP := Lib.hid hps; clear hps; have HB := Aside0.mk hb; clear hb)
 have hb_ := hin.out
 rw [HP.out] at hb_
 have g0 := hb_ p0 r17_
 have g1 := hb_ p1 r17_
 have g2 := hb_ p2 r17_
 have g3 := hb_ p3 r17_
 clear hb_
 have q0 : 0 ≤ p0 / 8 ∧ p0 / 8 < (a0.size : Int) := by omega
 have hx0 := bt_at a0 (p0 / 8)
 obtain ⟨b0, e0⟩ : ∃ b, Go.bits .and .u8 (bt a0 (p0 / 8) / 2 ^ (p0 % 8).toNat) 1 = b := ⟨_, rfl⟩
 have f0 : Hid (qg1.bit a0 p0 = b0) := e0
 have i0 : ∀ W, (Instr.index 115 (.agg #[.int .i64 p0, .int .i64 p1, .int .i64 p2, .int .i64 p3]) (.int .i64 0)).run Try.prog W = .ok (.int .i64 p0) W := fun _ => by kernel_rfl
 have q1 : 0 ≤ p1 / 8 ∧ p1 / 8 < (a0.size : Int) := by omega
 have hx1 := bt_at a0 (p1 / 8)
 obtain ⟨b1, e1⟩ : ∃ b, Go.bits .and .u8 (bt a0 (p1 / 8) / 2 ^ (p1 % 8).toNat) 1 = b := ⟨_, rfl⟩
 have f1 : Hid (qg1.bit a0 p1 = b1) := e1
 have i1 : ∀ W, (Instr.index 115 (.agg #[.int .i64 p0, .int .i64 p1, .int .i64 p2, .int .i64 p3]) (.int .i64 1)).run Try.prog W = .ok (.int .i64 p1) W := fun _ => by kernel_rfl
 have q2 : 0 ≤ p2 / 8 ∧ p2 / 8 < (a0.size : Int) := by omega
 have hx2 := bt_at a0 (p2 / 8)
 obtain ⟨b2, e2⟩ : ∃ b, Go.bits .and .u8 (bt a0 (p2 / 8) / 2 ^ (p2 % 8).toNat) 1 = b := ⟨_, rfl⟩
 have f2 : Hid (qg1.bit a0 p2 = b2) := e2
 have i2 : ∀ W, (Instr.index 115 (.agg #[.int .i64 p0, .int .i64 p1, .int .i64 p2, .int .i64 p3]) (.int .i64 2)).run Try.prog W = .ok (.int .i64 p2) W := fun _ => by kernel_rfl
 have q3 : 0 ≤ p3 / 8 ∧ p3 / 8 < (a0.size : Int) := by omega
 have hx3 := bt_at a0 (p3 / 8)
 obtain ⟨b3, e3⟩ : ∃ b, Go.bits .and .u8 (bt a0 (p3 / 8) / 2 ^ (p3 % 8).toNat) 1 = b := ⟨_, rfl⟩
 have f3 : Hid (qg1.bit a0 p3 = b3) := e3
 have i3 : ∀ W, (Instr.index 115 (.agg #[.int .i64 p0, .int .i64 p1, .int .i64 p2, .int .i64 p3]) (.int .i64 3)).run Try.prog W = .ok (.int .i64 p3) W := fun _ => by kernel_rfl
 refine wp_loop_rounds 5 ?_
 rw [rounds_succ]
 by_cases c0 : b0 = 0
 ·have C0 := Lib.hid c0
  have c0' : (b0 == 0) = true := by simp [c0]
  clear c0
  go_wp2
  go_ret
  refine ⟨?_, HB.out⟩
  rw [HP.out]; simp [f0.out, f1.out, f2.out, f3.out, C0.out]
 have C0 := Lib.hid c0
 have c0' : (b0 == 0) = false := by simp [c0]
 clear c0
 go_wp2
 rw [rounds_succ]
 by_cases c1 : b1 = 0
 ·have C1 := Lib.hid c1
  have c1' : (b1 == 0) = true := by simp [c1]
  clear c1
  go_wp2
  go_ret
  refine ⟨?_, HB.out⟩
  rw [HP.out]; simp [f0.out, f1.out, f2.out, f3.out, C0.out, C1.out]
 have C1 := Lib.hid c1
 have c1' : (b1 == 0) = false := by simp [c1]
 clear c1
 go_wp2
 rw [rounds_succ]
 by_cases c2 : b2 = 0
 ·have C2 := Lib.hid c2
  have c2' : (b2 == 0) = true := by simp [c2]
  clear c2
  go_wp2
  go_ret
  refine ⟨?_, HB.out⟩
  rw [HP.out]; simp [f0.out, f1.out, f2.out, f3.out, C0.out, C1.out, C2.out]
 have C2 := Lib.hid c2
 have c2' : (b2 == 0) = false := by simp [c2]
 clear c2
 go_wp2
 rw [rounds_succ]
 by_cases c3 : b3 = 0
 ·have C3 := Lib.hid c3
  have c3' : (b3 == 0) = true := by simp [c3]
  clear c3
  go_wp2
  go_ret
  refine ⟨?_, HB.out⟩
  rw [HP.out]; simp [f0.out, f1.out, f2.out, f3.out, C0.out, C1.out, C2.out, C3.out]
 have C3 := Lib.hid c3
 have c3' : (b3 == 0) = false := by simp [c3]
 clear c3
 go_wp2
 rw [rounds_succ]; go_wp2
 go_ret
 refine ⟨?_, HB.out⟩
 rw [HP.out]; simp [f0.out, f1.out, f2.out, f3.out, C0.out, C1.out, C2.out, C3.out]
def qg1.f (k : Nat) (a0 a1 : ByteArray) : Option Bool :=
 if a0.size = 0 then some true else if a0.size ≤ 140737488351232 then (qW.f k a1).bind fun h => some ((qC.ps h (8 * (a0.size : Int))).all fun p => qg1.bit a0 p != 0) else none
theorem qg1.mono : ∀ a0 a1 k, LeO (qg1.f k a0 a1) (qg1.f (k + 1) a0 a1) := by
 intro a0 a1 k
 unfold qg1.f
 exact LeO.ite (LeO.refl _) (LeO.ite (LeO.bind (qW.mono _ _) (fun _ => LeO.refl _)) (LeO.refl _))
set_option maxHeartbeats 400000 in
theorem qg1.calls (k : Nat) (a0 a1 : ByteArray) (r : Bool) (w : World) (h : qg1.f k a0 a1 = some r) :
  Calls Try.prog 49 #[.string a0, .string a1] w fun e w' => e = .returned (.bool r) ∧ Below w.heap.size w w' := by
 unfold qg1.f at h
 by_cases h1 : a0.size = 0
 rotate_left
 ·rw [if_neg h1] at h
  by_cases h2 : a0.size ≤ 140737488351232
  rotate_left
  ·rw [if_neg h2] at h
   cases h
  rw [if_pos h2] at h
  replace h := bs_ h
  obtain ⟨hh, hm, h⟩ := h
  obtain rfl := Option.some.inj h
  exact qg1.calls1 k a0 a1 hh w hm h2 r18_
 rw [if_pos h1] at h
 obtain rfl := Option.some.inj h
 clear h
 have he : (a0.toList == []) = true := by
  rw [beq_iff_eq, ByteArray.toList_eq]
  apply List.eq_nil_of_length_eq_zero
  rw [Array.length_toList]; exact h1
 clear h1
 go_enter Try.func49, Try.ntmps49
 go_wp2
 go_ret
 exact ⟨rfl, Below.refl _ _⟩

end Go.Proofs.Ytgdkikkjaofbfaa.P
