-- Printed by a program of this session's own (wip/tools/pprint.sh, over the kit's print, with given contracts): not typed by hand.
import Derived.Test.YtgdkikkjaofbfaaWKept
import Derived.Test.YtgdkikkjaofbfaaPx0
import Derived.Test.YtgdkikkjaofbfaaPx2
import Derived.Test.YtgdkikkjaofbfaaPx3
namespace Go.Proofs.Ytgdkikkjaofbfaa.P
open Go.RowKit Go.Proofs.YtgdkikkjaofbfaaW.PrintWords Go.Proofs.YtgdkikkjaofbfaaW.PrintLast Go.Proofs.YtgdkikkjaofbfaaW.PrintMore
attribute [local go_sem] max2_int min2_int max_two min_two max_three min_three max_four min_four   -- for this text's walks alone
set_option linter.unusedVariables false
set_option linter.unusedSimpArgs false
-- SQUEEZED4
-- SQUEEZED3

/-! ### qi: function 55 -/
def qi.LIM : Nat := 140737488351232
def qi.wr (acc : List UInt8) (s : ByteArray) : Option (List UInt8) := if acc.length + s.size ≤ 140737488351232 then some (acc ++ Th.bl s) else none
def qi.wb (acc : List UInt8) (c : UInt8) : Option (List UInt8) := if acc.length + 1 ≤ 140737488351232 then some (acc ++ [c]) else none
def qi.ent (k : Nat) (acc : List UInt8) (n : Int) (x : S37) : Option (List UInt8) :=
 (qP.f k (IntKind.u64.wrap n)).bind fun s1 => (qi.wr acc s1).bind fun a1 => (qP.f k (IntKind.u64.wrap (wrap64 ((x.f0.size : Int) - n)))).bind fun s2 => (qi.wr a1 s2).bind fun a2 =>
 if 0 ≤ n then (if n ≤ (x.f0.size : Int) then (qi.wr a2 (x.f0.extract n.toNat x.f0.size)).bind fun a3 => (qP.f k x.f1).bind fun s4 => (qi.wr a3 s4).bind fun a4 => (qi.wb a4 (if x.f2 = true then 1 else 0)).bind fun a5 =>
 (qP.f k (IntKind.u64.wrap (x.f3.size : Int))).bind fun s6 => (qi.wr a5 s6).bind fun a6 => qi.wr a6 x.f3 else none) else none
def qi.go (k : Nat) (L : List (S37)) : Nat → List (S37) → List UInt8 → List Int → Option (List UInt8 × List Int)
 | _, [], acc, st => some (acc, st)
 | i, x :: l, acc, st => if i % 4 = 0 then (qi.ent k acc 0 x).bind fun a => qi.go k L (i + 1) l a (st ++ [(acc.length : Int)])
  else (qY.f k (rd_T37 L ((i : Int) - 1)).f0 x.f0).bind fun n => (qi.ent k acc n x).bind fun a => qi.go k L (i + 1) l a st
def qi.tl : List Int → List UInt8 → Option (List UInt8)
 | [], acc => some acc
 | a :: l, acc => (qi1.f (IntKind.u64.wrap a)).bind fun s => (qi.wr acc s).bind fun a1 => qi.tl l a1
def qi.f (k : Nat) (l0 : List (S37)) : Option (ByteArray × Int) :=
 (qo1.f k l0).bind fun m => if m = true then (if l0.length ≤ 1000000 then (qi.go k l0 0 l0 [] []).bind fun p => (qi.tl p.2 p.1).bind fun a => (qi1.f (IntKind.u64.wrap (l0.length : Int))).bind fun s => (qi.wr a s).bind fun r => some (Th.lb r, 0) else none) else some ((⟨#[]⟩ : ByteArray), 2)
theorem qi.ent_mono (k : Nat) (acc : List UInt8) (n : Int) (x : S37) : LeO (qi.ent k acc n x) (qi.ent (k + 1) acc n x) :=
 LeO.bind (qP.mono _ _) (fun _ => LeO.bind (LeO.refl _) (fun _ => LeO.bind (qP.mono _ _) (fun _ => LeO.bind (LeO.refl _) (fun _ => LeO.ite (LeO.ite (LeO.bind (LeO.refl _) (fun _ => LeO.bind (qP.mono _ _) (fun _ => LeO.bind (LeO.refl _) (fun _ => LeO.bind (LeO.refl _) (fun _ => LeO.bind (qP.mono _ _) (fun _ => LeO.refl _)))))) (LeO.refl _)) (LeO.refl _)))))
theorem qi.go_mono (k : Nat) (L : List (S37)) : ∀ i l acc st, LeO (qi.go k L i l acc st) (qi.go (k + 1) L i l acc st)
 | _, [], acc, st => LeO.refl _
 | i, x :: l, acc, st => LeO.ite (LeO.bind (qi.ent_mono _ _ _ _) (fun _ => qi.go_mono k L _ l _ _)) (LeO.bind (qY.mono _ _ _) (fun _ => LeO.bind (qi.ent_mono _ _ _ _) (fun _ => qi.go_mono k L _ l _ _)))
theorem qi.mono : ∀ l0 k, LeO (qi.f k l0) (qi.f (k + 1) l0) := by
 intro l0 k
 unfold qi.f
 exact LeO.bind (qo1.mono _ _) (fun _ => LeO.ite (LeO.ite (LeO.bind (qi.go_mono _ _ _ _ _ _) (fun _ => LeO.refl _)) (LeO.refl _)) (LeO.refl _))
theorem qi.len_bl (s : ByteArray) : s.data.toList.length = s.size := by rw [Array.length_toList]; rfl
theorem qi.wr_le {acc r : List UInt8} {s : ByteArray} (h : qi.wr acc s = some r) : acc.length + s.size ≤ 140737488355328 ∧ acc ++ s.data.toList = r := by
 unfold qi.wr at h
 split at h
 ·exact ⟨r18_, by simpa [Th.bl] using h⟩
 ·cases h
theorem qi.wb_le {acc r : List UInt8} {c : UInt8} (h : qi.wb acc c = some r) : acc.length + 1 ≤ 140737488355328 ∧ acc ++ [c] = r := by
 unfold qi.wb at h
 split at h
 ·exact ⟨r18_, by simpa using h⟩
 ·cases h
theorem qi.info : (Try.prog.info? 3).map (fun i => (i.zero, i.size, i.bytes)) = some (some (.int .i64 0), 1, 8) := by kernel_rfl
/-- The row of places goes over whatever a builder does. -/
theorem qi.keepR {w w' : World} {base b : Nat} {v : Value} {xs : List Int} (h : Kd.R (Kd.int .i64) 3 w base (fun k_ => k_ ≠ b) v xs) (hk : Buf.Kept b w w') : Kd.R (Kd.int .i64) 3 w' base (fun k_ => k_ ≠ b) v xs := by
 refine Kd.R_mono (Kd.R_step (Kd.R_bound h) (fun k hok hl => ?_)) (fun _ hh => hh.1)
 obtain ⟨h1, _, _, q, hq, cells, hc⟩ := hok
 have hq2 : q = 3 := by
  rcases List.mem_cons.1 hq with e | e
  ·exact e
  ·exact absurd e (by simp [Kd.int, Kd.scalar])
 subst hq2
 exact (hk k _ hc (fun e => h1 (Option.some.inj e)) (fun c fz e => by injection e with _ e2 _; exact absurd e2 r24_)).trans hc.symm
theorem qi.fresh {B b : Nat} {l : List UInt8} {w : World} (h : Buf.Has B b l w) : ∀ k, w.heap.size ≤ k → k ≠ b := fun k hk e => by
 have := Buf.has_lt h
 omega
theorem qi.rowblk {w : World} {base b : Nat} {v : Value} {xs : List Int} (h : Kd.R (Kd.int .i64) 3 w base (fun k_ => k_ ≠ b) v xs) : ∀ r, v.ownBlock = some r → r ≠ b ∧ ∃ cells, w.heap[r]? = some (.cells cells 3 (0, 0)) := by
 intro r e
 obtain ⟨h1, _, _, q, hq, cells, hc⟩ := (Kd.R_bound h).1 r e
 have hq2 : q = 3 := by
  rcases List.mem_cons.1 hq with e | e
  ·exact e
  ·exact absurd e (by simp [Kd.int, Kd.scalar])
 subst hq2
 exact ⟨h1, cells, hc⟩
theorem qi.rowne {w : World} {base b g : Nat} {v : Value} {xs : List Int} {cs : Array Value} (h : Kd.R (Kd.int .i64) 3 w base (fun k_ => k_ ≠ b) v xs) (hb : w.heap[g]? = some (.cells cs 37 (0, 0))) : some g ≠ v.ownBlock := by
 intro e
 obtain ⟨_, cells, hc⟩ := qi.rowblk h g e.symm
 rw [hb] at hc
 injection hc with hc
 injection hc with _ e2 _
 exact absurd e2 r24_
theorem qi.own_keep {B : Nat} {e : TypeId} {k : Nat} {v : Value} {n : Nat} {xs : List Value} {w w' : World} (h : w.ownsRowF B e k v n xs) (hb : ∀ (g : Nat) (c : Array Value) (fz : Nat × Nat), w.heap[g]? = some (Obj.cells c e fz) → w'.heap[g]? = w.heap[g]?) : w'.ownsRowF B e k v n xs := by
 refine ⟨h.1, ?_⟩
 rcases h.2 with h2 | ⟨g, cap, cur, fz, e1, hB, hg, rest⟩
 ·exact .inl h2
 ·exact .inr ⟨g, cap, cur, fz, e1, hB, (hb g cur fz hg).trans hg, rest⟩
theorem qi.has_grown {B b : Nat} {l : List UInt8} {w w1 : World} {row : Option Nat} (h : Buf.Has B b l w) (hg : w.grownBy w1 row) (hr : ∀ r, row = some r → r ≠ b ∧ ∃ cells, w.heap[r]? = some (.cells cells 3 (0, 0))) : Buf.Has B b l w1 := by
 have key : ∀ p, Lib.BuilderAtF 58 5 B b p (Lib.byteCells l) w → Lib.BuilderAtF 58 5 B b p (Lib.byteCells l) w1 := by
  rintro p h
  have hl := h.lt
  obtain ⟨hB, v, hv, ho, hn⟩ := h
  refine ⟨hB, v, (hg.block b hl (fun e => (hr b e.symm).1 rfl)).trans hv, qi.own_keep ho (fun g c fz hgc => hg.block g (blk_lt hgc) (fun e => ?_)), hn⟩
  obtain ⟨_, cells, hc⟩ := hr g e.symm
  rw [hgc] at hc
  injection hc with hc
  injection hc with _ e2 _
  exact absurd e2 r24_
 exact h.imp (key _) (key _)
set_option maxHeartbeats 6400000 in
set_option maxRecDepth 100000 in
theorem qi.good (k : Nat) (A0 : Option Addr) (c0 : Nat) (l0 : List (S37)) (accF a r : List UInt8) (stF : List Int) (s : ByteArray) (w : World) (hr0 : Kd.C k37 w A0 l0.length l0) (hc0 : l0.length ≤ c0) (hm : qo1.f k l0 = some true) (hlen : l0.length ≤ 1000000) (hgo : qi.go k l0 0 l0 [] [] = some (accF, stF)) (htl : qi.tl stF accF = some a) (hl : qi1.f (IntKind.u64.wrap (l0.length : Int)) = some s) (hwr : qi.wr a s = some r) :
  Calls Try.prog 55 #[.slice A0 l0.length c0] w fun e w' => e = .returned (.tuple #[.string (Th.lb r), .int .i64 0]) ∧ Below w.heap.size w w' := by
 have hu_ := Try.underlying37
 have HR0 := Aside0.mk hr0
 have HC0 := Lib.hid hc0
 have HM := Lib.hid hm
 have HG := Lib.hid hgo
 have HT := Lib.hid htl
 have HL := Lib.hid hl
 have HW := Lib.hid hwr
 clear hr0 hm hgo htl hl hwr hc0
 go_enter Try.func55, Try.ntmps55
 go_wp2_with (fail)
 refine (qo1.calls k A0 c0 l0 true _ HR0.out HC0.out HM.out).mono ?_
 rintro e w2 ⟨rfl, hb⟩
 have HB2 := Aside0.mk hb
 clear hb
 go_upto_region 4 with (fail)
 obtain ⟨b, hb⟩ : ∃ b, b = w2.heap.size := ⟨_, rfl⟩
 have HS : Aside0 (Buf.Has w.heap.size b [] (w2.alloc (.cells #[.pointer none, .slice none 0 0] 58))) := ⟨by rw [hb]; exact Buf.B_ge (Buf.fresh w2) HB2.out.size⟩
 have HB : Aside0 (Below w.heap.size w (w2.alloc (.cells #[.pointer none, .slice none 0 0] 58))) := ⟨below_alloc HB2.out _⟩
 generalize (w2.alloc (.cells #[.pointer none, .slice none 0 0] 58)) = w3 at HS HB ⊢
 rw [← hb]
 clear hb HB2
 go_wp2
 have HO : Aside0 (Kd.R (Kd.int .i64) 3 w3 w.heap.size (fun k_ => k_ ≠ b) (.slice none 0 0) ([] : List Int)) := ⟨Kd.R_nil _ _ _ _ _⟩
 go_loopg [5, 16] l0.length (fun kq v5 v16 w' => ∃ (i : Nat) (acc : List UInt8) (st : List Int), v16 = .int .i64 (i : Int) ∧ Aside0 (kq + i = l0.length) ∧ Aside0 (qi.go k l0 i (l0.drop i) acc st = some (accF, stF)) ∧ Aside0 (Buf.Has w.heap.size b acc w') ∧ Aside0 (Kd.R (Kd.int .i64) 3 w' w.heap.size (fun k_ => k_ ≠ b) v5 st) ∧ Aside0 (Below w.heap.size w w') ∧ Aside0 (st.length ≤ i))
 case atStart => exact ⟨0, [], [], rfl, ⟨r18_⟩, ⟨HG.out⟩, HS, HO, HB, ⟨Nat.le_refl _⟩⟩
 case round =>
  clear HS HB HG HO
  obtain ⟨i, acc, st, rfl, HI, HG, HS, HO, HB, HST⟩ := hrel
  by_cases hlt : i < l0.length
  rotate_left
  ·have hdr : l0.drop i = [] := List.drop_eq_nil_of_le r18_
   have hg := HG.out
   rw [hdr] at hg
   clear hdr HG
   obtain ⟨rfl, rfl⟩ : acc = accF ∧ st = stF := by simpa [qi.go] using hg
   clear hg
   obtain ⟨A5, c5, e5⟩ := Kd.R_slice HO.out
   subst e5
   have hsl : st.length ≤ 1000000 := by have := HST.out; have := HI.out; omega
   go_wp2
   go_loopg [74] st.length (fun kq v74 w' => ∃ (j : Nat) (a0 : List UInt8), v74 = .int .i64 (j : Int) ∧ Aside0 (kq + j = st.length) ∧ Aside0 (qi.tl (st.drop j) a0 = some a) ∧ Aside0 (Buf.Has w.heap.size b a0 w') ∧ Aside0 (Kd.R (Kd.int .i64) 3 w' w.heap.size (fun k_ => k_ ≠ b) (.slice A5 st.length c5) st) ∧ Aside0 (Below w.heap.size w w'))
   case atStart => exact ⟨0, acc, rfl, ⟨r18_⟩, ⟨HT.out⟩, HS, HO, HB⟩
   case round =>
    clear HS HB HO HT
    obtain ⟨j, a0, rfl, HJ, HT, HS, HO, HB⟩ := hrel
    by_cases hjt : j < st.length
    rotate_left
    ·have hdr : st.drop j = [] := List.drop_eq_nil_of_le r18_
     have ht := HT.out
     rw [hdr] at ht
     clear hdr HT
     obtain rfl : a0 = a := by simpa [qi.tl] using ht
     clear ht HO
     go_wp2_with (fail)
     have HL2 : Hid (qi1.f (l0.length : Int) = some s) := by
      have e1 : IntKind.u64.wrap (l0.length : Int) = (l0.length : Int) := IntWalk.u64_in _ r18_
      have := HL.out
      rw [e1] at this
      exact Lib.hid this
     refine (qi1.calls _ s _ HL2.out).mono ?_
     rintro e z1 ⟨rfl, hb⟩
     have HS1 := Aside0.mk (Buf.has_below HS.out hb)
     have HB1 := Aside0.mk (below_step HB.out hb)
     clear hb HS HB
     go_wp2_with (fail)
     refine (Buf.wrote w.heap.size b a0 s _ HS1.out (qi.wr_le HW.out).1).mono ?_
     rintro e z2 ⟨rfl, hs, hb, hk⟩
     rw [(qi.wr_le HW.out).2] at hs
     have HS2 := Aside0.mk hs
     have HB2 := Aside0.mk (HB1.out.trans hb)
     clear hs hb hk HS1 HB1
     go_wp2_with (fail)
     refine (Buf.read w.heap.size b _ _ HS2.out).mono ?_
     rintro e z3 ⟨rfl, hs, hb, _⟩
     have HB3 := Aside0.mk (HB2.out.trans hb)
     clear HS2 HB2 hs hb
     go_wp2
     go_ret2
     exact ⟨by simp [Th.lb], HB3.out⟩
    have hkg : ∃ k1, gk = k1 + 1 := ⟨gk - 1, by have := HJ.out; omega⟩
    obtain ⟨k1, rfl⟩ := hkg
    have hdr : st.drop j = rd st (j : Int) :: st.drop (j + 1) := by
     rw [List.drop_eq_getElem_cons hjt]; simp [rd, hjt]
    have ht := HT.out
    rw [hdr] at ht
    clear hdr HT
    unfold qi.tl at ht
    replace ht := bs_ ht
    obtain ⟨sj, h1, ht⟩ := ht
    replace ht := bs_ ht
    obtain ⟨a1, h2, ht⟩ := ht
    have HT := Lib.hid ht
    have H1 := Lib.hid h1
    have H2 := Lib.hid h2
    clear h1 h2 ht
    obtain ⟨ad5, e5, hx⟩ := Kd.at_int (Kd.R_reads' HO.out).2.2 (j : Int) r18_ r18_
    rw [Int.toNat_natCast] at hx
    cases e5
    go_wp2_with (fail)
    clear hx
    refine (qi1.calls _ sj _ H1.out).mono ?_
    rintro e z1 ⟨rfl, hb⟩
    have HS1 := Aside0.mk (Buf.has_below HS.out hb)
    have HB1 := Aside0.mk (below_step HB.out hb)
    have HO1 := Aside0.mk (Kd.R_below HO.out hb)
    clear hb HS HB HO
    go_wp2_with (fail)
    refine (Buf.wrote w.heap.size b a0 sj _ HS1.out (qi.wr_le H2.out).1).mono ?_
    rintro e z2 ⟨rfl, hs, hb, hk⟩
    rw [(qi.wr_le H2.out).2] at hs
    have HS2 := Aside0.mk hs
    have HB2 := Aside0.mk (HB1.out.trans hb)
    have HO2 := Aside0.mk (qi.keepR HO1.out hk)
    clear hs hb hk HS1 HB1 HO1
    go_wp2
    go_roundg k1
    case measure => omega
    case rel => exact ⟨j + 1, a1, by have hw : wrap64 ((j : Int) + 1) = (j : Int) + 1 := by { unfold wrap64; omega }; simp [hw], ⟨by have := HJ.out; omega⟩, ⟨HT.out⟩, HS2, HO2, HB2⟩
  have hkg : ∃ k1, gk = k1 + 1 := ⟨gk - 1, by have := HI.out; omega⟩
  obtain ⟨k1, rfl⟩ := hkg
  have hdr : l0.drop i = rd_T37 l0 (i : Int) :: l0.drop (i + 1) := by
   rw [List.drop_eq_getElem_cons hlt]; simp [rd_T37, hlt]
  have hg := HG.out
  rw [hdr] at hg
  clear hdr HG
  unfold qi.go at hg
  obtain ⟨ad, ead, hx0, hx1, hx2, hx3⟩ := at_T37 HR0.out (i : Int) r18_ r18_
  subst ead
  have htn : ((i : Int)).toNat = i := by omega
  rw [htn] at hx0 hx1 hx2 hx3
  clear htn
  replace hx0 := (HB.out.cell (World.block_lt_of_cell? w _ hx0)).trans hx0
  replace hx1 := (HB.out.cell (World.block_lt_of_cell? w _ hx1)).trans hx1
  replace hx2 := (HB.out.cell (World.block_lt_of_cell? w _ hx2)).trans hx2
  replace hx3 := (HB.out.cell (World.block_lt_of_cell? w _ hx3)).trans hx3
  generalize rd_T37 l0 (i : Int) = y at hg hx0 hx1 hx2 hx3
  obtain ⟨y0, y1, y2, y3⟩ := y
  simp only at hg hx0 hx1 hx2 hx3
  go_upto_region 9 with (fail)
  have BK : Aside0 ((wr.alloc (.cells #[.string y0, .int .u64 y1, .bool y2, .string y3] 37)).heap[wr.heap.size]? = some (.cells #[.string y0, .int .u64 y1, .bool y2, .string y3] 37 (0, 0))) := ⟨blk_new _ _⟩
  have HS0 := Aside0.mk (Buf.has_below HS.out (below_alloc (Below.refl wr.heap.size wr) (.cells #[.string y0, .int .u64 y1, .bool y2, .string y3] 37)))
  have HB0 := Aside0.mk (below_alloc HB.out (.cells #[.string y0, .int .u64 y1, .bool y2, .string y3] 37))
  have HO0 := Aside0.mk (Kd.R_alloc HO.out (.cells #[.string y0, .int .u64 y1, .bool y2, .string y3] 37))
  have HNE : Hid (some wr.heap.size ≠ some b) := Lib.hid (by have := Buf.has_lt HS.out; intro e; injection e; omega)
  clear HS HB HO hx0 hx1 hx2 hx3
  have BK0 := BK
  clear BK
  generalize (wr.alloc (.cells #[.string y0, .int .u64 y1, .bool y2, .string y3] 37)) = x0 at BK0 HS0 HB0 HO0 ⊢
  obtain ⟨g, hgg⟩ : ∃ g, wr.heap.size = g := ⟨_, rfl⟩
  rw [hgg] at BK0 HNE ⊢
  clear hgg
  have HKN : ∀ z : Bool, Hid (∀ c fz, Obj.cells #[.string y0, .int .u64 y1, .bool z, .string y3] 37 (0, 0) ≠ .cells c 5 fz) := fun z => Lib.hid (by intro c fz e; injection e with _ e2 _; exact absurd e2 r24_)
  have HKN := Lib.hid HKN
  have HGG := Lib.hid hg
  clear hg
  go_upto_if 23 with (fail)
  go_cut [5, 8] (fun v5 v8 wc => ∃ (n : Int) (st' : List Int), v8 = .int .i64 n ∧ Aside0 (((qi.ent k acc n (⟨y0, y1, y2, y3⟩ : S37)).bind fun a => qi.go k l0 (i + 1) (l0.drop (i + 1)) a st') = some (accF, stF)) ∧ Aside0 (Buf.Has w.heap.size b acc wc) ∧ Aside0 (Kd.R (Kd.int .i64) 3 wc w.heap.size (fun k_ => k_ ≠ b) v5 st') ∧ Aside0 (Below w.heap.size w wc) ∧ Aside0 (wc.heap[g]? = some (.cells #[.string y0, .int .u64 y1, .bool y2, .string y3] 37 (0, 0))) ∧ Aside0 (st'.length ≤ i + 1))
  case first =>
   have hg := HGG.out
   clear HGG
   by_cases h4 : i % 4 = 0
   ·rw [if_pos h4] at hg
    have HG := Lib.hid hg
    clear hg
    have hi4b : ((i : Int) % 4 == 0) = true := beq_iff_eq.mpr r18_
    clear h4
    go_wp2_with (fail)
    clear hi4b
    refine (Buf.len w.heap.size b acc _ HS0.out).mono ?_
    rintro e w' ⟨rfl, rfl⟩
    go_wp2_with (first | ((with_reducible refine gate_builtin (b := .append) (xs := #[.tmp 24, .tmp 26]) rfl ?_); at_builtin; refine Kd.R_append (Kd.int .i64) (w0 := w) w.heap.size rfl (.tmp 24) (.tmp 26) 88 3 (.int .i64 0) 8 rfl Try.underlying88 qi.info rfl r24_ r18_ u5 st ((acc.length : Int)) [.int .i64 (acc.length : Int)] (fun k_ => k_ ≠ b) (fun _ => False) rfl r25_ ?aP (fun _ hk => hk.elim) ?aF ?aO ?aB ?aS ?aL ?_; (case aP => exact rfl); (case aB => exact HB0.out); (case aF => exact (qi.fresh HS0.out)); (case aO => exact HO0.out); (case aS => exact HB0.out.size); (case aL => (have := HST.out; omega)); intro v1 y1_ ho hb hg hat; have HO1 := Aside0.mk ho; have HB1 := Aside0.mk hb; have HS1 := Aside0.mk (qi.has_grown HS0.out hg (qi.rowblk HO0.out)); have BK1 := Aside0.mk (blk_grown BK0.out hg (qi.rowne HO0.out BK0.out)); clear ho hb hg hat HO0 HB0 HS0 BK0))
    go_meet
    case rel => exact ⟨0, st ++ [(acc.length : Int)], rfl, ⟨HG.out⟩, HS1, HO1, HB1, BK1, ⟨by have := HST.out; simp; omega⟩⟩
   rw [if_neg h4] at hg
   replace hg := bs_ hg
   obtain ⟨n, hsh, hg⟩ := hg
   obtain ⟨j, hj⟩ : ∃ j : Nat, i = j + 1 := ⟨i - 1, r18_⟩
   have hjw : IntKind.i64.wrap ((i : Int) - 1) = (j : Int) := by rw [i64_w]; unfold wrap64; omega
   have hji : (i : Int) - 1 = (j : Int) := by omega
   have hjl : j < l0.length := by omega
   rw [hji] at hsh
   have hi4b : ((i : Int) % 4 == 0) = false := beq_eq_false_iff_ne.mpr r18_
   obtain ⟨ad2, e2, hz0, _, _, _⟩ := at_T37 HR0.out (j : Int) r18_ r18_
   obtain rfl : ad = ad2 := by injection e2
   rw [Int.toNat_natCast] at hz0
   replace hz0 := (HB0.out.cell (World.block_lt_of_cell? w _ hz0)).trans hz0
   generalize (rd_T37 l0 (j : Int)).f0 = z0 at hsh hz0
   have HG := Lib.hid hg
   have HSH := Lib.hid hsh
   have p0_ : (0 ≤ (j : Int)) = True := eq_true r18_
   have q0_ : ((j : Int) < (l0.length : Int)) = True := eq_true r18_
   have q1_ : (j < l0.length) = True := eq_true hjl
   clear hg hsh h4 e2 hji hj
   have HZ0 := Aside0.mk hz0
   clear hz0
   have HJL := Lib.hid hjl
   clear hjl
   go_wp2
   clear hi4b
   refine start_ (n := 10) (S := fun w' => w'.cell? (ad.add (j * 4)) = some (.string z0) ∧ w'.cell? ⟨g, 0, none⟩ = some (.string y0)) (ds := []) #[N,N,N,N,N,N,N,N,N,N] r2_ rfl rfl ⟨HZ0.out, (blk_cell BK0.out 0).trans rfl⟩ (fun hHeld => ?_)
   have HS1 : Aside0 (Buf.Has w.heap.size b acc x0.drew) := ⟨Buf.has_below HS0.out (below_drew (Below.refl _ _))⟩
   have HB1 : Aside0 (Below w.heap.size w x0.drew) := ⟨below_drew1 HB0.out⟩
   have HO1 := Aside0.mk (Kd.R_drew HO0.out)
   have BK1 : Aside0 (x0.drew.heap[g]? = some (.cells #[.string y0, .int .u64 y1, .bool y2, .string y3] 37 (0, 0))) := BK0
   clear HS0 HB0 HO0 BK0 HZ0
   generalize x0.drew = x1 at HS1 HB1 HO1 BK1 hHeld ⊢
   refine pu_ 0 (some 28) #[Y,N,N,N,N,N,N,N,N,N] r2_ ?_
   refine pu_ 1 (some 29) #[Y,Y,N,N,N,N,N,N,N,N] r2_ ?_
   refine pu_ 2 (some 30) #[Y,Y,Y,N,N,N,N,N,N,N] r2_ ?_
   refine pu_ 3 (some 31) #[Y,Y,Y,Y,N,N,N,N,N,N] r2_ ?_
   refine pu_ 4 (some 32) #[Y,Y,Y,Y,Y,N,N,N,N,N] r2_ ?_
   refine pu_ 6 (some 34) #[Y,Y,Y,Y,Y,N,Y,N,N,N] r2_ ?_
   refine tk_ (v := ?_) 5 (some 33) #[Y,Y,Y,Y,Y,Y,Y,N,N,N] r2_ hHeld ?_ ?_
   rotate_left
   ·rintro w' ⟨s0, s1⟩
    go_simp
    with_reducible rfl
   refine tk_ (v := ?_) 7 (some 35) #[Y,Y,Y,Y,Y,Y,Y,Y,N,N] r2_ hHeld ?_ ?_
   rotate_left
   ·rintro w' ⟨s0, s1⟩
    go_simp
    with_reducible rfl
   refine one_ (i := 8) (N := some 36) #[Y,Y,Y,Y,Y,Y,Y,Y,Y,N] rfl rfl r2_ r24_ (fun K hK => ?_)
   refine goes_ Try.func82 r2_ rfl #[.string z0, .string y0] r37_ rfl rfl r9_ ?_
   refine (qY.calls k z0 y0 n _ HSH.out).mono ?_
   rintro e w' ⟨rfl, hb⟩
   refine ⟨_, rfl, ?_⟩
   have HZ2 := (hb.cell (World.block_lt_of_cell? x1 _ hHeld.1)).trans hHeld.1
   have HS2 := Aside0.mk (Buf.has_below HS1.out hb)
   have HB2 := Aside0.mk (below_step HB1.out hb)
   have HO2 := Aside0.mk (Kd.R_below HO1.out hb)
   have BK2 := Aside0.mk (blk_below BK1.out hb)
   clear hb HS1 HB1 HO1 BK1
   refine hK.out _ _ ⟨HZ2, (blk_cell BK2.out 0).trans rfl⟩ (fun hHeld => ?_)
   clear hK K HZ2
   refine nm_ (some 36) ?_
   refine pu_ 9 (some 8) #[Y,Y,Y,Y,Y,Y,Y,Y,Y,Y] r2_ ?_
   refine done_ r2_ ?_
   (try clear hHeld)
   (try clear hHeld)
   go_wp2
   go_meet
   case rel => exact ⟨n, st, rfl, ⟨HG.out⟩, HS2, HO2, HB2, BK2, ⟨by have := HST.out; omega⟩⟩
  case rest =>
   clear HS0 HO0 HB0 BK0 HGG
   obtain ⟨n, st', rfl, HNN, HS0, HO0, HB0, BK0, HST1⟩ := hcut
   have hnn := HNN.out
   clear HNN
   replace hnn := bs_ hnn
   obtain ⟨a7, he, hg⟩ := hnn
   have HG := Lib.hid hg
   clear hg
   unfold qi.ent at he
   dsimp only at he
   replace he := bs_ he
   obtain ⟨s1, q1, he⟩ := he
   replace he := bs_ he
   obtain ⟨a1, w1, he⟩ := he
   replace he := bs_ he
   obtain ⟨s2, q2, he⟩ := he
   replace he := bs_ he
   obtain ⟨a2, w2, he⟩ := he
   by_cases hn0 : 0 ≤ n
   case neg => rw [if_neg hn0] at he; exact absurd he r17_
   rw [if_pos hn0] at he
   by_cases hn1 : n ≤ (y0.size : Int)
   case neg => rw [if_neg hn1] at he; exact absurd he r17_
   rw [if_pos hn1] at he
   replace he := bs_ he
   obtain ⟨a3, w3, he⟩ := he
   replace he := bs_ he
   obtain ⟨s4, q4, he⟩ := he
   replace he := bs_ he
   obtain ⟨a4, w4, he⟩ := he
   replace he := bs_ he
   obtain ⟨a5, w5, he⟩ := he
   replace he := bs_ he
   obtain ⟨s6, q6, he⟩ := he
   replace he := bs_ he
   obtain ⟨a6, w6, w7⟩ := he
   have Q1 := Lib.hid q1
   have W1 := Lib.hid w1
   have Q2 := Lib.hid q2
   have W2 := Lib.hid w2
   have W3 := Lib.hid w3
   have Q4 := Lib.hid q4
   have W4 := Lib.hid w4
   have W5 := Lib.hid w5
   have Q6 := Lib.hid q6
   have W6 := Lib.hid w6
   have W7 := Lib.hid w7
   clear q1 w1 q2 w2 w3 q4 w4 w5 q6 w6 w7
   go_wp2_with (fail)
   refine (qP.calls k (IntKind.u64.wrap n) s1 _ Q1.out).mono ?_
   rintro e x1 ⟨rfl, hb⟩
   have HS1 := Aside0.mk (Buf.has_below HS0.out hb)
   have HB1 := Aside0.mk (below_step HB0.out hb)
   have HO1 := Aside0.mk (Kd.R_below HO0.out hb)
   have BK1 := Aside0.mk (blk_below BK0.out hb)
   clear hb HS0 HB0 HO0 BK0
   go_wp2_with (fail)
   refine (Buf.wrote w.heap.size b acc s1 _ HS1.out (qi.wr_le W1.out).1).mono ?_
   rintro e x2 ⟨rfl, hs, hb, hk⟩
   rw [(qi.wr_le W1.out).2] at hs
   have HS2 := Aside0.mk hs
   have HB2 := Aside0.mk (HB1.out.trans hb)
   have HO2 := Aside0.mk (qi.keepR HO1.out hk)
   have BK2 := Aside0.mk (hk g _ BK1.out HNE.out (HKN.out _).out)
   clear hs hb hk HS1 HB1 HO1 BK1
   have d0_ : x2.cell? ⟨g, 0, none⟩ = some (.string y0) := (blk_cell BK2.out 0).trans rfl
   go_wp2_with (fail)
   clear d0_
   refine (qP.calls k _ s2 _ Q2.out).mono ?_
   rintro e x3 ⟨rfl, hb⟩
   have HS3 := Aside0.mk (Buf.has_below HS2.out hb)
   have HB3 := Aside0.mk (below_step HB2.out hb)
   have HO3 := Aside0.mk (Kd.R_below HO2.out hb)
   have BK3 := Aside0.mk (blk_below BK2.out hb)
   clear hb HS2 HB2 HO2 BK2
   go_wp2_with (fail)
   refine (Buf.wrote w.heap.size b a1 s2 _ HS3.out (qi.wr_le W2.out).1).mono ?_
   rintro e x4 ⟨rfl, hs, hb, hk⟩
   rw [(qi.wr_le W2.out).2] at hs
   have HS4 := Aside0.mk hs
   have HB4 := Aside0.mk (HB3.out.trans hb)
   have HO4 := Aside0.mk (qi.keepR HO3.out hk)
   have BK4 := Aside0.mk (hk g _ BK3.out HNE.out (HKN.out _).out)
   clear hs hb hk HS3 HB3 HO3 BK3
   have d0_ : x4.cell? ⟨g, 0, none⟩ = some (.string y0) := (blk_cell BK4.out 0).trans rfl
   go_wp2_with (fail)
   clear d0_
   refine (Buf.wrote w.heap.size b a2 _ _ HS4.out (qi.wr_le W3.out).1).mono ?_
   rintro e x5 ⟨rfl, hs, hb, hk⟩
   rw [(qi.wr_le W3.out).2] at hs
   have HS5 := Aside0.mk hs
   have HB5 := Aside0.mk (HB4.out.trans hb)
   have HO5 := Aside0.mk (qi.keepR HO4.out hk)
   have BK5 := Aside0.mk (hk g _ BK4.out HNE.out (HKN.out _).out)
   clear hs hb hk HS4 HB4 HO4 BK4
   have d1_ : x5.cell? ⟨g, 1, none⟩ = some (.int .u64 y1) := (blk_cell BK5.out 1).trans rfl
   go_wp2_with (fail)
   clear d1_
   refine (qP.calls k y1 s4 _ Q4.out).mono ?_
   rintro e x6 ⟨rfl, hb⟩
   have HS6 := Aside0.mk (Buf.has_below HS5.out hb)
   have HB6 := Aside0.mk (below_step HB5.out hb)
   have HO6 := Aside0.mk (Kd.R_below HO5.out hb)
   have BK6 := Aside0.mk (blk_below BK5.out hb)
   clear hb HS5 HB5 HO5 BK5
   go_wp2_with (fail)
   refine (Buf.wrote w.heap.size b a3 s4 _ HS6.out (qi.wr_le W4.out).1).mono ?_
   rintro e x7 ⟨rfl, hs, hb, hk⟩
   rw [(qi.wr_le W4.out).2] at hs
   have HS7 := Aside0.mk hs
   have HB7 := Aside0.mk (HB6.out.trans hb)
   have HO7 := Aside0.mk (qi.keepR HO6.out hk)
   have BK7 := Aside0.mk (hk g _ BK6.out HNE.out (HKN.out _).out)
   clear hs hb hk HS6 HB6 HO6 BK6
   have d2_ : x7.cell? ⟨g, 2, none⟩ = some (.bool y2) := (blk_cell BK7.out 2).trans rfl
   cases y2 with
   | true =>
    have W5t : Hid (qi.wb a4 1 = some a5) := W5
    go_wp2_with (fail)
    clear d2_
    refine (Buf.wroteInt w.heap.size b a4 _ 1 rfl _ HS7.out (qi.wb_le W5t.out).1).mono ?_
    rintro e x8 ⟨rfl, hs, hb, hk⟩
    rw [(qi.wb_le W5t.out).2] at hs
    have HS8 := Aside0.mk hs
    have HB8 := Aside0.mk (HB7.out.trans hb)
    have HO8 := Aside0.mk (qi.keepR HO7.out hk)
    have BK8 := Aside0.mk (hk g _ BK7.out HNE.out (HKN.out _).out)
    clear hs hb hk HS7 HB7 HO7 BK7
    have d3_ : x8.cell? ⟨g, 3, none⟩ = some (.string y3) := (blk_cell BK8.out 3).trans rfl
    go_wp2_with (fail)
    clear d3_
    refine (qP.calls k _ s6 _ Q6.out).mono ?_
    rintro e x9 ⟨rfl, hb⟩
    have HS9 := Aside0.mk (Buf.has_below HS8.out hb)
    have HB9 := Aside0.mk (below_step HB8.out hb)
    have HO9 := Aside0.mk (Kd.R_below HO8.out hb)
    have BK9 := Aside0.mk (blk_below BK8.out hb)
    clear hb HS8 HB8 HO8 BK8
    go_wp2_with (fail)
    refine (Buf.wrote w.heap.size b a5 s6 _ HS9.out (qi.wr_le W6.out).1).mono ?_
    rintro e x10 ⟨rfl, hs, hb, hk⟩
    rw [(qi.wr_le W6.out).2] at hs
    have HS10 := Aside0.mk hs
    have HB10 := Aside0.mk (HB9.out.trans hb)
    have HO10 := Aside0.mk (qi.keepR HO9.out hk)
    have BK10 := Aside0.mk (hk g _ BK9.out HNE.out (HKN.out _).out)
    clear hs hb hk HS9 HB9 HO9 BK9
    have d3_ : x10.cell? ⟨g, 3, none⟩ = some (.string y3) := (blk_cell BK10.out 3).trans rfl
    go_wp2_with (fail)
    clear d3_
    refine (Buf.wrote w.heap.size b a6 y3 _ HS10.out (qi.wr_le W7.out).1).mono ?_
    rintro e x11 ⟨rfl, hs, hb, hk⟩
    rw [(qi.wr_le W7.out).2] at hs
    have HS11 := Aside0.mk hs
    have HB11 := Aside0.mk (HB10.out.trans hb)
    have HO11 := Aside0.mk (qi.keepR HO10.out hk)
    have BK11 := Aside0.mk (hk g _ BK10.out HNE.out (HKN.out _).out)
    clear hs hb hk HS10 HB10 HO10 BK10
    go_wp2
    go_roundg k1
    case measure => omega
    case rel => exact ⟨i + 1, a7, st', by have hw : wrap64 ((i : Int) + 1) = (i : Int) + 1 := by { unfold wrap64; omega }; simp [hw], ⟨by have := HI.out; omega⟩, ⟨HG.out⟩, HS11, HO11, HB11, HST1⟩
   | false =>
    have W5t : Hid (qi.wb a4 0 = some a5) := W5
    go_wp2_with (fail)
    clear d2_
    refine (Buf.wroteInt w.heap.size b a4 _ 0 rfl _ HS7.out (qi.wb_le W5t.out).1).mono ?_
    rintro e x8 ⟨rfl, hs, hb, hk⟩
    rw [(qi.wb_le W5t.out).2] at hs
    have HS8 := Aside0.mk hs
    have HB8 := Aside0.mk (HB7.out.trans hb)
    have HO8 := Aside0.mk (qi.keepR HO7.out hk)
    have BK8 := Aside0.mk (hk g _ BK7.out HNE.out (HKN.out _).out)
    clear hs hb hk HS7 HB7 HO7 BK7
    have d3_ : x8.cell? ⟨g, 3, none⟩ = some (.string y3) := (blk_cell BK8.out 3).trans rfl
    go_wp2_with (fail)
    clear d3_
    refine (qP.calls k _ s6 _ Q6.out).mono ?_
    rintro e x9 ⟨rfl, hb⟩
    have HS9 := Aside0.mk (Buf.has_below HS8.out hb)
    have HB9 := Aside0.mk (below_step HB8.out hb)
    have HO9 := Aside0.mk (Kd.R_below HO8.out hb)
    have BK9 := Aside0.mk (blk_below BK8.out hb)
    clear hb HS8 HB8 HO8 BK8
    go_wp2_with (fail)
    refine (Buf.wrote w.heap.size b a5 s6 _ HS9.out (qi.wr_le W6.out).1).mono ?_
    rintro e x10 ⟨rfl, hs, hb, hk⟩
    rw [(qi.wr_le W6.out).2] at hs
    have HS10 := Aside0.mk hs
    have HB10 := Aside0.mk (HB9.out.trans hb)
    have HO10 := Aside0.mk (qi.keepR HO9.out hk)
    have BK10 := Aside0.mk (hk g _ BK9.out HNE.out (HKN.out _).out)
    clear hs hb hk HS9 HB9 HO9 BK9
    have d3_ : x10.cell? ⟨g, 3, none⟩ = some (.string y3) := (blk_cell BK10.out 3).trans rfl
    go_wp2_with (fail)
    clear d3_
    refine (Buf.wrote w.heap.size b a6 y3 _ HS10.out (qi.wr_le W7.out).1).mono ?_
    rintro e x11 ⟨rfl, hs, hb, hk⟩
    rw [(qi.wr_le W7.out).2] at hs
    have HS11 := Aside0.mk hs
    have HB11 := Aside0.mk (HB10.out.trans hb)
    have HO11 := Aside0.mk (qi.keepR HO10.out hk)
    have BK11 := Aside0.mk (hk g _ BK10.out HNE.out (HKN.out _).out)
    clear hs hb hk HS10 HB10 HO10 BK10
    go_wp2
    go_roundg k1
    case measure => omega
    case rel => exact ⟨i + 1, a7, st', by have hw : wrap64 ((i : Int) + 1) = (i : Int) + 1 := by { unfold wrap64; omega }; simp [hw], ⟨by have := HI.out; omega⟩, ⟨HG.out⟩, HS11, HO11, HB11, HST1⟩
set_option maxHeartbeats 800000 in
theorem qi.calls (k : Nat) (A0 : Option Addr) (c0 : Nat) (l0 : List (S37)) (r1 : ByteArray) (r2 : Int) (w : World) (hr0 : Kd.C k37 w A0 l0.length l0) (hc0 : l0.length ≤ c0) (h : qi.f k l0 = some (r1, r2)) :
  Calls Try.prog 55 #[.slice A0 l0.length c0] w fun e w' => e = .returned (.tuple #[.string r1, .int .i64 r2]) ∧ Below w.heap.size w w' := by
 unfold qi.f at h
 replace h := bs_ h
 obtain ⟨m, hm, h⟩ := h
 cases m with
 | false =>
  rw [if_neg r24_] at h
  simp only [Option.some.injEq, Prod.mk.injEq] at h
  obtain ⟨rfl, rfl⟩ := h
  have HR0 := Aside0.mk hr0
  have HC0 := Lib.hid hc0
  have HM := Lib.hid hm
  clear hr0 hm hc0
  go_enter Try.func55, Try.ntmps55
  go_wp2_with (fail)
  refine (qo1.calls k A0 c0 l0 false _ HR0.out HC0.out HM.out).mono ?_
  rintro e w1 ⟨rfl, hb⟩
  have HB1 := Aside0.mk hb
  clear hb
  go_wp2
  go_ret2
  exact ⟨rfl, HB1.out⟩
 | true =>
  rw [if_pos rfl] at h
  by_cases hlen : l0.length ≤ 1000000
  case neg => rw [if_neg hlen] at h; exact absurd h r17_
  rw [if_pos hlen] at h
  replace h := bs_ h
  obtain ⟨⟨accF, stF⟩, h1, h⟩ := h
  replace h := bs_ h
  obtain ⟨a, h2, h⟩ := h
  replace h := bs_ h
  obtain ⟨s, h3, h⟩ := h
  replace h := bs_ h
  obtain ⟨r, h4, h⟩ := h
  simp only [Option.some.injEq, Prod.mk.injEq] at h
  obtain ⟨rfl, rfl⟩ := h
  exact qi.good k A0 c0 l0 accF a r stF s w hr0 hc0 hm hlen h1 h2 h3 h4

-- NOT PRINTED: function 28 (table_blocks)

-- NOT PRINTED: function 58 (table_text)

-- NOT PRINTED: function 29 (table_indexed)

/-! ### qW: function 91 -/
def qW.l0 : Nat → ByteArray → Int → Int → Int → Option (Int)
 | 0, _, _, _, _ => none
 | k + 1, x0, x3, x6, x7 => if x7 < x6 then (if 0 ≤ x7 then (if x7 < (x0.size : Int) then (qW.l0 k x0 (IntKind.u64.wrap ((Go.bits .xor .u64 x3 (IntKind.u64.wrap (bt x0 x7))) * 1099511628211)) x6 (wrap64 (x7 + 1))) else (none)) else (none)) else (some x3)
def qW.f (k : Nat) (a0 : ByteArray) : Option (Int) := qW.l0 k a0 14695981039346656037 (a0.size : Int) 0
theorem qW.mono_l : ∀ k, (∀ y0 y1 y2 y3, LeO (qW.l0 k y0 y1 y2 y3) (qW.l0 (k + 1) y0 y1 y2 y3))
 | 0 => fun _ _ _ _ r h => by simp [qW.l0] at h
 | k + 1 => by
  have ih0 := qW.mono_l k
  ·intro y0 y1 y2 y3
   unfold qW.l0
   repeat' first
   | (with_reducible exact ih0 _ _ _ _)
   | (with_reducible exact LeO.refl _)
   | (with_reducible exact LeO.none _)
   | (with_reducible refine LeO.ite ?_ ?_)
   | (with_reducible refine LeO.bind ?_ (fun _ => ?_))
   | exact ih0 _ _ _ _
   | exact LeO.none _
   | refine LeO.ite ?_ ?_
   | refine LeO.bind ?_ (fun _ => ?_)
theorem qW.mono : ∀ a0 k, LeO (qW.f k a0) (qW.f (k + 1) a0) := by
 intro a0 k
 have ih0 := qW.mono_l k
 unfold qW.f
 repeat' first
   | (with_reducible exact ih0 _ _ _ _)
   | (with_reducible exact LeO.refl _)
   | (with_reducible exact LeO.none _)
   | (with_reducible refine LeO.ite ?_ ?_)
   | (with_reducible refine LeO.bind ?_ (fun _ => ?_))
   | exact ih0 _ _ _ _
   | exact LeO.none _
   | refine LeO.ite ?_ ?_
   | refine LeO.bind ?_ (fun _ => ?_)
set_option maxHeartbeats 8000000 in
set_option maxRecDepth 100000 in
theorem qW.calls (k : Nat) (a0 : ByteArray) (r : Int) (w : World) (h : qW.f k a0 = some r) :
  Calls Try.prog 91 #[.string a0] w fun e w' => e = .returned (.int .u64 r) ∧ Drawn0 w w' := by
 have H : (qW.l0 k a0 14695981039346656037 (a0.size : Int) 0) = some r := h
 clear h
 have H' := Aside0.mk H
 clear H
 go_enter Try.func91, Try.ntmps91
 go_wp2
 go_loopg [3, 7] k (fun kq v3 v7 w' => ∃ (x3_1 : Int) (x7_1 : Int), v3 = .int .u64 x3_1 ∧ v7 = .int .i64 x7_1 ∧ Aside0 (qW.l0 kq a0 x3_1 (a0.size : Int) x7_1 = some r) ∧ Aside0 (kq ≤ k) ∧ Drawn0 w w')
 case atStart => exact ⟨(14695981039346656037), (0), rs_, rs_, H', ⟨Nat.le_refl _⟩, dR_⟩
 case round =>
  clear H'
  obtain ⟨x3_1, x7_1, rfl, rfl, HA, HK1, ⟨m1, rfl⟩⟩ := hrel
  cases gk with
  | zero => exact absurd HA.out (by simp [qW.l0])
  | succ k1 =>
   have H := HA.out
   clear HA
   simp only [qW.l0] at H
   by_cases c2 : x7_1 < (a0.size : Int)
   rotate_left
   ·rw [if_neg c2] at H
    have c2b0 := decide_eq_false c2
    clear c2
    obtain rfl := Option.some.inj H
    go_wp2
    go_ret
    exact ⟨rs_, dR_⟩
   rw [if_pos c2] at H
   have c2b0 := decide_eq_true c2
   clear c2
   by_cases c3 : 0 ≤ x7_1
   rotate_left
   ·rw [if_neg c3] at H
    exact absurd H r17_
   rw [if_pos c3] at H
   have c3b0 := decide_eq_true c3
   clear c3
   by_cases c4 : x7_1 < (a0.size : Int)
   rotate_left
   ·rw [if_neg c4] at H
    exact absurd H r17_
   rw [if_pos c4] at H
   have c4b0 := decide_eq_true c4
   clear c4
   have H' := Aside0.mk H
   clear H
   have p5 : 0 ≤ (x7_1 : Int) := of_decide_eq_true as_
   have q5 : x7_1 < (a0.size : Int) := of_decide_eq_true as_
   have hx5 := bt_at a0 x7_1
   replace p5 := eq_true p5
   replace q5 := eq_true q5
   go_wp2
   go_roundg k1
   case measure => have := HK1.out; omega
   case rel => exact ⟨(IntKind.u64.wrap ((Go.bits .xor .u64 x3_1 (IntKind.u64.wrap (bt a0 x7_1))) * 1099511628211)), (wrap64 (x7_1 + 1)), rs_, rs_, hH_, ⟨by have := HK1.out; omega⟩, dR_⟩

/-! ### qC: function 79 -/
section
theorem qC.wu (n : Int) : IntKind.u64.wrap n = n % 18446744073709551616 := by simp [IntKind.wrap, IntKind.bits, IntKind.signed]
theorem qC.setCell_drewN (w : World) (n : Nat) (a : Addr) (v : Value) : (w.drewN n).setCell a v = (w.setCell a v).drewN n := rfl
attribute [local go_sem] qC.setCell_drewN
def qC.st (h : Int) : Int := Go.bits .or .u64 (h / 131072) (IntKind.u64.wrap (h * 140737488355328))
def qC.at_ (h a1 : Int) : Int := wrap64 (Int.tmod h (IntKind.u64.wrap a1))
def qC.ps (h a1 : Int) : List Int :=
 [qC.at_ h a1, qC.at_ (IntKind.u64.wrap (h + qC.st h)) a1, qC.at_ (IntKind.u64.wrap (IntKind.u64.wrap (h + qC.st h) + qC.st h)) a1, qC.at_ (IntKind.u64.wrap (IntKind.u64.wrap (IntKind.u64.wrap (h + qC.st h) + qC.st h) + qC.st h)) a1]
set_option maxHeartbeats 400000 in
theorem qC.any (k : Nat) (a0 : ByteArray) (a1 : Int) (hh : Int) (w : World) (h : qW.f k a0 = some hh) (hz : ¬ (IntKind.u64.wrap a1 = 0)) :
  Calls Try.prog 79 #[.string a0, .int .i64 a1] w fun e w' => ∃ p0 p1 p2 p3 : Int, qC.ps hh a1 = [p0, p1, p2, p3] ∧ e = .returned (.agg #[.int .i64 p0, .int .i64 p1, .int .i64 p2, .int .i64 p3]) ∧ Below w.heap.size w w' := by
 obtain ⟨st, e0⟩ : ∃ st, Go.bits .or .u64 (hh / 131072) (IntKind.u64.wrap (hh * 140737488355328)) = st := ⟨_, rfl⟩
 obtain ⟨h1, e1⟩ : ∃ x, IntKind.u64.wrap (hh + st) = x := ⟨_, rfl⟩
 obtain ⟨h2, e2⟩ : ∃ x, IntKind.u64.wrap (h1 + st) = x := ⟨_, rfl⟩
 obtain ⟨h3, e3⟩ : ∃ x, IntKind.u64.wrap (h2 + st) = x := ⟨_, rfl⟩
 obtain ⟨p0, f0⟩ : ∃ x, wrap64 (Int.tmod hh (IntKind.u64.wrap a1)) = x := ⟨_, rfl⟩
 obtain ⟨p1, f1⟩ : ∃ x, wrap64 (Int.tmod h1 (IntKind.u64.wrap a1)) = x := ⟨_, rfl⟩
 obtain ⟨p2, f2⟩ : ∃ x, wrap64 (Int.tmod h2 (IntKind.u64.wrap a1)) = x := ⟨_, rfl⟩
 obtain ⟨p3, f3⟩ : ∃ x, wrap64 (Int.tmod h3 (IntKind.u64.wrap a1)) = x := ⟨_, rfl⟩
 have hps : Hid (qC.ps hh a1 = [p0, p1, p2, p3]) := by
  show qC.ps hh a1 = [p0, p1, p2, p3]
  simp only [qC.ps, qC.at_, qC.st, e0, e1, e2, e3, f0, f1, f2, f3]
 go_enter Try.func79, Try.ntmps79
 go_wp2_with (go_at_call 91; (refine (qW.calls k a0 hh _ h).mono ?_); rintro e w1 ⟨rfl, ⟨nd, rfl⟩⟩)
 refine wp_loop_rounds 5 ?_
 iterate 5 (rw [rounds_succ]; go_wp2)
 exact bodyPost_ret (v := .agg #[.int .i64 p0, .int .i64 p1, .int .i64 p2, .int .i64 p3]) (by simp [results, Try.results79, go_sem]) rfl ⟨p0, p1, p2, p3, hps, rfl, pw_below_drewN (below_alloc (below_alloc (Below.refl _ _) _) _) _⟩

theorem qW.l0_range : ∀ (k : Nat) (s : ByteArray) (x n i r : Int), 0 ≤ x → x < 18446744073709551616 → qW.l0 k s x n i = some r → 0 ≤ r ∧ r < 18446744073709551616
 | 0, _, _, _, _, _, _, _, h => by simp [qW.l0] at h
 | k + 1, s, x, n, i, r, h0, h1, h => by
  simp only [qW.l0] at h
  split at h
  ·split at h
   ·split at h
    ·exact qW.l0_range k s _ n _ r (by simp [IntKind.wrap, IntKind.bits, IntKind.signed]; omega) (by simp [IntKind.wrap, IntKind.bits, IntKind.signed]; omega) h
    ·cases h
   ·cases h
  ·obtain rfl : x = r := by simpa using h
   exact ⟨h0, h1⟩
theorem qW.range {k : Nat} {s : ByteArray} {r : Int} (h : qW.f k s = some r) : 0 ≤ r ∧ r < 18446744073709551616 :=
 qW.l0_range k s _ _ _ r r24_ r24_ h
theorem qC.at_eq (h n : Int) (h0 : 0 ≤ h) (n1 : 1 ≤ n) (n2 : n ≤ 9223372036854775807) : qC.at_ h n = h % n := by
 unfold qC.at_
 have hw : IntKind.u64.wrap n = n := by simp [IntKind.wrap, IntKind.bits, IntKind.signed]; omega
 have a1 := Int.emod_nonneg h (show n ≠ 0 by omega)
 have a2 := Int.emod_lt_of_pos h (show 0 < n by omega)
 rw [hw, Int.tmod_eq_emod_of_nonneg h0]
 unfold wrap64
 omega
theorem qC.in_ (h n : Int) (h0 : 0 ≤ h) (n1 : 1 ≤ n) (n2 : n ≤ 9223372036854775807) : ∀ p ∈ qC.ps h n, 0 ≤ p ∧ p < n := by
 have g : ∀ x, 0 ≤ x → 0 ≤ qC.at_ x n ∧ qC.at_ x n < n := fun x hx => by
  rw [qC.at_eq x n hx n1 n2]
  exact ⟨Int.emod_nonneg x r18_, Int.emod_lt_of_pos x r18_⟩
 have u : ∀ x : Int, 0 ≤ IntKind.u64.wrap x := fun x => by simp [IntKind.wrap, IntKind.bits, IntKind.signed]; omega
 intro p hp
 simp only [qC.ps, List.mem_cons, List.not_mem_nil, or_false] at hp
 rcases hp with rfl | rfl | rfl | rfl
 ·exact g _ h0
 ·exact g _ (u _)
 ·exact g _ (u _)
 ·exact g _ (u _)
end

end Go.Proofs.Ytgdkikkjaofbfaa.P
