-- Printed by a program of this session's own (wip/tools/pprint.sh, over the kit's print, with given contracts): not typed by hand.
import Derived.Test.YtgdkikkjaofbfaaWKept
import Derived.Test.YtgdkikkjaofbfaaPx0
import Derived.Test.YtgdkikkjaofbfaaPx2
import Derived.Test.YtgdkikkjaofbfaaPx4
import Derived.Test.YtgdkikkjaofbfaaPx5
namespace Go.Proofs.Ytgdkikkjaofbfaa.P
open Go.RowKit Go.Proofs.YtgdkikkjaofbfaaW.PrintWords Go.Proofs.YtgdkikkjaofbfaaW.PrintLast Go.Proofs.YtgdkikkjaofbfaaW.PrintMore
attribute [local go_sem] max2_int min2_int max_two min_two max_three min_three max_four min_four   -- for this text's walks alone
set_option linter.unusedVariables false
set_option linter.unusedSimpArgs false
-- SQUEEZED4
-- SQUEEZED3

/-! ### qh: function 12 -/
-- needs 55 27 30 32 57
def qh.wr (acc : List UInt8) (s : ByteArray) : Option (List UInt8) := if acc.length + s.size ≤ 140737488351232 then some (acc ++ Th.bl s) else none
def qh.sh (k : Nat) (acc : List UInt8) (n : Int) : Option (List UInt8) := (qP.f k n).bind fun t => qh.wr acc t
def qh.tx (k : Nat) (acc : List UInt8) (s : ByteArray) : Option (List UInt8) := (qh.sh k acc (IntKind.u64.wrap (s.size : Int))).bind fun a => qh.wr a s
def qh.ih (k : Nat) (acc : List UInt8) (x : S80) : Option (List UInt8) := (qh.tx k acc x.f0).bind fun a => (qh.sh k a x.f1).bind fun a => (qh.sh k a (IntKind.u64.wrap x.f2)).bind fun a => qh.sh k a (IntKind.u64.wrap x.f3)
def qh.ix (k : Nat) : List (S80) → List UInt8 → Option (List UInt8)
 | [], acc => some acc
 | x :: l, acc => (qh.ih k acc x).bind fun a => qh.ix k l a
def qh.index (k : Nat) (l : List (S80)) : Option (List UInt8) := (qh.sh k [] (IntKind.u64.wrap (l.length : Int))).bind fun a => qh.ix k l a
def qh.bk (k : Nat) : Nat → List (S37) → List UInt8 → List (S80) → Option (List UInt8 × List (S80) × Int)
 | 0, _, _, _ => none
 | n + 1, l, acc, hs => if l.length = 0 then some (acc, hs, 0) else (qi.f k (l.take (min l.length 8))).bind fun s => if s.2 ≠ 0 then some (acc, [], s.2) else (qh.wr acc s.1).bind fun a => qh.bk k n (l.drop (min l.length 8)) a (hs ++ [⟨(rd_T37 l ((min l.length 8 - 1 : Nat) : Int)).f0, (rd_T37 l ((min l.length 8 - 1 : Nat) : Int)).f1, (acc.length : Int), (s.1.size : Int)⟩])
def qh.f (k : Nat) (l0 : List (S37)) : Option (ByteArray × Int) :=
 if l0.length = 0 ∨ 500 < l0.length then some ((⟨#[]⟩ : ByteArray), 2) else (qO.f k l0).bind fun m => if m = true then (qh.bk k (l0.length + 1) l0 [] []).bind fun p => if p.2.2 ≠ 0 then some ((⟨#[]⟩ : ByteArray), p.2.2) else
  (qh.index k p.2.1).bind fun ix => (qQ.f k l0).bind fun fl => (qh.wr p.1 (Th.lb ix)).bind fun a => (qh.wr a fl).bind fun a => (qi1.f (IntKind.u64.wrap ((Th.lb ix).size : Int))).bind fun s => (qh.wr a s).bind fun a => (qi1.f (IntKind.u64.wrap (fl.size : Int))).bind fun s => (qh.wr a s).bind fun a => (qi1.f (IntKind.u64.wrap (l0.length : Int))).bind fun s => (qh.wr a s).bind fun a => (qh.wr a ⟨#[115, 99, 114, 101, 101, 48, 48, 49]⟩).bind fun a => some (Th.lb a, 0)
 else some ((⟨#[]⟩ : ByteArray), 2)
theorem qh.sh_mono (k : Nat) (acc : List UInt8) (n : Int) : LeO (qh.sh k acc n) (qh.sh (k + 1) acc n) := LeO.bind (qP.mono _ _) (fun _ => LeO.refl _)
theorem qh.tx_mono (k : Nat) (acc : List UInt8) (s : ByteArray) : LeO (qh.tx k acc s) (qh.tx (k + 1) acc s) := LeO.bind (qh.sh_mono _ _ _) (fun _ => LeO.refl _)
theorem qh.ih_mono (k : Nat) (acc : List UInt8) (x : S80) : LeO (qh.ih k acc x) (qh.ih (k + 1) acc x) := LeO.bind (qh.tx_mono _ _ _) (fun _ => LeO.bind (qh.sh_mono _ _ _) (fun _ => LeO.bind (qh.sh_mono _ _ _) (fun _ => qh.sh_mono _ _ _)))
theorem qh.ix_mono (k : Nat) : ∀ l acc, LeO (qh.ix k l acc) (qh.ix (k + 1) l acc)
 | [], _ => LeO.refl _
 | x :: l, acc => LeO.bind (qh.ih_mono _ _ _) (fun _ => qh.ix_mono k l _)
theorem qh.bk_mono (k : Nat) : ∀ n l acc hs, LeO (qh.bk k n l acc hs) (qh.bk (k + 1) n l acc hs)
 | 0, _, _, _ => LeO.refl _
 | n + 1, l, acc, hs => LeO.ite (LeO.refl _) (LeO.bind (qi.mono _ _) (fun _ => LeO.ite (LeO.refl _) (LeO.bind (LeO.refl _) (fun _ => qh.bk_mono k n _ _ _))))
theorem qh.mono : ∀ l0 k, LeO (qh.f k l0) (qh.f (k + 1) l0) := by
 intro l0 k
 unfold qh.f
 exact LeO.ite (LeO.refl _) (LeO.bind (qO.mono _ _) (fun _ => LeO.ite (LeO.bind (qh.bk_mono _ _ _ _ _) (fun _ => LeO.ite (LeO.refl _) (LeO.bind (LeO.bind (qh.sh_mono _ _ _) (fun _ => qh.ix_mono _ _ _)) (fun _ => LeO.bind (qQ.mono _ _) (fun _ => LeO.refl _))))) (LeO.refl _)))
theorem qh.wr_le {acc r : List UInt8} {s : ByteArray} (h : qh.wr acc s = some r) : acc.length + s.size ≤ 140737488355328 ∧ acc ++ s.data.toList = r := by
 unfold qh.wr at h
 split at h
 ·exact ⟨r18_, by simpa [Th.bl] using h⟩
 ·cases h
theorem qh.info : (Try.prog.info? 80).map (fun i => (i.zero, i.size, i.bytes)) = some (some (.agg #[(.string ⟨#[]⟩), (.int .u64 0), (.int .i64 0), (.int .i64 0)]), 4, 40) := by kernel_rfl
/-- What a writer does to a builder, and what it leaves. -/
structure qh.Wrote (B b : Nat) (r : List UInt8) (w w' : World) : Prop where
 has : Buf.Has B b r w'
 below : Below B w w'
 kept : Buf.Kept b w w'
theorem qh.Wrote.step {B b : Nat} {r r' : List UInt8} {w w1 w2 : World} (h : qh.Wrote B b r w w1) (hs : Buf.Has B b r' w2) (hb : Below B w1 w2) (hk : Buf.Kept b w1 w2) : qh.Wrote B b r' w w2 := ⟨hs, h.below.trans hb, h.kept.trans hk⟩
theorem qh.Wrote.then_ {B b : Nat} {r r' : List UInt8} {w w1 w2 : World} (h : qh.Wrote B b r w w1) (k : qh.Wrote B b r' w1 w2) : qh.Wrote B b r' w w2 := ⟨k.has, h.below.trans k.below, h.kept.trans k.kept⟩
theorem qh.Wrote.read {B b : Nat} {r : List UInt8} {w w1 w2 : World} (h : qh.Wrote B b r w w1) (hb : Below w1.heap.size w1 w2) : qh.Wrote B b r w w2 := ⟨Buf.has_below h.has hb, h.below.trans (hb.mono (Buf.has_size h.has)), h.kept.trans (Buf.kept_below hb)⟩
theorem qh.Wrote.refl {B b : Nat} {r : List UInt8} {w : World} (h : Buf.Has B b r w) : qh.Wrote B b r w w := ⟨h, Below.refl _ _, Lib.OthersKept.refl _ _ _⟩
set_option maxHeartbeats 6400000 in
set_option maxRecDepth 100000 in
theorem qh.text (k B b : Nat) (acc r : List UInt8) (s : ByteArray) (w : World) (hs : Buf.Has B b acc w) (h : qh.tx k acc s = some r) :
  Calls Try.prog 58 #[.pointer (some ⟨b, 0, none⟩), .string s] w fun e w' => e = .returned (.tuple #[]) ∧ qh.Wrote B b r w w' := by
 replace h := bs_ h
 obtain ⟨a1, h1, h2⟩ := h
 replace h1 := bs_ h1
 obtain ⟨t, h0, h1⟩ := h1
 have Q0 := Lib.hid h0
 have W1 := Lib.hid h1
 have W2 := Lib.hid h2
 have HW0 := Aside0.mk (qh.Wrote.refl hs)
 clear h0 h1 h2 hs
 go_enter Try.func58, Try.ntmps58
 go_wp2_with (fail)
 refine (qP.calls k _ t _ Q0.out).mono ?_
 rintro e x1 ⟨rfl, hb⟩
 have HW1 := Aside0.mk (HW0.out.read hb)
 clear hb HW0
 go_wp2_with (fail)
 refine (Buf.wrote B b acc t _ HW1.out.has (qh.wr_le W1.out).1).mono ?_
 rintro e x2 ⟨rfl, hs, hb, hk⟩
 rw [(qh.wr_le W1.out).2] at hs
 have HW2 := Aside0.mk (HW1.out.step hs hb hk)
 clear hs hb hk HW1
 go_wp2_with (fail)
 refine (Buf.wrote B b a1 s _ HW2.out.has (qh.wr_le W2.out).1).mono ?_
 rintro e x3 ⟨rfl, hs, hb, hk⟩
 rw [(qh.wr_le W2.out).2] at hs
 have HW3 := Aside0.mk (HW2.out.step hs hb hk)
 clear hs hb hk HW2
 go_wp2
 go_end0
 exact ⟨rfl, HW3.out⟩
set_option maxHeartbeats 6400000 in
set_option maxRecDepth 100000 in
theorem qh.indexed (k : Nat) (A0 : Option Addr) (c0 : Nat) (l0 : List (S80)) (r : List UInt8) (w : World) (hr0 : Kd.C k80 w A0 l0.length l0) (hc0 : l0.length ≤ c0) (h : qh.index k l0 = some r) :
  Calls Try.prog 29 #[.slice A0 l0.length c0] w fun e w' => e = .returned (.string (Th.lb r)) ∧ Below w.heap.size w w' := by
 have hu_ := Try.underlying80
 have HR0 := Aside0.mk hr0
 have HMX := Lib.hid (Kd.C_max hr0)
 clear hr0 hc0
 replace h := bs_ h
 obtain ⟨a0, h1, h⟩ := h
 replace h1 := bs_ h1
 obtain ⟨t, h0, h1⟩ := h1
 have Q0 := Lib.hid h0
 have W0 := Lib.hid h1
 have HG := Lib.hid h
 clear h0 h1 h
 go_enter Try.func29, Try.ntmps29
 go_upto_region 2 with (fail)
 obtain ⟨b, hb⟩ : ∃ b, b = w.heap.size := ⟨_, rfl⟩
 have HS : Aside0 (Buf.Has w.heap.size b [] (w.alloc (.cells #[.pointer none, .slice none 0 0] 58))) := ⟨by rw [hb]; exact Buf.fresh w⟩
 have HB0 : Aside0 (Below w.heap.size w (w.alloc (.cells #[.pointer none, .slice none 0 0] 58))) := ⟨below_alloc (Below.refl _ _) _⟩
 generalize hw1 : (w.alloc (.cells #[.pointer none, .slice none 0 0] 58)) = w1 at HS HB0 ⊢
 clear hw1
 rw [← hb]
 clear hb
 have HW0 := Aside0.mk (qh.Wrote.refl HS.out)
 clear HS
 go_wp2_with (fail)
 refine (qP.calls k _ t _ Q0.out).mono ?_
 rintro e x1 ⟨rfl, hb⟩
 have HW1 := Aside0.mk (HW0.out.read hb)
 clear hb HW0
 go_wp2_with (fail)
 refine (Buf.wrote w.heap.size b [] t _ HW1.out.has (qh.wr_le W0.out).1).mono ?_
 rintro e x2 ⟨rfl, hs, hb, hk⟩
 rw [(qh.wr_le W0.out).2] at hs
 have HW2 := Aside0.mk (HW1.out.step hs hb hk)
 clear hs hb hk HW1
 have HB2 := Aside0.mk (HB0.out.trans HW2.out.below)
 have HS2 := Aside0.mk HW2.out.has
 clear HW2 HB0
 go_wp2
 go_loopg [13] l0.length (fun kq v13 w' => ∃ (i : Nat) (acc : List UInt8), v13 = .int .i64 (i : Int) ∧ Aside0 (kq + i = l0.length) ∧ Aside0 (qh.ix k (l0.drop i) acc = some r) ∧ Aside0 (Buf.Has w.heap.size b acc w') ∧ Aside0 (Below w.heap.size w w'))
 case atStart => exact ⟨0, a0, rfl, ⟨r18_⟩, ⟨HG.out⟩, HS2, HB2⟩
 case round =>
  clear HS2 HB2 HG
  obtain ⟨i, acc, rfl, HI, HG, HS, HB⟩ := hrel
  by_cases hlt : i < l0.length
  case neg =>
   have hg := HG.out
   rw [List.drop_eq_nil_of_le r18_] at hg
   obtain rfl := Option.some.inj hg
   clear hg HG
   have dl : decide ((i : Int) < (l0.length : Int)) = false := decide_eq_false r18_
   go_wp2_with (fail)
   refine (Buf.read w.heap.size b acc _ HS.out).mono ?_
   rintro e x3 ⟨rfl, hb⟩
   go_wp2
   go_ret
   exact ⟨rfl, HB.out.trans hb.2.1⟩
  have hkg : ∃ k1, gk = k1 + 1 := ⟨gk - 1, by have := HI.out; omega⟩
  obtain ⟨k1, rfl⟩ := hkg
  have hmx := HMX.out
  have dl : decide ((i : Int) < (l0.length : Int)) = true := decide_eq_true r18_
  have hdr : l0.drop i = rd_T80 l0 (i : Int) :: l0.drop (i + 1) := by
   rw [List.drop_eq_getElem_cons hlt]; simp [rd_T80, hlt]
  have hg := HG.out
  rw [hdr] at hg
  clear hdr HG
  unfold qh.ix at hg
  obtain ⟨ad, ead, hx0, hx1, hx2, hx3⟩ := at_T80 HR0.out (i : Int) r18_ r18_
  subst ead
  have htn : ((i : Int)).toNat = i := by omega
  rw [htn] at hx0 hx1 hx2 hx3
  clear htn
  replace hx0 := (HB.out.cell (World.block_lt_of_cell? w _ hx0)).trans hx0
  replace hx1 := (HB.out.cell (World.block_lt_of_cell? w _ hx1)).trans hx1
  replace hx2 := (HB.out.cell (World.block_lt_of_cell? w _ hx2)).trans hx2
  replace hx3 := (HB.out.cell (World.block_lt_of_cell? w _ hx3)).trans hx3
  generalize rd_T80 l0 (i : Int) = y at hg hx0 hx1 hx2 hx3
  obtain ⟨y0, y1, y2, y3⟩ := y
  simp only at hg hx0 hx1 hx2 hx3
  replace hg := bs_ hg
  obtain ⟨a4, he, hg⟩ := hg
  have HGN := Lib.hid hg
  clear hg
  replace he := bs_ he
  obtain ⟨a1, t1, he⟩ := he
  replace he := bs_ he
  obtain ⟨a2, h2, he⟩ := he
  replace h2 := bs_ h2
  obtain ⟨s2, q2, w2⟩ := h2
  replace he := bs_ he
  obtain ⟨a3, h3, he⟩ := he
  replace h3 := bs_ h3
  obtain ⟨s3, q3, w3⟩ := h3
  replace he := bs_ he
  obtain ⟨s4, q4, w4⟩ := he
  have T1 := Lib.hid t1
  have Q2 := Lib.hid q2
  have W2 := Lib.hid w2
  have Q3 := Lib.hid q3
  have W3 := Lib.hid w3
  have Q4 := Lib.hid q4
  have W4 := Lib.hid w4
  clear t1 q2 w2 q3 w3 q4 w4
  go_upto_region 6 with (fail)
  have BK0 : Aside0 ((wr.alloc (.cells #[.string y0, .int .u64 y1, .int .i64 y2, .int .i64 y3] 80)).heap[wr.heap.size]? = some (.cells #[.string y0, .int .u64 y1, .int .i64 y2, .int .i64 y3] 80 (0, 0))) := ⟨blk_new _ _⟩
  have HS0 := Aside0.mk (Buf.has_below HS.out (below_alloc (Below.refl wr.heap.size wr) (.cells #[.string y0, .int .u64 y1, .int .i64 y2, .int .i64 y3] 80)))
  have HB0 := Aside0.mk (below_alloc HB.out (.cells #[.string y0, .int .u64 y1, .int .i64 y2, .int .i64 y3] 80))
  have HNE : Hid (some wr.heap.size ≠ some b) := Lib.hid (by have := Buf.has_lt HS.out; intro e; injection e; omega)
  clear HS HB hx0 hx1 hx2 hx3
  generalize (wr.alloc (.cells #[.string y0, .int .u64 y1, .int .i64 y2, .int .i64 y3] 80)) = x0 at BK0 HS0 HB0 ⊢
  obtain ⟨g, hgg⟩ : ∃ g, wr.heap.size = g := ⟨_, rfl⟩
  rw [hgg] at BK0 HNE ⊢
  clear hgg
  have HKN : Hid (∀ c fz, Obj.cells #[.string y0, .int .u64 y1, .int .i64 y2, .int .i64 y3] 80 (0, 0) ≠ .cells c 5 fz) := Lib.hid (by intro c fz e; injection e with _ e2 _; exact absurd e2 r24_)
  have HW0 := Aside0.mk (qh.Wrote.refl HS0.out)
  have d0_ : x0.cell? ⟨g, 0, none⟩ = some (.string y0) := (blk_cell BK0.out 0).trans rfl
  go_wp2_with (fail)
  clear d0_
  refine (qh.text k w.heap.size b acc a1 y0 _ HW0.out.has T1.out).mono ?_
  rintro e x1 ⟨rfl, hw⟩
  have BK1 := Aside0.mk (hw.kept g _ BK0.out HNE.out HKN.out)
  have HW1 := Aside0.mk (HW0.out.then_ hw)
  clear hw HW0
  have d_ : x1.cell? ⟨g, 1, none⟩ = some (.int .u64 y1) := (blk_cell BK1.out 1).trans rfl
  go_wp2_with (fail)
  clear d_
  refine (qP.calls k _ s2 _ Q2.out).mono ?_
  rintro e x2 ⟨rfl, hb⟩
  have BK2 := Aside0.mk (blk_below BK1.out hb)
  have HW2 := Aside0.mk (HW1.out.read hb)
  clear hb HW1 BK1
  go_wp2_with (fail)
  refine (Buf.wrote w.heap.size b a1 s2 _ HW2.out.has (qh.wr_le W2.out).1).mono ?_
  rintro e x3 ⟨rfl, hs, hb, hk⟩
  rw [(qh.wr_le W2.out).2] at hs
  have BK3 := Aside0.mk (hk g _ BK2.out HNE.out HKN.out)
  have HW3 := Aside0.mk (HW2.out.step hs hb hk)
  clear hs hb hk HW2 BK2
  have d_ : x3.cell? ⟨g, 2, none⟩ = some (.int .i64 y2) := (blk_cell BK3.out 2).trans rfl
  go_wp2_with (fail)
  clear d_
  refine (qP.calls k _ s3 _ Q3.out).mono ?_
  rintro e x4 ⟨rfl, hb⟩
  have BK4 := Aside0.mk (blk_below BK3.out hb)
  have HW4 := Aside0.mk (HW3.out.read hb)
  clear hb HW3 BK3
  go_wp2_with (fail)
  refine (Buf.wrote w.heap.size b a2 s3 _ HW4.out.has (qh.wr_le W3.out).1).mono ?_
  rintro e x5 ⟨rfl, hs, hb, hk⟩
  rw [(qh.wr_le W3.out).2] at hs
  have BK5 := Aside0.mk (hk g _ BK4.out HNE.out HKN.out)
  have HW5 := Aside0.mk (HW4.out.step hs hb hk)
  clear hs hb hk HW4 BK4
  have d_ : x5.cell? ⟨g, 3, none⟩ = some (.int .i64 y3) := (blk_cell BK5.out 3).trans rfl
  go_wp2_with (fail)
  clear d_
  refine (qP.calls k _ s4 _ Q4.out).mono ?_
  rintro e x6 ⟨rfl, hb⟩
  have BK6 := Aside0.mk (blk_below BK5.out hb)
  have HW6 := Aside0.mk (HW5.out.read hb)
  clear hb HW5 BK5
  go_wp2_with (fail)
  refine (Buf.wrote w.heap.size b a3 s4 _ HW6.out.has (qh.wr_le W4.out).1).mono ?_
  rintro e x7 ⟨rfl, hs, hb, hk⟩
  rw [(qh.wr_le W4.out).2] at hs
  have BK7 := Aside0.mk (hk g _ BK6.out HNE.out HKN.out)
  have HW7 := Aside0.mk (HW6.out.step hs hb hk)
  clear hs hb hk HW6 BK6
  have HBN := Aside0.mk (HB0.out.trans HW7.out.below)
  have HSN := Aside0.mk HW7.out.has
  clear HW7 BK7 HB0 HS0
  go_wp2
  go_roundg k1
  case measure => omega
  case rel => exact ⟨i + 1, a4, by go_num, ⟨by have := HI.out; omega⟩, ⟨HGN.out⟩, HSN, HBN⟩
theorem qh.keepR {w w' : World} {base b : Nat} {v : Value} {xs : List (S80)} (h : Kd.R k80 80 w base (fun k_ => k_ ≠ b) v xs) (hk : Buf.Kept b w w') : Kd.R k80 80 w' base (fun k_ => k_ ≠ b) v xs := by
 refine Kd.R_mono (Kd.R_step (Kd.R_bound h) (fun k hok hl => ?_)) (fun _ hh => hh.1)
 obtain ⟨h1, _, _, q, hq, cells, hc⟩ := hok
 have hE : Kd.E k80 = [] := rfl
 rw [hE, List.mem_singleton] at hq
 subst hq
 exact (hk k _ hc (fun e => h1 (Option.some.inj e)) (fun c fz e => by injection e with _ e2 _; exact absurd e2 r24_)).trans hc.symm
theorem qh.own_keep {B : Nat} {e : TypeId} {k : Nat} {v : Value} {n : Nat} {xs : List Value} {w w' : World} (h : w.ownsRowF B e k v n xs) (hb : ∀ (g : Nat) (c : Array Value) (fz : Nat × Nat), w.heap[g]? = some (Obj.cells c e fz) → w'.heap[g]? = w.heap[g]?) : w'.ownsRowF B e k v n xs := by
 refine ⟨h.1, ?_⟩
 rcases h.2 with h2 | ⟨g, cap, cur, fz, e1, hB, hg, rest⟩
 ·exact .inl h2
 ·exact .inr ⟨g, cap, cur, fz, e1, hB, (hb g cur fz hg).trans hg, rest⟩
theorem qh.has_grown {B b : Nat} {l : List UInt8} {w w1 : World} {row : Option Nat} (h : Buf.Has B b l w) (hg : w.grownBy w1 row) (hr : ∀ r, row = some r → r ≠ b ∧ ∃ cells, w.heap[r]? = some (.cells cells 80 (0, 0))) : Buf.Has B b l w1 := by
 have key : ∀ p, Lib.BuilderAtF 58 5 B b p (Lib.byteCells l) w → Lib.BuilderAtF 58 5 B b p (Lib.byteCells l) w1 := by
  rintro p h
  have hl := h.lt
  obtain ⟨hB, v, hv, ho, hn⟩ := h
  refine ⟨hB, v, (hg.block b hl (fun e => (hr b e.symm).1 rfl)).trans hv, qh.own_keep ho (fun g c fz hgc => hg.block g (blk_lt hgc) (fun e => ?_)), hn⟩
  obtain ⟨_, cells, hc⟩ := hr g e.symm
  rw [hgc] at hc
  injection hc with hc
  injection hc with _ e2 _
  exact absurd e2 r24_
 exact h.imp (key _) (key _)
set_option maxHeartbeats 6400000 in
set_option maxRecDepth 100000 in
theorem qh.blocks (k b n : Nat) (A0 : Option Addr) (c0 : Nat) (l0 : List (S37)) (acc0 : List UInt8) (p : List UInt8 × List (S80) × Int) (w w1 : World) (hr0 : Kd.C k37 w A0 l0.length l0) (hc0 : l0.length ≤ c0) (hn : n ≤ 1000000) (hB : Below w.heap.size w w1) (hs : Buf.Has w.heap.size b acc0 w1) (h : qh.bk k n l0 acc0 [] = some p) :
  Calls Try.prog 28 #[.pointer (some ⟨b, 0, none⟩), .slice A0 l0.length c0] w1 fun e w' => ∃ v0_ : Value, e = .returned (.tuple #[v0_, .int .i64 p.2.2]) ∧ Buf.Has w.heap.size b p.1 w' ∧ Below w.heap.size w w' ∧ Kd.R k80 80 w' w.heap.size (fun k_ => k_ ≠ b) v0_ p.2.1 := by
 have hu_ := Try.underlying37
 have hu2_ := Try.underlying80
 have HR0 := Aside0.mk hr0
 have HC0 := Lib.hid hc0
 have HG := Lib.hid h
 have HS := Aside0.mk hs
 have HB := Aside0.mk hB
 have HN := Lib.hid hn
 clear hr0 hc0 h hs hB hn
 go_enter Try.func28, Try.ntmps28
 go_wp2
 have HO : Aside0 (Kd.R k80 80 w1 w.heap.size (fun k_ => k_ ≠ b) (.slice none 0 0) ([] : List (S80))) := ⟨Kd.R_nil _ _ _ _ _⟩
 go_loopg [1, 6] n (fun kq v1 v6 w' => ∃ (A : Option Addr) (c : Nat) (l : List (S37)) (acc : List UInt8) (hs : List (S80)), v1 = .slice A l.length c ∧ Aside0 (Kd.C k37 w A l.length l) ∧ Hid (l.length ≤ c) ∧ Aside0 (qh.bk k kq l acc hs = some p) ∧ Hid (hs.length + kq ≤ 1000000) ∧ Aside0 (Buf.Has w.heap.size b acc w') ∧ Aside0 (Below w.heap.size w w') ∧ Aside0 (Kd.R k80 80 w' w.heap.size (fun k_ => k_ ≠ b) v6 hs))
 case atStart => exact ⟨A0, c0, l0, acc0, [], rfl, HR0, HC0, ⟨HG.out⟩, Lib.hid (by have := HN.out; simp; omega), HS, HB, HO⟩
 case round =>
  clear HR0 HC0 HG HS HB HO
  obtain ⟨A, c, l, acc, hs, rfl, HR, HC, HG, HH_, HS, HB, HO⟩ := hrel
  cases gk with
  | zero => exact absurd HG.out (by simp [qh.bk])
  | succ k1 =>
  have hg := HG.out
  unfold qh.bk at hg
  clear HG
  by_cases h0 : l.length = 0
  case pos =>
   rw [if_pos h0] at hg
   obtain rfl := Option.some.inj hg
   clear hg
   have dl : decide (0 < (l.length : Int)) = false := decide_eq_false r18_
   have dl2 : ¬ (0 < l.length) := by omega
   go_wp2
   exact bodyPost_ret (v := .tuple #[u6, .int .i64 0]) (by simp [results, Try.results28, go_sem]) rfl ⟨_, rfl, HS.out, HB.out, HO.out⟩
  rw [if_neg h0] at hg
  replace hg := bs_ hg
  obtain ⟨⟨s, e⟩, hE, hg⟩ := hg
  have HE := Lib.hid hE
  have HGG := Lib.hid hg
  clear hE hg
  have dl : decide (0 < (l.length : Int)) = true := decide_eq_true r18_
  have dl2 : 0 < l.length := by omega
  have HM0 := Lib.hid h0
  clear h0
  go_upto_region 4 with (fail)
  have em : (if (8 : Int) < (l.length : Int) then (8 : Int) else (l.length : Int)) = ((min l.length 8 : Nat) : Int) := by split <;> omega
  rw [em]
  clear em dl dl2
  obtain ⟨m, hm⟩ : ∃ m, min l.length 8 = m := ⟨_, rfl⟩
  rw [hm] at HE HGG ⊢
  have HML : Hid (1 ≤ m ∧ m ≤ l.length ∧ m ≤ 8) := Lib.hid (by have := HM0.out; omega)
  clear hm HM0
  have q0_ : m ≤ c := by have := HML.out; have := HC.out; omega
  go_wp2_with (fail)
  have ht : (l.take m).length = m := by rw [List.length_take]; have := HML.out; omega
  have HEc := qi.calls k A c (l.take m) s e wr (Kd.C_take (Kd.C_below HR.out HB.out) HML.out.2.1) (by rw [ht]; exact q0_) HE.out
  rw [ht] at HEc
  refine HEc.mono ?_
  clear HEc ht HE
  rintro e_ x1 ⟨rfl, hb⟩
  have HS1 := Aside0.mk (Buf.has_below HS.out hb)
  have HB1 := Aside0.mk (below_step HB.out hb)
  have HO1 := Aside0.mk (Kd.R_below HO.out hb)
  clear hb HS HB HO
  have hgg := HGG.out
  clear HGG
  by_cases he : e = 0
  case neg =>
   rw [if_pos he] at hgg
   obtain rfl := Option.some.inj hgg
   have d1 : (e == 0) = false := beq_eq_false_iff_ne.mpr he
   have d2 : (e != 0) = true := bne_iff_ne.mpr he
   clear hgg he
   go_wp2
   exact bodyPost_ret (v := .tuple #[.slice none 0 0, .int .i64 e]) (by simp [results, Try.results28, go_sem]) rfl ⟨_, rfl, HS1.out, HB1.out, Kd.R_nil _ _ _ _ _⟩
  subst he
  rw [if_neg r17_] at hgg
  replace hgg := bs_ hgg
  obtain ⟨a1, hw, hgg⟩ := hgg
  have WW := Lib.hid hw
  clear hw
  obtain ⟨j, hj⟩ : ∃ j : Nat, m = j + 1 := ⟨m - 1, by have := HML.out; omega⟩
  have hmj : m - 1 = j := by omega
  rw [hmj] at hgg
  have hjl : j < l.length := by have := HML.out; omega
  obtain ⟨ad, ead, hx0, hx1, hx2, hx3⟩ := at_T37 HR.out (j : Int) r18_ r18_
  subst ead
  rw [Int.toNat_natCast] at hx0 hx1 hx2 hx3
  replace hx0 := (HB1.out.cell (World.block_lt_of_cell? w _ hx0)).trans hx0
  replace hx1 := (HB1.out.cell (World.block_lt_of_cell? w _ hx1)).trans hx1
  replace hx2 := (HB1.out.cell (World.block_lt_of_cell? w _ hx2)).trans hx2
  replace hx3 := (HB1.out.cell (World.block_lt_of_cell? w _ hx3)).trans hx3
  generalize rd_T37 l (j : Int) = y at hgg hx0 hx1 hx2 hx3
  obtain ⟨y0, y1, y2, y3⟩ := y
  simp only at hgg hx0 hx1 hx2 hx3
  have HGN := Lib.hid hgg
  have hjw : IntKind.i64.wrap ((m : Int) - 1) = (j : Int) := by have := HML.out; rw [i64_w]; unfold wrap64; omega
  have p0_ : (0 ≤ (j : Int)) = True := eq_true r18_
  have p1_ : ((j : Int) < (l.length : Int)) = True := eq_true r18_
  have p2_ : (j < l.length) = True := eq_true hjl
  clear hgg hmj hjl hj q0_
  go_upto_region 8 with (fail)
  clear hjw p0_ p1_ p2_
  have BK : Aside0 ((x1.alloc (.cells #[.string y0, .int .u64 y1, .bool y2, .string y3] 37)).heap[x1.heap.size]? = some (.cells #[.string y0, .int .u64 y1, .bool y2, .string y3] 37 (0, 0))) := ⟨blk_new _ _⟩
  have HS2 := Aside0.mk (Buf.has_below HS1.out (below_alloc (Below.refl x1.heap.size x1) (.cells #[.string y0, .int .u64 y1, .bool y2, .string y3] 37)))
  have HB2 := Aside0.mk (below_alloc HB1.out (.cells #[.string y0, .int .u64 y1, .bool y2, .string y3] 37))
  have HO2 := Aside0.mk (Kd.R_alloc HO1.out (.cells #[.string y0, .int .u64 y1, .bool y2, .string y3] 37))
  have HNE : Hid (some x1.heap.size ≠ some b) := Lib.hid (by have := Buf.has_lt HS1.out; intro e; injection e; omega)
  clear HS1 HB1 HO1 hx0 hx1 hx2 hx3
  generalize (x1.alloc (.cells #[.string y0, .int .u64 y1, .bool y2, .string y3] 37)) = x2 at BK HS2 HB2 HO2 ⊢
  obtain ⟨g, hgg⟩ : ∃ g, x1.heap.size = g := ⟨_, rfl⟩
  rw [hgg] at BK HNE ⊢
  clear hgg
  refine start_ (n := 13) (S := fun w' => w'.cell? ⟨g, 0, none⟩ = some (.string y0) ∧ w'.cell? ⟨g, 1, none⟩ = some (.int .u64 y1)) (ds := []) #[N,N,N,N,N,N,N,N,N,N,N,N,N] r2_ rfl rfl ⟨(blk_cell BK.out 0).trans rfl, (blk_cell BK.out 1).trans rfl⟩ (fun hHeld => ?_)
  have HS3 : Aside0 (Buf.Has w.heap.size b acc x2.drew) := ⟨Buf.has_below HS2.out (below_drew (Below.refl _ _))⟩
  have HB3 : Aside0 (Below w.heap.size w x2.drew) := ⟨below_drew1 HB2.out⟩
  have HO3 := Aside0.mk (Kd.R_drew HO2.out)
  have BK3 : Aside0 (x2.drew.heap[g]? = some (.cells #[.string y0, .int .u64 y1, .bool y2, .string y3] 37 (0, 0))) := BK
  clear HS2 HB2 HO2 BK
  generalize x2.drew = x3 at HS3 HB3 HO3 BK3 hHeld ⊢
  refine pu_ 0 (some 32) (mk_ 13 1) r2_ ?_
  refine pu_ 1 (some 33) (mk_ 13 3) r2_ ?_
  refine pu_ 3 (some 35) (mk_ 13 11) r2_ ?_
  refine pu_ 5 (some 37) (mk_ 13 43) r2_ ?_
  refine pu_ 7 (some 39) (mk_ 13 171) r2_ ?_
  refine pu_ 8 (some 40) (mk_ 13 427) r2_ ?_
  refine tk_ (v := ?_) 2 (some 34) (mk_ 13 431) r2_ hHeld ?_ ?_
  rotate_left
  ·rintro w' ⟨s0, s1⟩
   go_simp
   with_reducible rfl
  refine tk_ (v := ?_) 4 (some 36) (mk_ 13 447) r2_ hHeld ?_ ?_
  rotate_left
  ·rintro w' ⟨s0, s1⟩
   go_simp
   with_reducible rfl
  refine one_ (i := 6) (N := some 38) (mk_ 13 511) rfl rfl r2_ r24_ (fun K hK => ?_)
  refine goes_ Try.func56 r2_ rfl #[.pointer (some ⟨b, 0, none⟩)] r37_ rfl rfl r9_ ?_
  refine (Buf.len w.heap.size b acc _ HS3.out).mono ?_
  rintro e w' ⟨rfl, rfl⟩
  refine ⟨_, rfl, ?_⟩
  refine hK.out _ _ ⟨(blk_cell BK3.out 0).trans rfl, (blk_cell BK3.out 1).trans rfl⟩ (fun hHeld => ?_)
  clear hK K
  refine nm_ (some 38) ?_
  refine pu_ 9 (some 41) (mk_ 13 1023) r2_ ?_
  refine one_ (i := 10) (N := some 42) (mk_ 13 2047) rfl rfl r2_ r24_ (fun K hK => ?_)
  refine value_ (w1 := ?_) (v := ?_) r37_ rfl ?_ ?_
  rotate_left 2
  ·go_simp
   constructor
   ·rfl
   ·rfl
  refine hK.out _ _ ⟨(blk_cell (blk_alloc BK3.out _) 0).trans rfl, (blk_cell (blk_alloc BK3.out _) 1).trans rfl⟩ (fun hHeld => ?_)
  clear hK K
  refine nm_ (some 42) ?_
  refine one_ (i := 11) (N := some 43) (mk_ 13 4095) rfl rfl r2_ r24_ (fun K hK => ?_)
  refine Kd.R_append_step k80 (w0 := w) w.heap.size r37_ (.tmp 32) (.tmp 42) 59 80 (.agg #[(.string ⟨#[]⟩), (.int .u64 0), (.int .i64 0), (.int .i64 0)]) 40 rfl Try.underlying59 qh.info rfl r24_ r18_ u6 hs (⟨y0, y1, (acc.length : Int), (s.size : Int)⟩ : S80) [.string y0, .int .u64 y1, .int .i64 (acc.length : Int), .int .i64 (s.size : Int)] (fun k_ => k_ ≠ b) (fun _ => False) rfl rfl ?aP (fun _ hk => hk.elim) ?aF ?aO ?aB ?aS ?aL ?_
  (case aP => exact k80_mkM _ _ _ (⟨y0, y1, (acc.length : Int), (s.size : Int)⟩ : S80))
  (case aB => exact HB3.out)
  (case aF => exact (fun k_ hk_ e_ => by have := Buf.has_lt HS3.out; omega))
  (case aO => exact HO3.out)
  (case aS => exact HB3.out.size)
  (case aL => have := HH_.out; omega)
  intro v1 x4 ho hb hg hat
  have HS4 := Aside0.mk (qh.has_grown HS3.out hg (fun r_ e_ => ⟨HO3.out.1 r_ e_, Kd.R_typed HO3.out r_ e_⟩))
  have BK4 := Aside0.mk (blk_grown BK3.out hg (Kd.R_ne HO3.out BK3.out r24_))
  have HB4 := Aside0.mk hb
  have HO4 := Aside0.mk ho
  clear ho hb hg hat HS3 BK3 HB3 HO3
  refine hK.out _ _ ⟨(blk_cell BK4.out 0).trans rfl, (blk_cell BK4.out 1).trans rfl⟩ (fun hHeld => ?_)
  clear hK K
  refine nm_ (some 43) ?_
  refine pu_ 12 (some 6) (mk_ 13 8191) r2_ ?_
  refine done_ r2_ ?_
  (try clear hHeld)
  (try clear hHeld)
  go_wp2_with (fail)
  refine (Buf.wrote w.heap.size b acc s _ HS4.out (qh.wr_le WW.out).1).mono ?_
  rintro e x5 ⟨rfl, hs_, hb, hk⟩
  rw [(qh.wr_le WW.out).2] at hs_
  have HS5 := Aside0.mk hs_
  have HB5 := Aside0.mk (HB4.out.trans hb)
  have HO5 := Aside0.mk (qh.keepR HO4.out hk)
  clear hs_ hb hk HS4 HB4 HO4 BK4
  have q0_ : m ≤ l.length := HML.out.2.1
  have q1_ : l.length ≤ c := HC.out
  have hCD := Kd.C_drop (m := m) HR.out q0_ q1_
  have HBD : Hid (hs.length + 1 + k1 ≤ 1000000) := Lib.hid (by have := HH_.out; omega)
  by_cases hcm : c = m
  ·rw [if_pos hcm] at hCD
   have HCD := Aside0.mk hCD
   have HLD : Hid ((l.drop m).length ≤ 0) := Lib.hid (by rw [List.length_drop]; omega)
   clear hCD
   go_wp2
   go_roundg k1
   case measure => omega
   case rel => exact ⟨some ad, 0, l.drop m, a1, hs ++ [(⟨y0, y1, (acc.length : Int), (s.size : Int)⟩ : S80)], by rw [List.length_drop], HCD, HLD, ⟨HGN.out⟩, Lib.hid (by have := HBD.out; simp; omega), HS5, HB5, HO5⟩
  rw [if_neg hcm] at hCD
  have HCD := Aside0.mk hCD
  have HLD : Hid ((l.drop m).length ≤ c - m) := Lib.hid (by rw [List.length_drop]; omega)
  clear hCD
  go_wp2
  go_roundg k1
  case measure => omega
  case rel => exact ⟨some (ad.add (m * 4)), c - m, l.drop m, a1, hs ++ [(⟨y0, y1, (acc.length : Int), (s.size : Int)⟩ : S80)], by rw [List.length_drop], HCD, HLD, ⟨HGN.out⟩, Lib.hid (by have := HBD.out; simp; omega), HS5, HB5, HO5⟩
set_option maxHeartbeats 6400000 in
set_option maxRecDepth 100000 in
theorem qh.calls (k : Nat) (A0 : Option Addr) (c0 : Nat) (l0 : List (S37)) (r1 : ByteArray) (r2 : Int) (w : World) (hr0 : Kd.C k37 w A0 l0.length l0) (hc0 : l0.length ≤ c0) (h : qh.f k l0 = some (r1, r2)) :
  Calls Try.prog 12 #[.slice A0 l0.length c0] w fun e w' => e = .returned (.tuple #[.string r1, .int .i64 r2]) ∧ Below w.heap.size w w' := by
 have HR0 := Aside0.mk hr0
 have HC0 := Lib.hid hc0
 clear hr0 hc0
 unfold qh.f at h
 by_cases h0 : l0.length = 0
 ·rw [if_pos (Or.inl h0)] at h
  simp only [Option.some.injEq, Prod.mk.injEq] at h
  obtain ⟨rfl, rfl⟩ := h
  have d1 : ((l0.length : Int) == 0) = true := by rw [h0]; rfl
  clear h0
  go_enter Try.func12, Try.ntmps12
  go_wp2
  go_ret2
  exact ⟨rfl, Below.refl _ _⟩
 by_cases h5 : 500 < l0.length
 ·rw [if_pos (Or.inr h5)] at h
  simp only [Option.some.injEq, Prod.mk.injEq] at h
  obtain ⟨rfl, rfl⟩ := h
  have d1 : ((l0.length : Int) == 0) = false := beq_eq_false_iff_ne.mpr r18_
  have d2 : decide (500 < (l0.length : Int)) = true := decide_eq_true r18_
  go_enter Try.func12, Try.ntmps12
  go_wp2
  go_ret2
  exact ⟨rfl, Below.refl _ _⟩
 rw [if_neg (fun e => e.elim h0 h5)] at h
 replace h := bs_ h
 obtain ⟨m, hM, h⟩ := h
 have HM := Lib.hid hM
 have HL : Hid (l0.length ≤ 500) := Lib.hid r18_
 have d1 : ((l0.length : Int) == 0) = false := beq_eq_false_iff_ne.mpr r18_
 have d2 : decide (500 < (l0.length : Int)) = false := decide_eq_false r18_
 have d3 : ¬ (500 < l0.length) := h5
 have d4 : ¬ (l0.length = 0) := h0
 clear hM h0 h5
 cases m with
 | false =>
  rw [if_neg r17_] at h
  simp only [Option.some.injEq, Prod.mk.injEq] at h
  obtain ⟨rfl, rfl⟩ := h
  go_enter Try.func12, Try.ntmps12
  go_wp2_with (fail)
  refine (qO.calls k A0 c0 l0 false _ HR0.out HC0.out HM.out).mono ?_
  rintro e x1 ⟨rfl, hb⟩
  go_wp2
  go_ret2
  exact ⟨rfl, hb⟩
 | true =>
 rw [if_pos rfl] at h
 replace h := bs_ h
 obtain ⟨⟨acc, hs, e⟩, hBK, h⟩ := h
 have HBK := Lib.hid hBK
 have HH_ := Lib.hid h
 clear hBK h
 go_enter Try.func12, Try.ntmps12
 go_wp2_with (fail)
 refine (qO.calls k A0 c0 l0 true _ HR0.out HC0.out HM.out).mono ?_
 rintro e_ x1 ⟨rfl, hb⟩
 have HB1 := Aside0.mk hb
 clear hb d1 d2 d3 d4
 go_upto_region 4 with (fail)
 obtain ⟨b, hb⟩ : ∃ b, b = x1.heap.size := ⟨_, rfl⟩
 have HS2 : Aside0 (Buf.Has w.heap.size b [] (x1.alloc (.cells #[.pointer none, .slice none 0 0] 58))) := ⟨by rw [hb]; exact Buf.B_ge (Buf.fresh x1) HB1.out.size⟩
 have HB2 : Aside0 (Below w.heap.size w (x1.alloc (.cells #[.pointer none, .slice none 0 0] 58))) := ⟨below_alloc HB1.out _⟩
 generalize (x1.alloc (.cells #[.pointer none, .slice none 0 0] 58)) = x2 at HS2 HB2 ⊢
 rw [← hb]
 clear hb HB1
 go_wp2_with (fail)
 refine (qh.blocks k b (l0.length + 1) A0 c0 l0 [] (acc, hs, e) w _ HR0.out HC0.out (by have := HL.out; omega) HB2.out HS2.out HBK.out).mono ?_
 rintro e_ x3 ⟨v0, rfl, hs3, hb3, ho3⟩
 simp only at hs3 ho3
 have HS3 := Aside0.mk hs3
 have HB3 := Aside0.mk hb3
 have HO3 := Aside0.mk ho3
 clear hs3 hb3 ho3 HS2 HB2 HBK
 have hh := HH_.out
 clear HH_
 by_cases he : e = 0
 case neg =>
  rw [if_pos he] at hh
  simp only [Option.some.injEq, Prod.mk.injEq] at hh
  obtain ⟨rfl, rfl⟩ := hh
  have d1 : (e == 0) = false := beq_eq_false_iff_ne.mpr he
  have d2 : (e != 0) = true := bne_iff_ne.mpr he
  clear he
  go_wp2
  go_ret2
  exact ⟨rfl, HB3.out⟩
 subst he
 rw [if_neg r17_] at hh
 replace hh := bs_ hh
 obtain ⟨ix, hix, hh⟩ := hh
 replace hh := bs_ hh
 obtain ⟨fl, hfl, hh⟩ := hh
 have HIX := Lib.hid hix
 have HFL := Lib.hid hfl
 clear hix hfl
 obtain ⟨si, hsi⟩ : ∃ s, Th.lb ix = s := ⟨_, rfl⟩
 rw [hsi] at hh
 have HSI := Lib.hid hsi
 clear hsi
 replace hh := bs_ hh
 obtain ⟨a1, w1, hh⟩ := hh
 replace hh := bs_ hh
 obtain ⟨a2, w2, hh⟩ := hh
 replace hh := bs_ hh
 obtain ⟨t3, q3, hh⟩ := hh
 replace hh := bs_ hh
 obtain ⟨a3, w3, hh⟩ := hh
 replace hh := bs_ hh
 obtain ⟨t4, q4, hh⟩ := hh
 replace hh := bs_ hh
 obtain ⟨a4, w4, hh⟩ := hh
 replace hh := bs_ hh
 obtain ⟨t5, q5, hh⟩ := hh
 replace hh := bs_ hh
 obtain ⟨a5, w5, hh⟩ := hh
 replace hh := bs_ hh
 obtain ⟨a6, w6, hh⟩ := hh
 simp only [Option.some.injEq, Prod.mk.injEq] at hh
 obtain ⟨rfl, rfl⟩ := hh
 have W1 := Lib.hid w1
 have W2 := Lib.hid w2
 have Q3 := Lib.hid q3
 have W3 := Lib.hid w3
 have Q4 := Lib.hid q4
 have W4 := Lib.hid w4
 have Q5 := Lib.hid q5
 have W5 := Lib.hid w5
 have W6 := Lib.hid w6
 clear w1 w2 q3 w3 q4 w4 q5 w5 w6
 obtain ⟨AO, cO, eO⟩ := Kd.R_slice HO3.out
 subst eO
 have HOR := Aside0.mk (Kd.R_reads' HO3.out)
 clear HO3
 go_wp2_with (fail)
 refine (qh.indexed k AO cO hs ix _ HOR.out.2.2 HOR.out.2.1 HIX.out).mono ?_
 rintro e_ x4 ⟨rfl, hb⟩
 rw [HSI.out]
 have HS4 := Aside0.mk (Buf.has_below HS3.out hb)
 have HB4 := Aside0.mk (below_step HB3.out hb)
 clear hb HS3 HB3 HOR
 go_wp2_with (fail)
 refine (qQ.calls k A0 c0 l0 fl _ (Kd.C_below HR0.out HB4.out) HC0.out HFL.out).mono ?_
 rintro e_ x5 ⟨rfl, hb⟩
 have HS5 := Aside0.mk (Buf.has_below HS4.out hb)
 have HB5 := Aside0.mk (below_step HB4.out hb)
 clear hb HS4 HB4
 have i0 : ∀ W, (Instr.index 68 (.agg #[.int .i64 (si.size : Int), .int .i64 (fl.size : Int), .int .i64 (l0.length : Int)]) (.int .i64 0)).run Try.prog W = .ok (.int .i64 (si.size : Int)) W := fun _ => by kernel_rfl
 have i1 : ∀ W, (Instr.index 68 (.agg #[.int .i64 (si.size : Int), .int .i64 (fl.size : Int), .int .i64 (l0.length : Int)]) (.int .i64 1)).run Try.prog W = .ok (.int .i64 (fl.size : Int)) W := fun _ => by kernel_rfl
 have i2 : ∀ W, (Instr.index 68 (.agg #[.int .i64 (si.size : Int), .int .i64 (fl.size : Int), .int .i64 (l0.length : Int)]) (.int .i64 2)).run Try.prog W = .ok (.int .i64 (l0.length : Int)) W := fun _ => by kernel_rfl
 go_wp2_with (fail)
 refine (Buf.wrote w.heap.size b acc si _ HS5.out (qh.wr_le W1.out).1).mono ?_
 rintro e_ x6 ⟨rfl, hs_, hb, hk⟩
 rw [(qh.wr_le W1.out).2] at hs_
 have HS6 := Aside0.mk hs_
 have HB6 := Aside0.mk (HB5.out.trans hb)
 clear hs_ hb hk HS5 HB5
 go_wp2_with (fail)
 refine (Buf.wrote w.heap.size b a1 fl _ HS6.out (qh.wr_le W2.out).1).mono ?_
 rintro e_ x7 ⟨rfl, hs_, hb, hk⟩
 rw [(qh.wr_le W2.out).2] at hs_
 have HS7 := Aside0.mk hs_
 have HB7 := Aside0.mk (HB6.out.trans hb)
 clear hs_ hb hk HS6 HB6
 go_wp2
 refine wp_loop_rounds 4 ?_
 rw [rounds_succ]
 go_wp2_with (fail)
 refine (qi1.calls _ t3 _ Q3.out).mono ?_
 rintro e_ x8 ⟨rfl, hb⟩
 have HS8 := Aside0.mk (Buf.has_below HS7.out hb)
 have HB8 := Aside0.mk (below_step HB7.out hb)
 clear hb HS7 HB7
 go_wp2_with (fail)
 refine (Buf.wrote w.heap.size b a2 t3 _ HS8.out (qh.wr_le W3.out).1).mono ?_
 rintro e_ x9 ⟨rfl, hs_, hb, hk⟩
 rw [(qh.wr_le W3.out).2] at hs_
 have HS9 := Aside0.mk hs_
 have HB9 := Aside0.mk (HB8.out.trans hb)
 clear hs_ hb hk HS8 HB8
 go_wp2
 rw [rounds_succ]
 go_wp2_with (fail)
 refine (qi1.calls _ t4 _ Q4.out).mono ?_
 rintro e_ x10 ⟨rfl, hb⟩
 have HS10 := Aside0.mk (Buf.has_below HS9.out hb)
 have HB10 := Aside0.mk (below_step HB9.out hb)
 clear hb HS9 HB9
 go_wp2_with (fail)
 refine (Buf.wrote w.heap.size b a3 t4 _ HS10.out (qh.wr_le W4.out).1).mono ?_
 rintro e_ x11 ⟨rfl, hs_, hb, hk⟩
 rw [(qh.wr_le W4.out).2] at hs_
 have HS11 := Aside0.mk hs_
 have HB11 := Aside0.mk (HB10.out.trans hb)
 clear hs_ hb hk HS10 HB10
 go_wp2
 rw [rounds_succ]
 go_wp2_with (fail)
 refine (qi1.calls _ t5 _ Q5.out).mono ?_
 rintro e_ x12 ⟨rfl, hb⟩
 have HS12 := Aside0.mk (Buf.has_below HS11.out hb)
 have HB12 := Aside0.mk (below_step HB11.out hb)
 clear hb HS11 HB11
 go_wp2_with (fail)
 refine (Buf.wrote w.heap.size b a4 t5 _ HS12.out (qh.wr_le W5.out).1).mono ?_
 rintro e_ x13 ⟨rfl, hs_, hb, hk⟩
 rw [(qh.wr_le W5.out).2] at hs_
 have HS13 := Aside0.mk hs_
 have HB13 := Aside0.mk (HB12.out.trans hb)
 clear hs_ hb hk HS12 HB12
 go_wp2
 rw [rounds_succ]
 go_wp2_with (fail)
 refine (Buf.wrote w.heap.size b a5 _ _ HS13.out (qh.wr_le W6.out).1).mono ?_
 rintro e_ x14 ⟨rfl, hs_, hb, hk⟩
 rw [(qh.wr_le W6.out).2] at hs_
 have HS14 := Aside0.mk hs_
 have HB14 := Aside0.mk (HB13.out.trans hb)
 clear hs_ hb hk HS13 HB13
 go_wp2_with (fail)
 refine (Buf.read w.heap.size b a6 _ HS14.out).mono ?_
 rintro e_ x9 ⟨rfl, hb⟩
 have HB99 := Aside0.mk (HB14.out.trans hb.2.1)
 clear hb
 go_wp2
 go_ret2
 exact ⟨rfl, HB99.out⟩

end Go.Proofs.Ytgdkikkjaofbfaa.P
