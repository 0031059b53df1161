-- Printed by a program of this session's own (wip/tools/pprint.sh, over the kit's print, with given contracts): not typed by hand.
import Derived.Test.YtgdkikkjaofbfaaPx0
import Derived.Test.YtgdkikkjaofbfaaPx7
import Derived.Test.YtgdkikkjaofbfaaPx8
import Derived.Test.YtgdkikkjaofbfaaPx10
import Derived.Test.YtgdkikkjaofbfaaPx11
namespace Go.Proofs.Ytgdkikkjaofbfaa.P
open Go.RowKit Go.Proofs.YtgdkikkjaofbfaaW.PrintWords Go.Proofs.YtgdkikkjaofbfaaW.PrintLast Go.Proofs.YtgdkikkjaofbfaaW.PrintMore
attribute [local go_sem] max2_int min2_int max_two min_two max_three min_three max_four min_four   -- for this text's walks alone
set_option linter.unusedVariables false
set_option linter.unusedSimpArgs false
-- SQUEEZED4
-- SQUEEZED3

/-! ### qp: function 45 -/
-- needs 70 71 65 74
def qp.at_ (k : Nat) (s : ByteArray) (n j : Int) : Option ByteArray :=
 if 0 ≤ wrap64 (qe.en s n + wrap64 (8 * j)) then (if wrap64 (qe.en s n + wrap64 (8 * j)) ≤ wrap64 (qe.en s n + wrap64 (8 * wrap64 (j + 1))) then (if wrap64 (qe.en s n + wrap64 (8 * wrap64 (j + 1))) ≤ (s.size : Int) then
  (qN.f k (s.extract (wrap64 (qe.en s n + wrap64 (8 * j))).toNat (wrap64 (qe.en s n + wrap64 (8 * wrap64 (j + 1)))).toNat)).bind fun t => if 0 ≤ t.1 then (if t.1 ≤ qe.en s n then (if qe.en s n ≤ (s.size : Int) then some (s.extract t.1.toNat (qe.en s n).toNat) else none) else none) else none else none) else none) else none
def qp.pred (k : Nat) (s key : ByteArray) (seq n j : Int) : Option Bool := (qp.at_ k s n j).bind fun r => (qe.next k r false ⟨#[]⟩).bind fun t => (qr1.f t.1.f0 t.1.f1 t.1.f2 t.1.f3 key seq).bind fun b => some (!b)
def qp.search (k : Nat) (s key : ByteArray) (seq n : Int) : Nat → Nat → Nat → Option Nat
 | 0, _, _ => none
 | q + 1, i, j => if i < j then (qp.pred k s key seq n (((i + j) / 2 : Nat) : Int)).bind fun b => if b = true then qp.search k s key seq n q i ((i + j) / 2) else qp.search k s key seq n q ((i + j) / 2 + 1) j else some i
def qp.go (k : Nat) (key : ByteArray) (seq : Int) : Nat → ByteArray → Bool → ByteArray → Option (Option (S37))
 | 0, _, _, _ => some none
 | m + 1, s, b, l => (qe.next k s b l).bind fun t => (qr1.f t.1.f0 t.1.f1 t.1.f2 t.1.f3 key seq).bind fun a => if a = true then qp.go k key seq m t.2.1 t.2.2.1 t.2.2.2 else some (some t.1)
def qp.ans : Option (S37) → ByteArray × Int × Bool × ByteArray × Bool × Int
 | none => (⟨#[]⟩, 0, false, ⟨#[]⟩, false, 0)
 | some x => (x.f0, x.f1, x.f2, x.f3, true, 0)
def qp.f (k : Nat) (s key : ByteArray) (seq : Int) : Option (ByteArray × Int × Bool × ByteArray × Bool × Int) :=
 (qe.f k s).bind fun d => if d.2 = 0 then (qk1.f k s).bind fun n => (if 1 ≤ n ∧ n ≤ 1000 then (qp.search k s key seq n 1000 0 ((n.toNat + 3) / 4)).bind fun j => if (j - 1) * 4 ≤ n.toNat ∧ j ≤ 1000 then (qp.at_ k s n ((j - 1 : Nat) : Int)).bind fun r => (qp.go k key seq (n.toNat - (j - 1) * 4) r false ⟨#[]⟩).bind fun o => some (qp.ans o) else none else none)
  else some (⟨#[]⟩, 0, false, ⟨#[]⟩, false, d.2)
theorem qp.at_mono (k : Nat) (s : ByteArray) (n j : Int) : LeO (qp.at_ k s n j) (qp.at_ (k + 1) s n j) := LeO.ite (LeO.ite (LeO.ite (LeO.bind (qN.mono _ _) (fun _ => LeO.refl _)) (LeO.refl _)) (LeO.refl _)) (LeO.refl _)
theorem qp.pred_mono (k : Nat) (s key : ByteArray) (seq n j : Int) : LeO (qp.pred k s key seq n j) (qp.pred (k + 1) s key seq n j) := LeO.bind (qp.at_mono _ _ _ _) (fun _ => LeO.bind (qe.next_mono _ _ _ _) (fun _ => LeO.refl _))
theorem qp.search_mono (k : Nat) (s key : ByteArray) (seq n : Int) : ∀ q i j, LeO (qp.search k s key seq n q i j) (qp.search (k + 1) s key seq n q i j)
 | 0, _, _ => LeO.refl _
 | q + 1, i, j => LeO.ite (LeO.bind (qp.pred_mono _ _ _ _ _ _) (fun _ => LeO.ite (qp.search_mono k s key seq n q _ _) (qp.search_mono k s key seq n q _ _))) (LeO.refl _)
theorem qp.go_mono (k : Nat) (key : ByteArray) (seq : Int) : ∀ m s b l, LeO (qp.go k key seq m s b l) (qp.go (k + 1) key seq m s b l)
 | 0, _, _, _ => LeO.refl _
 | m + 1, s, b, l => LeO.bind (qe.next_mono _ _ _ _) (fun _ => LeO.bind (LeO.refl _) (fun _ => LeO.ite (qp.go_mono k key seq m _ _ _) (LeO.refl _)))
theorem qp.mono : ∀ a0 a1 a2 k, LeO (qp.f k a0 a1 a2) (qp.f (k + 1) a0 a1 a2) := fun a0 a1 a2 k => LeO.bind (qe.mono _ _) (fun _ => LeO.ite (LeO.bind (qk1.mono _ _) (fun _ => LeO.ite (LeO.bind (qp.search_mono _ _ _ _ _ _ _ _) (fun _ => LeO.ite (LeO.bind (qp.at_mono _ _ _ _) (fun _ => LeO.bind (qp.go_mono _ _ _ _ _ _ _) (fun _ => LeO.refl _))) (LeO.refl _))) (LeO.refl _))) (LeO.refl _))
set_option maxHeartbeats 1600000 in
set_option maxRecDepth 100000 in
theorem qp.atC (k : Nat) (s r : ByteArray) (n j : Int) (w : World) (h : qp.at_ k s n j = some r) :
  Calls Try.prog 75 #[.string s, .int .i64 n, .int .i64 j] w fun e w' => ∃ g, e = .returned (.pointer (some ⟨g, 0, none⟩)) ∧ w.heap.size ≤ g ∧ qe.RS w' g r false ⟨#[]⟩ ∧ Below w.heap.size w w' := by
 unfold qp.at_ at h
 by_cases h1 : 0 ≤ wrap64 (qe.en s n + wrap64 (8 * j))
 case neg => rw [if_neg h1] at h; exact absurd h r17_
 rw [if_pos h1] at h
 by_cases h2 : wrap64 (qe.en s n + wrap64 (8 * j)) ≤ wrap64 (qe.en s n + wrap64 (8 * wrap64 (j + 1)))
 case neg => rw [if_neg h2] at h; exact absurd h r17_
 rw [if_pos h2] at h
 by_cases h3 : wrap64 (qe.en s n + wrap64 (8 * wrap64 (j + 1))) ≤ (s.size : Int)
 case neg => rw [if_neg h3] at h; exact absurd h r17_
 rw [if_pos h3] at h
 replace h := bs_ h
 obtain ⟨⟨t, tb⟩, hu, h⟩ := h
 dsimp only at h
 by_cases h4 : 0 ≤ t
 case neg => rw [if_neg h4] at h; exact absurd h r17_
 rw [if_pos h4] at h
 by_cases h5 : t ≤ qe.en s n
 case neg => rw [if_neg h5] at h; exact absurd h r17_
 rw [if_pos h5] at h
 by_cases h6 : qe.en s n ≤ (s.size : Int)
 case neg => rw [if_neg h6] at h; exact absurd h r17_
 rw [if_pos h6] at h
 simp only [Option.some.injEq] at h
 subst h
 have HU := Lib.hid hu
 clear hu
 have hen : wrap64 ((s.size : Int) - wrap64 (8 * wrap64 (wrap64 ((wrap64 (wrap64 (n + 4) - 1)).tdiv 4) + 1))) = qe.en s n := rfl
 have HEN := Lib.hid hen
 generalize hz : qe.en s n = en at h1 h2 h3 h5 h6 HU hen HEN
 have t1_ : (0 ≤ wrap64 (en + wrap64 (8 * j))) = True := eq_true h1
 have t2_ : (wrap64 (en + wrap64 (8 * j)) ≤ wrap64 (en + wrap64 (8 * wrap64 (j + 1)))) = True := eq_true h2
 have t3_ : (wrap64 (en + wrap64 (8 * wrap64 (j + 1))) ≤ (s.size : Int)) = True := eq_true h3
 have t4_ : (0 ≤ t) = True := eq_true h4
 have t5_ : (t ≤ en) = True := eq_true h5
 have t6_ : (en ≤ (s.size : Int)) = True := eq_true h6
 clear h1 h2 h3 h4 h5 h6 hen
 go_enter Try.func75, Try.ntmps75
 go_upto_region 3 with (fail)
 rw [HEN.out]
 go_wp2_with (fail)
 refine (qN.calls k _ t tb _ HU.out).mono ?_
 rintro e w' ⟨rfl, ⟨nd, rfl⟩⟩
 have HB0 : Aside0 (Below w.heap.size w (w.drewN nd)) := ⟨pw_below_drewN (Below.refl _ _) nd⟩
 have HS0 : Hid (w.heap.size ≤ (w.drewN nd).heap.size) := Lib.hid HB0.out.size
 generalize w.drewN nd = w1 at HB0 HS0 ⊢
 go_wp2
 go_ret
 exact ⟨_, rfl, HS0.out, blk_new _ _, below_alloc HB0.out _⟩
/-- The four boxes that Seek's predicate sees. -/
structure qp.Bx (w : World) (p q u v : Nat) (s : ByteArray) (n : Int) (key : ByteArray) (seq : Int) : Prop where
 b0 : w.heap[p]? = some (.cells #[.string s] 9 (0, 0))
 b1 : w.heap[q]? = some (.cells #[.int .i64 n] 3 (0, 0))
 b2 : w.heap[u]? = some (.cells #[.string key] 9 (0, 0))
 b3 : w.heap[v]? = some (.cells #[.int .u64 seq] 29 (0, 0))
theorem qp.Bx.below {w w' : World} {p q u v : Nat} {s : ByteArray} {n : Int} {key : ByteArray} {seq : Int} (h : qp.Bx w p q u v s n key seq) (hb : Below w.heap.size w w') : qp.Bx w' p q u v s n key seq := ⟨blk_below h.b0 hb, blk_below h.b1 hb, blk_below h.b2 hb, blk_below h.b3 hb⟩
theorem qp.Bx.held {w : World} {p q u v : Nat} {s : ByteArray} {n : Int} {key : ByteArray} {seq : Int} (h : qp.Bx w p q u v s n key seq) : w.cell? ⟨p, 0, none⟩ = some (.string s) ∧ w.cell? ⟨q, 0, none⟩ = some (.int .i64 n) ∧ w.cell? ⟨u, 0, none⟩ = some (.string key) ∧ w.cell? ⟨v, 0, none⟩ = some (.int .u64 seq) :=
 ⟨(blk_cell h.b0 0).trans rfl, (blk_cell h.b1 0).trans rfl, (blk_cell h.b2 0).trans rfl, (blk_cell h.b3 0).trans rfl⟩
set_option maxHeartbeats 1600000 in
set_option maxRecDepth 100000 in
theorem qp.predC (k : Nat) (p q u v : Nat) (s key : ByteArray) (seq n j : Int) (b : Bool) (w : World) (hx : qp.Bx w p q u v s n key seq) (h : qp.pred k s key seq n j = some b) :
  Calls Try.prog 73 #[.int .i64 j, .pointer (some ⟨p, 0, none⟩), .pointer (some ⟨q, 0, none⟩), .pointer (some ⟨u, 0, none⟩), .pointer (some ⟨v, 0, none⟩)] w fun e w' => e = .returned (.bool b) ∧ Below w.heap.size w w' := by
 unfold qp.pred at h
 replace h := bs_ h
 obtain ⟨r, hat, h⟩ := h
 replace h := bs_ h
 obtain ⟨⟨x, s1, b1, l1⟩, hnx, h⟩ := h
 replace h := bs_ h
 obtain ⟨a, hah, h⟩ := h
 simp only [Option.some.injEq] at h
 subst h
 have HAT := Lib.hid hat
 have HNX := Lib.hid hnx
 have HAH := Lib.hid hah
 have BXa := Aside0.mk hx
 clear hat hnx hah hx
 go_enter Try.func73, Try.ntmps73
 go_wp2_with (fail)
 refine start_ (n := 10) (S := fun w' => w'.cell? ⟨p, 0, none⟩ = some (.string s) ∧ w'.cell? ⟨q, 0, none⟩ = some (.int .i64 n) ∧ w'.cell? ⟨u, 0, none⟩ = some (.string key) ∧ w'.cell? ⟨v, 0, none⟩ = some (.int .u64 seq)) (ds := []) #[N,N,N,N,N,N,N,N,N,N] r2_ rfl rfl BXa.out.held (fun hHeld => ?_)
 have HB1 : Aside0 (Below w.heap.size w w.drew) := ⟨below_drew (Below.refl _ _)⟩
 have BX1 : Aside0 (qp.Bx w.drew p q u v s n key seq) := ⟨BXa.out.below HB1.out⟩
 clear BXa
 generalize hw1 : w.drew = w1 at HB1 BX1 hHeld ⊢
 clear hw1
 refine tk_ (v := ?_) 0 (some 7) #[Y,N,N,N,N,N,N,N,N,N] r2_ hHeld ?_ ?_
 rotate_left
 ·rintro w' ⟨s0, s1, s2, s3⟩
  go_simp
  with_reducible rfl
 refine tk_ (v := ?_) 1 (some 8) #[Y,Y,N,N,N,N,N,N,N,N] r2_ hHeld ?_ ?_
 rotate_left
 ·rintro w' ⟨s0, s1, s2, s3⟩
  go_simp
  with_reducible rfl
 refine pu_ 2 (some 9) #[Y,Y,Y,N,N,N,N,N,N,N] r2_ ?_
 refine tk_ (v := ?_) 5 (some 12) #[Y,Y,Y,N,N,Y,N,N,N,N] r2_ hHeld ?_ ?_
 rotate_left
 ·rintro w' ⟨s0, s1, s2, s3⟩
  go_simp
  with_reducible rfl
 refine tk_ (v := ?_) 6 (some 13) #[Y,Y,Y,N,N,Y,Y,N,N,N] r2_ hHeld ?_ ?_
 rotate_left
 ·rintro w' ⟨s0, s1, s2, s3⟩
  go_simp
  with_reducible rfl
 refine one_ (i := 3) (N := some 10) #[Y,Y,Y,Y,N,Y,Y,N,N,N] rfl rfl r2_ r24_ (fun K hK => ?_)
 refine goes_ Try.func75 r2_ rfl #[.string s, .int .i64 n, .int .i64 j] r37_ rfl rfl r9_ ?_
 refine (qp.atC k s r n j _ HAT.out).mono ?_
 rintro e w2 ⟨g, rfl, hg, hrs, hb⟩
 refine ⟨_, rfl, ?_⟩
 have BX2 := Aside0.mk (BX1.out.below hb)
 have HG : Hid (w.heap.size ≤ g) := Lib.hid (Nat.le_trans HB1.out.size hg)
 have HB2 := Aside0.mk (below_step HB1.out hb)
 have HS2 := Aside0.mk hrs
 have HGL : Hid (∀ x : Nat, x < w1.heap.size → x ≠ g) := Lib.hid (fun x hx e => by omega)
 have HV2 : Hid (p ≠ g ∧ q ≠ g ∧ u ≠ g ∧ v ≠ g) := Lib.hid ⟨HGL.out p (blk_lt BX1.out.b0), HGL.out q (blk_lt BX1.out.b1), HGL.out u (blk_lt BX1.out.b2), HGL.out v (blk_lt BX1.out.b3)⟩
 clear hg hrs hb HB1 BX1 HGL
 refine hK.out _ _ (BX2.out.held) (fun hHeld => ?_)
 clear hK K
 refine nm_ (some 10) ?_
 refine one_ (i := 4) (N := some 11) #[Y,Y,Y,Y,Y,Y,Y,N,N,N] rfl rfl r2_ r24_ (fun K hK => ?_)
 refine goes_ Try.func76 r2_ rfl #[.pointer (some ⟨g, 0, none⟩)] r37_ rfl rfl r9_ ?_
 refine (qe.nexC k g r s1 ⟨#[]⟩ l1 false b1 x _ HS2.out HNX.out).mono ?_
 rintro e w3 ⟨rfl, hs, hm⟩
 refine ⟨_, rfl, ?_⟩
 have BX3 : Aside0 (qp.Bx w3 p q u v s n key seq) := ⟨⟨hm.blk BX2.out.b0 HV2.out.1, hm.blk BX2.out.b1 HV2.out.2.1, hm.blk BX2.out.b2 HV2.out.2.2.1, hm.blk BX2.out.b3 HV2.out.2.2.2⟩⟩
 have HB3 := Aside0.mk (HB2.out.trans (hm.bel w.heap.size HG.out HB2.out.size))
 clear hs hm HB2 BX2 HS2 HV2 HG
 refine hK.out _ _ (BX3.out.held) (fun hHeld => ?_)
 clear hK K
 refine nm_ (some 11) ?_
 refine one_ (i := 7) (N := some 14) #[Y,Y,Y,Y,Y,Y,Y,Y,N,N] rfl rfl r2_ r24_ (fun K hK => ?_)
 refine goes_ Try.func74 r2_ rfl #[.agg #[.string x.f0, .int .u64 x.f1, .bool x.f2, .string x.f3], .string key, .int .u64 seq] r37_ rfl rfl r9_ ?_
 refine (qr1.calls x.f0 x.f1 x.f2 x.f3 key seq a _ HAH.out).mono ?_
 rintro e w4 ⟨rfl, hb⟩
 refine ⟨_, rfl, ?_⟩
 have BX4 := Aside0.mk (BX3.out.below hb)
 have HB4 := Aside0.mk (below_step HB3.out hb)
 clear hb HB3 BX3
 refine hK.out _ _ (BX4.out.held) (fun hHeld => ?_)
 clear hK K
 refine nm_ (some 14) ?_
 refine pu_ 8 (some 15) #[Y,Y,Y,Y,Y,Y,Y,Y,Y,N] r2_ ?_
 refine pu_ 9 (some 6) #[Y,Y,Y,Y,Y,Y,Y,Y,Y,Y] r2_ ?_
 refine done_ r2_ ?_
 (try clear hHeld)
 clear hHeld
 go_wp2
 go_ret
 exact ⟨rfl, HB4.out⟩
set_option maxHeartbeats 1600000 in
set_option maxRecDepth 100000 in
theorem qp.searC (k : Nat) (p q u v : Nat) (s key : ByteArray) (seq n : Int) (m r : Nat) (w : World) (hx : qp.Bx w p q u v s n key seq) (hm : m ≤ 1000) (h : qp.search k s key seq n 1000 0 m = some r) :
  Calls Try.prog 72 #[.int .i64 (m : Int), .func (.func 73) #[] #[.pointer (some ⟨p, 0, none⟩), .pointer (some ⟨q, 0, none⟩), .pointer (some ⟨u, 0, none⟩), .pointer (some ⟨v, 0, none⟩)]] w fun e w' => e = .returned (.int .i64 (r : Int)) ∧ Below w.heap.size w w' := by
 have HH := Lib.hid h
 have BX_ := Aside0.mk hx
 clear h hx
 have HB_ : Aside0 (Below w.heap.size w w) := ⟨Below.refl _ _⟩
 go_enter Try.func72, Try.ntmps72
 go_wp2_with (fail)
 go_loopg [5, 6] m (fun kq v5 v6 w' => ∃ (i j fu : Nat), v5 = .int .i64 (i : Int) ∧ v6 = .int .i64 (j : Int) ∧ Aside0 (i ≤ j) ∧ Aside0 (j ≤ m) ∧ Aside0 (kq = j - i) ∧ Aside0 (qp.search k s key seq n fu i j = some r) ∧ Aside0 (qp.Bx w' p q u v s n key seq) ∧ Aside0 (Below w.heap.size w w'))
 case atStart => exact ⟨0, m, 1000, rfl, rfl, ⟨Nat.zero_le _⟩, ⟨Nat.le_refl _⟩, ⟨rfl⟩, ⟨HH.out⟩, BX_, HB_⟩
 case round =>
  clear BX_ HB_ HH
  obtain ⟨i, j, fu, rfl, rfl, HIJ, HJM, HK, HSR, BX0, HB0⟩ := hrel
  have hsr := HSR.out
  clear HSR
  cases fu with
  | zero => exact absurd hsr (by simp [qp.search])
  | succ fu =>
   unfold qp.search at hsr
   by_cases hlt : i < j
   rotate_left
   ·rw [if_neg hlt] at hsr
    simp only [Option.some.injEq] at hsr
    subst hsr
    have hil : ¬ (i : Int) < (j : Int) := by omega
    go_wp2
    go_ret
    exact ⟨rfl, HB0.out⟩
   rw [if_pos hlt] at hsr
   replace hsr := bs_ hsr
   obtain ⟨b, hp, hsr⟩ := hsr
   have HP := Lib.hid hp
   have HSR := Lib.hid hsr
   clear hp hsr
   have hj : j ≤ 1000 := by have := HJM.out; omega
   have hil : (i : Int) < (j : Int) := by omega
   obtain ⟨c, hc⟩ : ∃ c, (i + j) / 2 = c := ⟨_, rfl⟩
   have hc1 : i ≤ c := by omega
   have hc2 : c < j := by omega
   rw [hc] at HP HSR
   have HC := Lib.hid hc
   clear hc
   go_wp2_with (fail)
   rw [show (((i : Int) + (j : Int)) / 2) = (c : Int) from by have := HC.out; omega]
   refine (qp.predC k p q u v s key seq n c b _ BX0.out HP.out).mono ?_
   rintro e x1 ⟨rfl, hb⟩
   have BX1 := Aside0.mk (BX0.out.below hb)
   have HB1 := Aside0.mk (below_step HB0.out hb)
   clear hb BX0 HB0 HP
   cases b with
   | true =>
    have HS : Hid (qp.search k s key seq n fu i c = some r) := Lib.hid (by have := HSR.out; rwa [if_pos rfl] at this)
    clear HSR
    go_wp2
    go_roundg (c - i)
    case measure => have := HK.out; omega
    case rel => exact ⟨i, c, fu, rfl, rfl, ⟨hc1⟩, ⟨by have := HJM.out; omega⟩, ⟨rfl⟩, ⟨HS.out⟩, BX1, HB1⟩
   | false =>
    have HS : Hid (qp.search k s key seq n fu (c + 1) j = some r) := Lib.hid (by have := HSR.out; rwa [if_neg r24_] at this)
    clear HSR
    go_wp2
    go_roundg (j - (c + 1))
    case measure => have := HK.out; omega
    case rel => exact ⟨c + 1, j, fu, by go_num, rfl, ⟨r18_⟩, ⟨by have := HJM.out; omega⟩, ⟨rfl⟩, ⟨HS.out⟩, BX1, HB1⟩
theorem qp.Z4 {w : World} {rr : Nat} (h : w.heap[rr]? = some (.cells #[.string ⟨#[]⟩, .int .u64 0, .bool false, .string ⟨#[]⟩] 37 (0, 0))) (a b c d : Value) : ((((w.setCell ⟨rr, 0, none⟩ a).setCell ⟨rr, 1, none⟩ b).setCell ⟨rr, 2, none⟩ c).setCell ⟨rr, 3, none⟩ d).heap[rr]? = some (.cells #[a, b, c, d] 37 (0, 0)) :=
 blk_put (cs' := #[a, b, c, d]) (blk_put (cs' := #[a, b, c, .string ⟨#[]⟩]) (blk_put (cs' := #[a, b, .bool false, .string ⟨#[]⟩]) (blk_put (cs' := #[a, .int .u64 0, .bool false, .string ⟨#[]⟩]) h 0 a rfl) 1 b rfl) 2 c rfl) 3 d rfl
theorem qp.B4 {w0 w : World} {B rr : Nat} (h : Below B w0 w) (hr : B ≤ rr) (a b c d : Value) : Below B w0 ((((w.setCell ⟨rr, 0, none⟩ a).setCell ⟨rr, 1, none⟩ b).setCell ⟨rr, 2, none⟩ c).setCell ⟨rr, 3, none⟩ d) :=
 (((h.setCell (p := ⟨rr, 0, none⟩) hr a).setCell (p := ⟨rr, 1, none⟩) hr b).setCell (p := ⟨rr, 2, none⟩) hr c).setCell (p := ⟨rr, 3, none⟩) hr d
set_option maxHeartbeats 3200000 in
set_option maxRecDepth 100000 in
theorem qp.calls (k : Nat) (a0 : ByteArray) (a1 : ByteArray) (a2 : Int) (r1 : ByteArray) (r2 : Int) (r3 : Bool) (r4 : ByteArray) (r5 : Bool) (r6 : Int) (w : World) (h : qp.f k a0 a1 a2 = some (r1, r2, r3, r4, r5, r6)) :
  Calls Try.prog 45 #[.string a0, .string a1, .int .u64 a2] w fun e w' => e = .returned (.tuple #[.agg #[.string r1, .int .u64 r2, .bool r3, .string r4], .bool r5, .int .i64 r6]) ∧ Below w.heap.size w w' := by
 have hu_ := Try.underlying37
 have hmf : ∀ (fn : Fn) (first cap : Array Value) (w : World), (Instr.makeFunc fn first cap).run Try.prog w = .ok (.func fn first cap) w := fun _ _ _ _ => rfl
 have hfin : ∀ (tmps : Array Value) (W : World) (g : Nat) (cs : Array Value) (hp : tmps.getD 6 undef = .pointer (some ⟨g, 0, none⟩)) (hg : W.heap[g]? = some (.cells cs 37 (0, 0))) (hs : cs.size = 4), (results Try.f45 tmps).run Try.prog W = .ok (.tuple #[.agg cs, tmps.getD 7 undef, tmps.getD 8 undef]) W :=
  fun tmps W g cs hp hg hs => results_ctt rfl tmps W g _ cs (0, 0) _ hp hg hu_ rfl (by rw [hs]; kernel_rfl)
 have HFIN := Lib.hid hfin
 have HH := Lib.hid h
 clear hfin h
 have BV : Aside0 (((((w.alloc (.cells #[.string a0] 9)).alloc (.cells #[.string a1] 9)).alloc (.cells #[.int .u64 a2] 29)).alloc (.cells #[.string ⟨#[]⟩, .int .u64 0, .bool false, .string ⟨#[]⟩] 37)).heap[w.heap.size + 1 + 1]? = some (.cells #[.int .u64 a2] 29 (0, 0))) := ⟨blk_alloc (by have := blk_new ((w.alloc (.cells #[.string a0] 9)).alloc (.cells #[.string a1] 9)) (.cells #[.int .u64 a2] 29); rwa [World.size_alloc, World.size_alloc] at this) _⟩
 have BU : Aside0 (((((w.alloc (.cells #[.string a0] 9)).alloc (.cells #[.string a1] 9)).alloc (.cells #[.int .u64 a2] 29)).alloc (.cells #[.string ⟨#[]⟩, .int .u64 0, .bool false, .string ⟨#[]⟩] 37)).heap[w.heap.size + 1]? = some (.cells #[.string a1] 9 (0, 0))) := ⟨blk_alloc (blk_alloc (by have := blk_new (w.alloc (.cells #[.string a0] 9)) (.cells #[.string a1] 9); rwa [World.size_alloc] at this) _) _⟩
 have BP : Aside0 (((((w.alloc (.cells #[.string a0] 9)).alloc (.cells #[.string a1] 9)).alloc (.cells #[.int .u64 a2] 29)).alloc (.cells #[.string ⟨#[]⟩, .int .u64 0, .bool false, .string ⟨#[]⟩] 37)).heap[w.heap.size]? = some (.cells #[.string a0] 9 (0, 0))) := ⟨blk_alloc (blk_alloc (blk_alloc (blk_new _ _) _) _) _⟩
 have BR : Aside0 (((((w.alloc (.cells #[.string a0] 9)).alloc (.cells #[.string a1] 9)).alloc (.cells #[.int .u64 a2] 29)).alloc (.cells #[.string ⟨#[]⟩, .int .u64 0, .bool false, .string ⟨#[]⟩] 37)).heap[w.heap.size + 1 + 1 + 1]? = some (.cells #[.string ⟨#[]⟩, .int .u64 0, .bool false, .string ⟨#[]⟩] 37 (0, 0))) := ⟨by have := blk_new (((w.alloc (.cells #[.string a0] 9)).alloc (.cells #[.string a1] 9)).alloc (.cells #[.int .u64 a2] 29)) (.cells #[.string ⟨#[]⟩, .int .u64 0, .bool false, .string ⟨#[]⟩] 37); rwa [World.size_alloc, World.size_alloc, World.size_alloc] at this⟩
 have HB : Aside0 (Below w.heap.size w ((((w.alloc (.cells #[.string a0] 9)).alloc (.cells #[.string a1] 9)).alloc (.cells #[.int .u64 a2] 29)).alloc (.cells #[.string ⟨#[]⟩, .int .u64 0, .bool false, .string ⟨#[]⟩] 37))) := ⟨below_alloc (below_alloc (below_alloc (below_alloc (Below.refl _ _) _) _) _) _⟩
 go_enter Try.func45, Try.ntmps45
 go_upto_region 1 with (fail)
 generalize ((((w.alloc (.cells #[.string a0] 9)).alloc (.cells #[.string a1] 9)).alloc (.cells #[.int .u64 a2] 29)).alloc (.cells #[.string ⟨#[]⟩, .int .u64 0, .bool false, .string ⟨#[]⟩] 37)) = W1 at BV BU BP BR HB ⊢
 obtain ⟨p, hp⟩ : ∃ g, w.heap.size = g := ⟨_, rfl⟩
 obtain ⟨u, hu⟩ : ∃ g, w.heap.size + 1 = g := ⟨_, rfl⟩
 obtain ⟨v, hv⟩ : ∃ g, w.heap.size + 1 + 1 = g := ⟨_, rfl⟩
 obtain ⟨rr, hr⟩ : ∃ g, w.heap.size + 1 + 1 + 1 = g := ⟨_, rfl⟩
 have HG : Hid (w.heap.size ≤ p ∧ w.heap.size ≤ rr ∧ p ≠ rr ∧ u ≠ rr ∧ v ≠ rr) := Lib.hid ⟨r18_, r18_, r18_, r18_, r18_⟩
 rw [hr] at BR
 rw [hv] at BV
 rw [hu] at BU
 rw [hp] at BP
 rw [hr, hv, hu, hp]
 clear hr hv hu hp
 have hh := HH.out
 clear HH
 unfold qp.f at hh
 replace hh := bs_ hh
 obtain ⟨⟨d1, d2⟩, hd, hh⟩ := hh
 have HD := Lib.hid hd
 clear hd
 dsimp only at hh
 have c_ : W1.cell? ⟨p, 0, none⟩ = some (.string a0) := (blk_cell BP.out 0).trans rfl
 go_wp2_with (fail)
 clear c_
 refine (qe.calls k a0 d1 d2 _ HD.out).mono ?_
 rintro e x1 ⟨v0, rfl, hR, hb⟩
 obtain ⟨A, cA, eA⟩ := Kd.R_slice hR
 subst eA
 have BP1 := Aside0.mk (blk_below BP.out hb)
 have BU1 := Aside0.mk (blk_below BU.out hb)
 have BV1 := Aside0.mk (blk_below BV.out hb)
 have BR1 := Aside0.mk (blk_below BR.out hb)
 have HB1 := Aside0.mk (below_step HB.out hb)
 clear hR hb BP BU BV BR HB
 by_cases hz : d2 = 0
 case neg =>
  rw [if_neg hz] at hh
  have e1_ : (d2 == 0) = false := beq_eq_false_iff_ne.mpr hz
  have e2_ : (d2 != 0) = true := bne_iff_ne.mpr hz
  clear hz
  simp only [Option.some.injEq, Prod.mk.injEq] at hh
  obtain ⟨rfl, rfl, rfl, rfl, rfl, rfl⟩ := hh
  have z0_ : x1.cell? ⟨rr, 0, none⟩ = some (.string ⟨#[]⟩) := (blk_cell BR1.out 0).trans rfl
  have z1_ : x1.cell? ⟨rr, 1, none⟩ = some (.int .u64 0) := (blk_cell BR1.out 1).trans rfl
  have z2_ : x1.cell? ⟨rr, 2, none⟩ = some (.bool false) := (blk_cell BR1.out 2).trans rfl
  have z3_ : x1.cell? ⟨rr, 3, none⟩ = some (.string ⟨#[]⟩) := (blk_cell BR1.out 3).trans rfl
  have y0_ := blk_frozen BR1.out 0
  have y1_ := blk_frozen BR1.out 1
  have y2_ := blk_frozen BR1.out 2
  have y3_ := blk_frozen BR1.out 3
  go_wp2
  exact bodyPost_ret (HFIN.out _ _ rr #[.string ⟨#[]⟩, .int .u64 0, .bool false, .string ⟨#[]⟩] rfl (qp.Z4 BR1.out _ _ _ _) rfl) rfl ⟨rfl, qp.B4 HB1.out HG.out.2.1 _ _ _ _⟩
 rw [if_pos hz] at hh
 subst hz
 replace hh := bs_ hh
 obtain ⟨n0, hcnt, hh⟩ := hh
 have HCNT := Lib.hid hcnt
 clear hcnt
 by_cases hn : 1 ≤ n0 ∧ n0 ≤ 1000
 case neg => rw [if_neg hn] at hh; exact absurd hh r17_
 rw [if_pos hn] at hh
 obtain ⟨n, rfl⟩ := Int.eq_ofNat_of_zero_le (show 0 ≤ n0 by omega)
 rw [Int.toNat_natCast] at hh
 have hn1 : 1 ≤ n := by have := hn.1; omega
 have hn2 : n ≤ 1000 := by have := hn.2; omega
 clear hn
 replace hh := bs_ hh
 obtain ⟨j, hsr, hh⟩ := hh
 have HSR := Lib.hid hsr
 clear hsr
 by_cases hj : (j - 1) * 4 ≤ n ∧ j ≤ 1000
 case neg => rw [if_neg hj] at hh; exact absurd hh r17_
 rw [if_pos hj] at hh
 replace hh := bs_ hh
 obtain ⟨r, hat, hh⟩ := hh
 replace hh := bs_ hh
 obtain ⟨o, hgo, hh⟩ := hh
 have HAT := Lib.hid hat
 have HGO := Lib.hid hgo
 have HO : Hid (qp.ans o = (r1, r2, r3, r4, r5, r6)) := Lib.hid (by simpa using hh)
 have HJ := Lib.hid hj
 clear hat hgo hh hj
 have c_ : x1.cell? ⟨p, 0, none⟩ = some (.string a0) := (blk_cell BP1.out 0).trans rfl
 go_wp2_with (fail)
 clear c_
 refine (qk1.calls k a0 n _ HCNT.out).mono ?_
 rintro e w' ⟨rfl, ⟨nd, rfl⟩⟩
 have BP2 : Aside0 ((x1.drewN nd).heap[p]? = _) := ⟨BP1.out⟩
 have BU2 : Aside0 ((x1.drewN nd).heap[u]? = _) := ⟨BU1.out⟩
 have BV2 : Aside0 ((x1.drewN nd).heap[v]? = _) := ⟨BV1.out⟩
 have BR2 : Aside0 ((x1.drewN nd).heap[rr]? = _) := ⟨BR1.out⟩
 have HB2 : Aside0 (Below w.heap.size w (x1.drewN nd)) := ⟨pw_below_drewN HB1.out nd⟩
 clear BP1 BU1 BV1 BR1 HB1
 generalize x1.drewN nd = x2 at BP2 BU2 BV2 BR2 HB2 ⊢
 go_upto_region 5 with (fail)
 have BX3 : Aside0 (qp.Bx (x2.alloc (.cells #[.int .i64 (n : Int)] 3)) p x2.heap.size u v a0 n a1 a2) := ⟨⟨blk_alloc BP2.out _, blk_new _ _, blk_alloc BU2.out _, blk_alloc BV2.out _⟩⟩
 have BR3 := Aside0.mk (blk_alloc BR2.out (.cells #[.int .i64 (n : Int)] 3))
 have HB3 := Aside0.mk (below_alloc HB2.out (.cells #[.int .i64 (n : Int)] 3))
 have HQ : Hid (x2.heap.size ≠ rr) := Lib.hid (by have := blk_lt BR2.out; omega)
 clear BP2 BU2 BV2 BR2 HB2
 generalize (x2.alloc (.cells #[.int .i64 (n : Int)] 3)) = x3 at BX3 BR3 HB3 ⊢
 obtain ⟨q, hq⟩ : ∃ g, x2.heap.size = g := ⟨_, rfl⟩
 rw [hq] at BX3 HQ ⊢
 clear hq
 have c_ : x3.cell? ⟨q, 0, none⟩ = some (.int .i64 (n : Int)) := (blk_cell BX3.out.b1 0).trans rfl
 go_wp2_with (fail)
 clear c_
 obtain ⟨m, hm⟩ : ∃ m, (n + 3) / 4 = m := ⟨_, rfl⟩
 have hm2 : m ≤ 1000 := by omega
 rw [show ((n : Int) + 4 - 1) / 4 = (m : Int) by omega]
 rw [hm] at HSR
 refine (qp.searC k p q u v a0 a1 a2 n m j _ BX3.out hm2 HSR.out).mono ?_
 rintro e x4 ⟨rfl, hb⟩
 have BX4 := Aside0.mk (BX3.out.below hb)
 have BR4 := Aside0.mk (blk_below BR3.out hb)
 have HB4 := Aside0.mk (below_step HB3.out hb)
 clear hb BX3 BR3 HB3 hm
 have hj2 : j ≤ 1000 := HJ.out.2
 obtain ⟨c, hc⟩ : ∃ c, j - 1 = c := ⟨_, rfl⟩
 have HC := Lib.hid hc
 rw [hc] at HAT HGO HJ
 clear hc
 by_cases hj1 : 1 ≤ j
 ·have hmx_ : ((j : Int) - 1 < 0) = False := eq_false r18_
  have c0_ : x4.cell? ⟨p, 0, none⟩ = some (.string a0) := (blk_cell BX4.out.b0 0).trans rfl
  have c1_ : x4.cell? ⟨q, 0, none⟩ = some (.int .i64 (n : Int)) := (blk_cell BX4.out.b1 0).trans rfl
  go_wp2_with (fail)
  clear hmx_
  clear c0_ c1_
  rw [show ((j : Int) - 1) = (c : Int) by have := HC.out; omega]
  refine (qp.atC k a0 r n c _ HAT.out).mono ?_
  rintro e x5 ⟨g, rfl, hgx, hrs, hb⟩
  have HGG : Hid (w.heap.size ≤ g ∧ rr ≠ g ∧ p ≠ g ∧ q ≠ g ∧ u ≠ g ∧ v ≠ g) := Lib.hid ⟨Nat.le_trans HB4.out.size hgx, Nat.ne_of_lt (Nat.lt_of_lt_of_le (blk_lt BR4.out) hgx), Nat.ne_of_lt (Nat.lt_of_lt_of_le (blk_lt BX4.out.b0) hgx), Nat.ne_of_lt (Nat.lt_of_lt_of_le (blk_lt BX4.out.b1) hgx), Nat.ne_of_lt (Nat.lt_of_lt_of_le (blk_lt BX4.out.b2) hgx), Nat.ne_of_lt (Nat.lt_of_lt_of_le (blk_lt BX4.out.b3) hgx)⟩
  have BX5 := Aside0.mk (BX4.out.below hb)
  have BR5 := Aside0.mk (blk_below BR4.out hb)
  have HB5 := Aside0.mk (below_step HB4.out hb)
  have HS5 := Aside0.mk hrs
  clear hb hrs hgx BX4 BR4 HB4
  have c1_ : x5.cell? ⟨q, 0, none⟩ = some (.int .i64 (n : Int)) := (blk_cell BX5.out.b1 0).trans rfl
  have hc1_ : c * 4 ≤ n := HJ.out.1
  have hc2_ : c ≤ 1000 := by omega
  go_wp2_with (fail)
  clear c1_
  obtain ⟨N, hN⟩ : ∃ N, n - c * 4 = N := ⟨_, rfl⟩
  rw [hN] at HGO
  rw [show ((n : Int) - (c : Int) * 4) = (N : Int) by omega]
  have hN1 : N ≤ 1000 := by omega
  clear hN hc1_ hc2_
  go_loopg [44] N (fun kq v44 w' => ∃ (i : Nat) (s : ByteArray) (b : Bool) (l : ByteArray), v44 = .int .i64 (i : Int) ∧ Aside0 (kq + i = N) ∧ Aside0 (qp.go k a1 a2 (N - i) s b l = some o) ∧ Aside0 (qp.Bx w' p q u v a0 n a1 a2) ∧ Aside0 (qe.RS w' g s b l) ∧ Aside0 (w'.heap[rr]? = some (.cells #[.string ⟨#[]⟩, .int .u64 0, .bool false, .string ⟨#[]⟩] 37 (0, 0))) ∧ Aside0 (Below w.heap.size w w'))
  case atStart => exact ⟨0, r, false, ⟨#[]⟩, rfl, ⟨r18_⟩, ⟨HGO.out⟩, BX5, HS5, BR5, HB5⟩
  case round =>
   clear BX5 HS5 BR5 HB5 HGO
   obtain ⟨i, s, b, l, rfl, HI, HGI, BX0, HS0, BR0, HB0⟩ := hrel
   have hin : i ≤ N := by have := HI.out; omega
   by_cases hlt : i < N
   rotate_left
   ·have hie : i = N := by omega
    have hg := HGI.out
    rw [show N - i = 0 by omega] at hg
    clear HGI
    have ho : o = none := by simpa [qp.go, eq_comm] using hg
    subst ho
    have ho := HO.out
    simp only [qp.ans, Prod.mk.injEq] at ho
    obtain ⟨rfl, rfl, rfl, rfl, rfl, rfl⟩ := ho
    clear HO hg
    have z0_ : wr.cell? ⟨rr, 0, none⟩ = some (.string ⟨#[]⟩) := (blk_cell BR0.out 0).trans rfl
    have z1_ : wr.cell? ⟨rr, 1, none⟩ = some (.int .u64 0) := (blk_cell BR0.out 1).trans rfl
    have z2_ : wr.cell? ⟨rr, 2, none⟩ = some (.bool false) := (blk_cell BR0.out 2).trans rfl
    have z3_ : wr.cell? ⟨rr, 3, none⟩ = some (.string ⟨#[]⟩) := (blk_cell BR0.out 3).trans rfl
    have y0_ := blk_frozen BR0.out 0
    have y1_ := blk_frozen BR0.out 1
    have y2_ := blk_frozen BR0.out 2
    have y3_ := blk_frozen BR0.out 3
    go_wp2
    exact bodyPost_ret (HFIN.out _ _ rr #[.string ⟨#[]⟩, .int .u64 0, .bool false, .string ⟨#[]⟩] rfl (qp.Z4 BR0.out _ _ _ _) rfl) rfl ⟨rfl, qp.B4 HB0.out HG.out.2.1 _ _ _ _⟩
   have hkg : ∃ k1, gk = k1 + 1 := ⟨gk - 1, by have := HI.out; omega⟩
   obtain ⟨k1, rfl⟩ := hkg
   obtain ⟨m', hm'⟩ : ∃ m', N - i = m' + 1 := ⟨N - i - 1, r18_⟩
   have hg := HGI.out
   rw [hm'] at hg
   have HMm := Lib.hid hm'
   clear HGI hm'
   replace hg := bs_ hg
   obtain ⟨⟨x, s1, b1, l1⟩, hnx, hg⟩ := hg
   replace hg := bs_ hg
   obtain ⟨a, hah, hg⟩ := hg
   have HNX := Lib.hid hnx
   have HAH := Lib.hid hah
   have HG2 : Hid ((if a = true then qp.go k a1 a2 m' s1 b1 l1 else some (some x)) = some o) := Lib.hid hg
   clear hnx hah hg
   go_wp2_with (fail)
   refine (qe.nexC k g s s1 l l1 b b1 x _ HS0.out HNX.out).mono ?_
   rintro e x6 ⟨rfl, hs, hm⟩
   have BX6 : Aside0 (qp.Bx x6 p q u v a0 n a1 a2) := ⟨⟨hm.blk BX0.out.b0 HGG.out.2.2.1, hm.blk BX0.out.b1 HGG.out.2.2.2.1, hm.blk BX0.out.b2 HGG.out.2.2.2.2.1, hm.blk BX0.out.b3 HGG.out.2.2.2.2.2⟩⟩
   have BR6 := Aside0.mk (hm.blk BR0.out HGG.out.2.1)
   have HB6 := Aside0.mk (HB0.out.trans (hm.bel w.heap.size HGG.out.1 HB0.out.size))
   have HS6 := Aside0.mk hs
   clear hs hm BX0 BR0 HB0 HS0
   go_upto_region 11 with (fail)
   have BK7 : Aside0 ((x6.alloc (.cells #[.string x.f0, .int .u64 x.f1, .bool x.f2, .string x.f3] 37)).heap[x6.heap.size]? = _) := ⟨blk_new _ _⟩
   have BX7 : Aside0 (qp.Bx (x6.alloc (.cells #[.string x.f0, .int .u64 x.f1, .bool x.f2, .string x.f3] 37)) p q u v a0 n a1 a2) := ⟨BX6.out.below (below_alloc (Below.refl _ _) _)⟩
   have BR7 := Aside0.mk (blk_alloc BR6.out (.cells #[.string x.f0, .int .u64 x.f1, .bool x.f2, .string x.f3] 37))
   have HB7 := Aside0.mk (below_alloc HB6.out (.cells #[.string x.f0, .int .u64 x.f1, .bool x.f2, .string x.f3] 37))
   have HS7 : Aside0 (qe.RS (x6.alloc (.cells #[.string x.f0, .int .u64 x.f1, .bool x.f2, .string x.f3] 37)) g s1 b1 l1) := ⟨blk_alloc HS6.out _⟩
   clear BX6 BR6 HB6 HS6
   generalize (x6.alloc (.cells #[.string x.f0, .int .u64 x.f1, .bool x.f2, .string x.f3] 37)) = x7 at BK7 BX7 BR7 HB7 HS7 ⊢
   obtain ⟨gx, hgx⟩ : ∃ g_, x6.heap.size = g_ := ⟨_, rfl⟩
   rw [hgx] at BK7 ⊢
   clear hgx
   have k0_ : x7.cell? ⟨gx, 0, none⟩ = some (.string x.f0) := (blk_cell BK7.out 0).trans rfl
   have k1_ : x7.cell? ⟨gx, 1, none⟩ = some (.int .u64 x.f1) := (blk_cell BK7.out 1).trans rfl
   have k2_ : x7.cell? ⟨gx, 2, none⟩ = some (.bool x.f2) := (blk_cell BK7.out 2).trans rfl
   have k3_ : x7.cell? ⟨gx, 3, none⟩ = some (.string x.f3) := (blk_cell BK7.out 3).trans rfl
   have q2_ : x7.cell? ⟨u, 0, none⟩ = some (.string a1) := (blk_cell BX7.out.b2 0).trans rfl
   have q3_ : x7.cell? ⟨v, 0, none⟩ = some (.int .u64 a2) := (blk_cell BX7.out.b3 0).trans rfl
   go_wp2_with (fail)
   clear k0_ k1_ k2_ k3_ q2_ q3_
   refine (qr1.calls x.f0 x.f1 x.f2 x.f3 a1 a2 a _ HAH.out).mono ?_
   rintro e x8 ⟨rfl, hb⟩
   have BX8 := Aside0.mk (BX7.out.below hb)
   have BR8 := Aside0.mk (blk_below BR7.out hb)
   have BK8 := Aside0.mk (blk_below BK7.out hb)
   have HB8 := Aside0.mk (below_step HB7.out hb)
   have HS8 : Aside0 (qe.RS x8 g s1 b1 l1) := ⟨blk_below HS7.out hb⟩
   clear hb BX7 BR7 BK7 HB7 HS7
   cases a with
   | true =>
    have HGf : Hid (qp.go k a1 a2 m' s1 b1 l1 = some o) := Lib.hid (by have := HG2.out; rwa [if_pos rfl] at this)
    clear HG2
    go_wp2
    go_roundg k1
    case measure => omega
    case rel => exact ⟨i + 1, s1, b1, l1, by go_num, ⟨by have := HI.out; omega⟩, ⟨by rw [show N - (i + 1) = m' by have := HMm.out; omega]; exact HGf.out⟩, BX8, HS8, BR8, HB8⟩
   | false =>
    have hg := HG2.out
    rw [if_neg r24_] at hg
    simp only [Option.some.injEq] at hg
    subst hg
    have ho := HO.out
    simp only [qp.ans, Prod.mk.injEq] at ho
    obtain ⟨rfl, rfl, rfl, rfl, rfl, rfl⟩ := ho
    clear HG2 HO
    have k0_ : x8.cell? ⟨gx, 0, none⟩ = some (.string x.f0) := (blk_cell BK8.out 0).trans rfl
    have k1_ : x8.cell? ⟨gx, 1, none⟩ = some (.int .u64 x.f1) := (blk_cell BK8.out 1).trans rfl
    have k2_ : x8.cell? ⟨gx, 2, none⟩ = some (.bool x.f2) := (blk_cell BK8.out 2).trans rfl
    have k3_ : x8.cell? ⟨gx, 3, none⟩ = some (.string x.f3) := (blk_cell BK8.out 3).trans rfl
    have z0_ : x8.cell? ⟨rr, 0, none⟩ = some (.string ⟨#[]⟩) := (blk_cell BR8.out 0).trans rfl
    have z1_ : x8.cell? ⟨rr, 1, none⟩ = some (.int .u64 0) := (blk_cell BR8.out 1).trans rfl
    have z2_ : x8.cell? ⟨rr, 2, none⟩ = some (.bool false) := (blk_cell BR8.out 2).trans rfl
    have z3_ : x8.cell? ⟨rr, 3, none⟩ = some (.string ⟨#[]⟩) := (blk_cell BR8.out 3).trans rfl
    have y0_ := blk_frozen BR8.out 0
    have y1_ := blk_frozen BR8.out 1
    have y2_ := blk_frozen BR8.out 2
    have y3_ := blk_frozen BR8.out 3
    go_wp2
    exact bodyPost_ret (HFIN.out _ _ rr #[.string x.f0, .int .u64 x.f1, .bool x.f2, .string x.f3] rfl (qp.Z4 BR8.out _ _ _ _) rfl) rfl ⟨rfl, qp.B4 HB8.out HG.out.2.1 _ _ _ _⟩
 have hmx_ : ((j : Int) - 1 < 0) = True := eq_true r18_
 have c0_ : x4.cell? ⟨p, 0, none⟩ = some (.string a0) := (blk_cell BX4.out.b0 0).trans rfl
 have c1_ : x4.cell? ⟨q, 0, none⟩ = some (.int .i64 (n : Int)) := (blk_cell BX4.out.b1 0).trans rfl
 go_wp2_with (fail)
 clear hmx_
 clear c0_ c1_
 have hc0 : c = 0 := by have := HC.out; omega
 subst hc0
 have HAT0 : Hid (qp.at_ k a0 n 0 = some r) := Lib.hid HAT.out
 clear HAT
 refine (qp.atC k a0 r n 0 _ HAT0.out).mono ?_
 rintro e x5 ⟨g, rfl, hgx, hrs, hb⟩
 have HGG : Hid (w.heap.size ≤ g ∧ rr ≠ g ∧ p ≠ g ∧ q ≠ g ∧ u ≠ g ∧ v ≠ g) := Lib.hid ⟨Nat.le_trans HB4.out.size hgx, Nat.ne_of_lt (Nat.lt_of_lt_of_le (blk_lt BR4.out) hgx), Nat.ne_of_lt (Nat.lt_of_lt_of_le (blk_lt BX4.out.b0) hgx), Nat.ne_of_lt (Nat.lt_of_lt_of_le (blk_lt BX4.out.b1) hgx), Nat.ne_of_lt (Nat.lt_of_lt_of_le (blk_lt BX4.out.b2) hgx), Nat.ne_of_lt (Nat.lt_of_lt_of_le (blk_lt BX4.out.b3) hgx)⟩
 have BX5 := Aside0.mk (BX4.out.below hb)
 have BR5 := Aside0.mk (blk_below BR4.out hb)
 have HB5 := Aside0.mk (below_step HB4.out hb)
 have HS5 := Aside0.mk hrs
 clear hb hrs hgx BX4 BR4 HB4
 have c1_ : x5.cell? ⟨q, 0, none⟩ = some (.int .i64 (n : Int)) := (blk_cell BX5.out.b1 0).trans rfl
 have hc1_ : True := trivial
 have hc2_ : True := trivial
 go_wp2_with (fail)
 clear c1_
 obtain ⟨N, hN⟩ : ∃ N, n - 0 * 4 = N := ⟨_, rfl⟩
 rw [hN] at HGO
 rw [show (n : Int) = (N : Int) by omega]
 have hN1 : N ≤ 1000 := by omega
 clear hN hc1_ hc2_
 go_loopg [44] N (fun kq v44 w' => ∃ (i : Nat) (s : ByteArray) (b : Bool) (l : ByteArray), v44 = .int .i64 (i : Int) ∧ Aside0 (kq + i = N) ∧ Aside0 (qp.go k a1 a2 (N - i) s b l = some o) ∧ Aside0 (qp.Bx w' p q u v a0 n a1 a2) ∧ Aside0 (qe.RS w' g s b l) ∧ Aside0 (w'.heap[rr]? = some (.cells #[.string ⟨#[]⟩, .int .u64 0, .bool false, .string ⟨#[]⟩] 37 (0, 0))) ∧ Aside0 (Below w.heap.size w w'))
 case atStart => exact ⟨0, r, false, ⟨#[]⟩, rfl, ⟨r18_⟩, ⟨HGO.out⟩, BX5, HS5, BR5, HB5⟩
 case round =>
  clear BX5 HS5 BR5 HB5 HGO
  obtain ⟨i, s, b, l, rfl, HI, HGI, BX0, HS0, BR0, HB0⟩ := hrel
  have hin : i ≤ N := by have := HI.out; omega
  by_cases hlt : i < N
  rotate_left
  ·have hie : i = N := by omega
   have hg := HGI.out
   rw [show N - i = 0 by omega] at hg
   clear HGI
   have ho : o = none := by simpa [qp.go, eq_comm] using hg
   subst ho
   have ho := HO.out
   simp only [qp.ans, Prod.mk.injEq] at ho
   obtain ⟨rfl, rfl, rfl, rfl, rfl, rfl⟩ := ho
   clear HO hg
   have z0_ : wr.cell? ⟨rr, 0, none⟩ = some (.string ⟨#[]⟩) := (blk_cell BR0.out 0).trans rfl
   have z1_ : wr.cell? ⟨rr, 1, none⟩ = some (.int .u64 0) := (blk_cell BR0.out 1).trans rfl
   have z2_ : wr.cell? ⟨rr, 2, none⟩ = some (.bool false) := (blk_cell BR0.out 2).trans rfl
   have z3_ : wr.cell? ⟨rr, 3, none⟩ = some (.string ⟨#[]⟩) := (blk_cell BR0.out 3).trans rfl
   have y0_ := blk_frozen BR0.out 0
   have y1_ := blk_frozen BR0.out 1
   have y2_ := blk_frozen BR0.out 2
   have y3_ := blk_frozen BR0.out 3
   go_wp2
   exact bodyPost_ret (HFIN.out _ _ rr #[.string ⟨#[]⟩, .int .u64 0, .bool false, .string ⟨#[]⟩] rfl (qp.Z4 BR0.out _ _ _ _) rfl) rfl ⟨rfl, qp.B4 HB0.out HG.out.2.1 _ _ _ _⟩
  have hkg : ∃ k1, gk = k1 + 1 := ⟨gk - 1, by have := HI.out; omega⟩
  obtain ⟨k1, rfl⟩ := hkg
  obtain ⟨m', hm'⟩ : ∃ m', N - i = m' + 1 := ⟨N - i - 1, r18_⟩
  have hg := HGI.out
  rw [hm'] at hg
  have HMm := Lib.hid hm'
  clear HGI hm'
  replace hg := bs_ hg
  obtain ⟨⟨x, s1, b1, l1⟩, hnx, hg⟩ := hg
  replace hg := bs_ hg
  obtain ⟨a, hah, hg⟩ := hg
  have HNX := Lib.hid hnx
  have HAH := Lib.hid hah
  have HG2 : Hid ((if a = true then qp.go k a1 a2 m' s1 b1 l1 else some (some x)) = some o) := Lib.hid hg
  clear hnx hah hg
  go_wp2_with (fail)
  refine (qe.nexC k g s s1 l l1 b b1 x _ HS0.out HNX.out).mono ?_
  rintro e x6 ⟨rfl, hs, hm⟩
  have BX6 : Aside0 (qp.Bx x6 p q u v a0 n a1 a2) := ⟨⟨hm.blk BX0.out.b0 HGG.out.2.2.1, hm.blk BX0.out.b1 HGG.out.2.2.2.1, hm.blk BX0.out.b2 HGG.out.2.2.2.2.1, hm.blk BX0.out.b3 HGG.out.2.2.2.2.2⟩⟩
  have BR6 := Aside0.mk (hm.blk BR0.out HGG.out.2.1)
  have HB6 := Aside0.mk (HB0.out.trans (hm.bel w.heap.size HGG.out.1 HB0.out.size))
  have HS6 := Aside0.mk hs
  clear hs hm BX0 BR0 HB0 HS0
  go_upto_region 11 with (fail)
  have BK7 : Aside0 ((x6.alloc (.cells #[.string x.f0, .int .u64 x.f1, .bool x.f2, .string x.f3] 37)).heap[x6.heap.size]? = _) := ⟨blk_new _ _⟩
  have BX7 : Aside0 (qp.Bx (x6.alloc (.cells #[.string x.f0, .int .u64 x.f1, .bool x.f2, .string x.f3] 37)) p q u v a0 n a1 a2) := ⟨BX6.out.below (below_alloc (Below.refl _ _) _)⟩
  have BR7 := Aside0.mk (blk_alloc BR6.out (.cells #[.string x.f0, .int .u64 x.f1, .bool x.f2, .string x.f3] 37))
  have HB7 := Aside0.mk (below_alloc HB6.out (.cells #[.string x.f0, .int .u64 x.f1, .bool x.f2, .string x.f3] 37))
  have HS7 : Aside0 (qe.RS (x6.alloc (.cells #[.string x.f0, .int .u64 x.f1, .bool x.f2, .string x.f3] 37)) g s1 b1 l1) := ⟨blk_alloc HS6.out _⟩
  clear BX6 BR6 HB6 HS6
  generalize (x6.alloc (.cells #[.string x.f0, .int .u64 x.f1, .bool x.f2, .string x.f3] 37)) = x7 at BK7 BX7 BR7 HB7 HS7 ⊢
  obtain ⟨gx, hgx⟩ : ∃ g_, x6.heap.size = g_ := ⟨_, rfl⟩
  rw [hgx] at BK7 ⊢
  clear hgx
  have k0_ : x7.cell? ⟨gx, 0, none⟩ = some (.string x.f0) := (blk_cell BK7.out 0).trans rfl
  have k1_ : x7.cell? ⟨gx, 1, none⟩ = some (.int .u64 x.f1) := (blk_cell BK7.out 1).trans rfl
  have k2_ : x7.cell? ⟨gx, 2, none⟩ = some (.bool x.f2) := (blk_cell BK7.out 2).trans rfl
  have k3_ : x7.cell? ⟨gx, 3, none⟩ = some (.string x.f3) := (blk_cell BK7.out 3).trans rfl
  have q2_ : x7.cell? ⟨u, 0, none⟩ = some (.string a1) := (blk_cell BX7.out.b2 0).trans rfl
  have q3_ : x7.cell? ⟨v, 0, none⟩ = some (.int .u64 a2) := (blk_cell BX7.out.b3 0).trans rfl
  go_wp2_with (fail)
  clear k0_ k1_ k2_ k3_ q2_ q3_
  refine (qr1.calls x.f0 x.f1 x.f2 x.f3 a1 a2 a _ HAH.out).mono ?_
  rintro e x8 ⟨rfl, hb⟩
  have BX8 := Aside0.mk (BX7.out.below hb)
  have BR8 := Aside0.mk (blk_below BR7.out hb)
  have BK8 := Aside0.mk (blk_below BK7.out hb)
  have HB8 := Aside0.mk (below_step HB7.out hb)
  have HS8 : Aside0 (qe.RS x8 g s1 b1 l1) := ⟨blk_below HS7.out hb⟩
  clear hb BX7 BR7 BK7 HB7 HS7
  cases a with
  | true =>
   have HGf : Hid (qp.go k a1 a2 m' s1 b1 l1 = some o) := Lib.hid (by have := HG2.out; rwa [if_pos rfl] at this)
   clear HG2
   go_wp2
   go_roundg k1
   case measure => omega
   case rel => exact ⟨i + 1, s1, b1, l1, by go_num, ⟨by have := HI.out; omega⟩, ⟨by rw [show N - (i + 1) = m' by have := HMm.out; omega]; exact HGf.out⟩, BX8, HS8, BR8, HB8⟩
  | false =>
   have hg := HG2.out
   rw [if_neg r24_] at hg
   simp only [Option.some.injEq] at hg
   subst hg
   have ho := HO.out
   simp only [qp.ans, Prod.mk.injEq] at ho
   obtain ⟨rfl, rfl, rfl, rfl, rfl, rfl⟩ := ho
   clear HG2 HO
   have k0_ : x8.cell? ⟨gx, 0, none⟩ = some (.string x.f0) := (blk_cell BK8.out 0).trans rfl
   have k1_ : x8.cell? ⟨gx, 1, none⟩ = some (.int .u64 x.f1) := (blk_cell BK8.out 1).trans rfl
   have k2_ : x8.cell? ⟨gx, 2, none⟩ = some (.bool x.f2) := (blk_cell BK8.out 2).trans rfl
   have k3_ : x8.cell? ⟨gx, 3, none⟩ = some (.string x.f3) := (blk_cell BK8.out 3).trans rfl
   have z0_ : x8.cell? ⟨rr, 0, none⟩ = some (.string ⟨#[]⟩) := (blk_cell BR8.out 0).trans rfl
   have z1_ : x8.cell? ⟨rr, 1, none⟩ = some (.int .u64 0) := (blk_cell BR8.out 1).trans rfl
   have z2_ : x8.cell? ⟨rr, 2, none⟩ = some (.bool false) := (blk_cell BR8.out 2).trans rfl
   have z3_ : x8.cell? ⟨rr, 3, none⟩ = some (.string ⟨#[]⟩) := (blk_cell BR8.out 3).trans rfl
   have y0_ := blk_frozen BR8.out 0
   have y1_ := blk_frozen BR8.out 1
   have y2_ := blk_frozen BR8.out 2
   have y3_ := blk_frozen BR8.out 3
   go_wp2
   exact bodyPost_ret (HFIN.out _ _ rr #[.string x.f0, .int .u64 x.f1, .bool x.f2, .string x.f3] rfl (qp.Z4 BR8.out _ _ _ _) rfl) rfl ⟨rfl, qp.B4 HB8.out HG.out.2.1 _ _ _ _⟩

/-! ### qh1: function 17 -/
def qh1.f (k : Nat) (s0_0 : ByteArray) (s0_1 : List (S80)) (s0_2 : ByteArray) (s0_3 : Int) (a1 : ByteArray) (a2 : Int) : Option (ByteArray × Int × Bool × ByteArray × Bool × ByteArray × ByteArray × Int) := (qU.f k s0_0 s0_1 s0_2 s0_3 a1 a2).bind fun bt155 => (if bt155.1 = 0 then (some ((⟨#[]⟩ : ByteArray), 0, false, (⟨#[]⟩ : ByteArray), false, bt155.2.1, bt155.2.2.1, bt155.2.2.2)) else ((qv.f k bt155.2.1 s0_1 bt155.2.2.1 bt155.2.2.2 a1 a2).bind fun bt159 => ((qf1.f bt159.2.1 s0_1 bt159.2.2.1 bt159.2.2.2 bt159.1).bind fun bt163 => ((qp.f k bt163.1 a1 a2).bind fun bt167 => (if bt167.2.2.2.2.1 = true then (if bt167.1.toList = a1.toList then (some (bt167.1, bt167.2.1, bt167.2.2.1, bt167.2.2.2.1, true, bt163.2.1, bt163.2.2.1, bt163.2.2.2)) else (some ((⟨#[]⟩ : ByteArray), 0, false, (⟨#[]⟩ : ByteArray), false, bt163.2.1, bt163.2.2.1, bt163.2.2.2))) else (some ((⟨#[]⟩ : ByteArray), 0, false, (⟨#[]⟩ : ByteArray), false, bt163.2.1, bt163.2.2.1, bt163.2.2.2)))))))
theorem qh1.mono : ∀ a0 a1 a2 a3 a4 a5 k, LeO (qh1.f k a0 a1 a2 a3 a4 a5) (qh1.f (k + 1) a0 a1 a2 a3 a4 a5) := by
 intro a0 a1 a2 a3 a4 a5 k
 unfold qh1.f
 repeat' first
   | (with_reducible exact LeO.refl _)
   | (with_reducible exact LeO.none _)
   | (with_reducible refine LeO.ite ?_ ?_)
   | (with_reducible refine LeO.bind ?_ (fun _ => ?_))
   | exact qp.mono _ _ _ _
   | exact qU.mono _ _ _ _ _ _ _
   | exact qv.mono _ _ _ _ _ _ _
   | exact LeO.none _
   | refine LeO.ite ?_ ?_
   | refine LeO.bind ?_ (fun _ => ?_)
set_option maxHeartbeats 8000000 in
set_option maxRecDepth 100000 in
theorem qh1.calls (k : Nat) (g : Nat) (s0_0 : ByteArray) (s0_1 : List (S80)) (s0_2 : ByteArray) (s0_3 : Int) (a1 : ByteArray) (a2 : Int) (r1 : ByteArray) (r2 : Int) (r3 : Bool) (r4 : ByteArray) (r5 : Bool) (r6 : ByteArray) (r7 : ByteArray) (r8 : Int) (w0 w : World) (hI : IsS82 w0 w g s0_0 s0_1 s0_2 s0_3) (hB : Below w0.heap.size w0 w) (h : qh1.f k s0_0 s0_1 s0_2 s0_3 a1 a2 = some (r1, r2, r3, r4, r5, r6, r7, r8)) :
  Calls Try.prog 17 #[.pointer (some ⟨g, 0, none⟩), .string a1, .int .u64 a2] w fun e w' => e = .returned (.tuple #[.agg #[.string r1, .int .u64 r2, .bool r3, .string r4], .bool r5]) ∧ IsS82 w0 w' g r6 s0_1 r7 r8 ∧ Below w0.heap.size w0 w' ∧ KeepBut w w' g none := by
 have hu37 := Try.underlying37
 have HI0 := Aside0.mk hI
 have HK := Aside0.mk (KeepBut.refl w g none)
 have HL := Aside0.mk hB.size
 clear hI
 have HW0 := Aside0.mk hB.size
 have HB := Aside0.mk hB
 clear hB
 have H : ((qU.f k s0_0 s0_1 s0_2 s0_3 a1 a2).bind fun bt155 => (if bt155.1 = 0 then (some ((⟨#[]⟩ : ByteArray), 0, false, (⟨#[]⟩ : ByteArray), false, bt155.2.1, bt155.2.2.1, bt155.2.2.2)) else ((qv.f k bt155.2.1 s0_1 bt155.2.2.1 bt155.2.2.2 a1 a2).bind fun bt159 => ((qf1.f bt159.2.1 s0_1 bt159.2.2.1 bt159.2.2.2 bt159.1).bind fun bt163 => ((qp.f k bt163.1 a1 a2).bind fun bt167 => (if bt167.2.2.2.2.1 = true then (if bt167.1.toList = a1.toList then (some (bt167.1, bt167.2.1, bt167.2.2.1, bt167.2.2.2.1, true, bt163.2.1, bt163.2.2.1, bt163.2.2.2)) else (some ((⟨#[]⟩ : ByteArray), 0, false, (⟨#[]⟩ : ByteArray), false, bt163.2.1, bt163.2.2.1, bt163.2.2.2))) else (some ((⟨#[]⟩ : ByteArray), 0, false, (⟨#[]⟩ : ByteArray), false, bt163.2.1, bt163.2.2.1, bt163.2.2.2)))))))) = some (r1, r2, r3, r4, r5, r6, r7, r8) := h
 clear h
 replace H := bs_ H
 obtain ⟨⟨t155, t156, t157, t158⟩, A40, H⟩ := H
 try dsimp only at H
 have A4 := Aside0.mk A40
 clear A40
 by_cases c5 : t155 = 0
 ·rw [if_pos c5] at H
  have c5b0 := beq_iff_eq.mpr c5
  have c5b1 := bne_eq_false_iff_eq.mpr c5
  clear c5
  simp only [Option.some.injEq, Prod.mk.injEq] at H
  obtain ⟨rfl, rfl, rfl, rfl, rfl, rfl, rfl, rfl⟩ := H
  go_enter Try.func17, Try.ntmps17
  go_wp2_with (first | ((with_reducible refine gate_dst (N := 6) rfl ?_); refine box_event ?hg (N := 6) ?hd (cs := #[.string (⟨#[]⟩ : ByteArray), .int .u64 0, .bool false, .string (⟨#[]⟩ : ByteArray)]) (t := 37) ?hr ?_; (case hd => rfl); (case hg => rfl); (case hr => first | (go_simp; done) | (go_simp; rfl)); intro gb154 hg w6 hbox hb; replace HB := Aside0.mk (below_step r8_ hb); have BK154 := Aside0.mk (hbox); have GW154 := Aside0.mk ((by rw [hg]; exact (keep_size (w := w) (g := g) (row := none) r3_) : w.heap.size ≤ gb154)); have GE154 := Aside0.mk ((Nat.le_trans HW0.out (by rw [hg]; exact (keep_size (w := w) (g := g) (row := none) r3_) : w.heap.size ≤ gb154) : w0.heap.size ≤ gb154)); replace HK := Aside0.mk (KeepBut.trans r3_ (KeepBut.of_below hb g none) (.inl rfl)); have NB0_154 := Aside0.mk ((by rw [hg]; exact Nat.ne_of_lt (IsS82.lt (show IsS82 w0 _ g s0_0 s0_1 s0_2 s0_3 from by repeat (first | (with_reducible first | exact HI0.out | apply IsS82.alloc | apply IsS82.drewN | apply IsS82.drew | apply IsS82.set_0 | apply IsS82.set_2 | apply IsS82.set_3) | exact HI0.out))) : g ≠ gb154)); have NB154_0 := Aside0.mk ((by rw [hg]; exact Nat.ne_of_gt (IsS82.lt (show IsS82 w0 _ g s0_0 s0_1 s0_2 s0_3 from by repeat (first | (with_reducible first | exact HI0.out | apply IsS82.alloc | apply IsS82.drewN | apply IsS82.drew | apply IsS82.set_0 | apply IsS82.set_2 | apply IsS82.set_3) | exact HI0.out))) : gb154 ≠ g)); replace HI0 := Aside0.mk (IsS82.below r6_ hb); clear hb hbox hg) | ((with_reducible refine gate_callee (f := 20) rfl ?_); refine goesL_ (some 14) rfl rfl Try.func20 r2_ rfl #[.pointer (some ⟨g, 0, none⟩), .string a1, .int .u64 a2] rfl hA_ ?_; (with_reducible refine (qU.calls k g s0_0 s0_1 s0_2 s0_3 a1 a2 t155 t156 t157 t158 w0 _ ?side1 ?side2 A4.out).mono ?_); (case side1 => repeat (first | (with_reducible first | exact HI0.out | apply IsS82.alloc | apply IsS82.drewN | apply IsS82.drew | apply IsS82.set_0 | apply IsS82.set_2 | apply IsS82.set_3 | refine IsS82.far ?_ NB0_154.out _) | exact HI0.out)); (case side2 => repeat (first | (with_reducible first | exact HB.out | apply below_alloc | apply pw_below_drewN | apply below_drew1 | refine below_set ?_ (IsS82.ge HI0.out) | refine below_set ?_ GE154.out) | exact HB.out)); rintro e w7 ⟨rfl, hi, hb, hk⟩; refine ⟨_, rfl, ?_⟩; replace BK154 := Aside0.mk (KeepBut.blk hk (g' := gb154) (o := .cells #[.string (⟨#[]⟩ : ByteArray), .int .u64 0, .bool false, .string (⟨#[]⟩ : ByteArray)] 37 (0, 0)) r10_ NB154_0.out r17_); replace HK := Aside0.mk (KeepBut.trans r5_ hk (.inl rfl)); replace HB := Aside0.mk (hb); replace HI0 := Aside0.mk (hi); clear hb hk hi A4; have hnb8 := NB154_0.out; have hnc8 := NB0_154.out; have hcz9_0 : w7.cell? ⟨gb154, 0, none⟩ = some (.string (⟨#[]⟩ : ByteArray)) := (blk_cell BK154.out 0).trans rfl; have hcz9_1 : w7.cell? ⟨gb154, 1, none⟩ = some (.int .u64 0) := (blk_cell BK154.out 1).trans rfl; have hcz9_2 : w7.cell? ⟨gb154, 2, none⟩ = some (.bool false) := (blk_cell BK154.out 2).trans rfl; have hcz9_3 : w7.cell? ⟨gb154, 3, none⟩ = some (.string (⟨#[]⟩ : ByteArray)) := (blk_cell BK154.out 3).trans rfl; have hfz9_0 := blk_frozen BK154.out 0; have hfz9_1 := blk_frozen BK154.out 1; have hfz9_2 := blk_frozen BK154.out 2; have hfz9_3 := blk_frozen BK154.out 3))
  refine bodyPost_ret (results_ct rfl _ _ gb154 37 #[.string (⟨#[]⟩ : ByteArray), .int .u64 0, .bool false, .string (⟨#[]⟩ : ByteArray)] (0, 0) _ rfl (by (with_reducible repeat (first | refine blk_drewN ?_ _ | refine blk_drew ?_ | refine blk_alloc ?_ _)); refine blk_put (cs := #[.string (⟨#[]⟩ : ByteArray), .int .u64 0, .bool false, .string (⟨#[]⟩ : ByteArray)]) ?_ 3 _ rfl; (with_reducible repeat (first | refine blk_drewN ?_ _ | refine blk_drew ?_ | refine blk_alloc ?_ _)); refine blk_put (cs := #[.string (⟨#[]⟩ : ByteArray), .int .u64 0, .bool false, .string (⟨#[]⟩ : ByteArray)]) ?_ 2 _ rfl; (with_reducible repeat (first | refine blk_drewN ?_ _ | refine blk_drew ?_ | refine blk_alloc ?_ _)); refine blk_put (cs := #[.string (⟨#[]⟩ : ByteArray), .int .u64 0, .bool false, .string (⟨#[]⟩ : ByteArray)]) ?_ 1 _ rfl; (with_reducible repeat (first | refine blk_drewN ?_ _ | refine blk_drew ?_ | refine blk_alloc ?_ _)); refine blk_put (cs := #[.string (⟨#[]⟩ : ByteArray), .int .u64 0, .bool false, .string (⟨#[]⟩ : ByteArray)]) ?_ 0 _ rfl; (with_reducible repeat (first | refine blk_drewN ?_ _ | refine blk_drew ?_ | refine blk_alloc ?_ _)); exact BK154.out) Try.underlying37 rfl r2_) rfl ?_
  exact ⟨rf_, r16_, r19_, r5_⟩
 rw [if_neg c5] at H
 have c5b0 := beq_eq_false_iff_ne.mpr c5
 have c5b1 := bne_iff_ne.mpr c5
 replace H := bs_ H
 obtain ⟨⟨t159, t160, t161, t162⟩, A100, H⟩ := H
 try dsimp only at H
 have A10 := Aside0.mk A100
 clear A100
 replace H := bs_ H
 obtain ⟨⟨t163, t164, t165, t166⟩, A110, H⟩ := H
 try dsimp only at H
 have A11 := Aside0.mk A110
 clear A110
 replace H := bs_ H
 obtain ⟨⟨t167, t168, t169, t170, t171, t172⟩, A120, H⟩ := H
 try dsimp only at H
 have A12 := Aside0.mk A120
 clear A120
 by_cases c13 : t171 = true
 rotate_left
 ·replace c13 := Bool.eq_false_iff.mpr c13
  subst c13
  rw [if_neg ff_] at H
  simp only [Option.some.injEq, Prod.mk.injEq] at H
  obtain ⟨rfl, rfl, rfl, rfl, rfl, rfl, rfl, rfl⟩ := H
  go_enter Try.func17, Try.ntmps17
  go_wp2_with (first | ((with_reducible refine gate_dst (N := 6) rfl ?_); refine box_event ?hg (N := 6) ?hd (cs := #[.string (⟨#[]⟩ : ByteArray), .int .u64 0, .bool false, .string (⟨#[]⟩ : ByteArray)]) (t := 37) ?hr ?_; (case hd => rfl); (case hg => rfl); (case hr => first | (go_simp; done) | (go_simp; rfl)); intro gb154 hg w37 hbox hb; replace HB := Aside0.mk (below_step r8_ hb); have BK154 := Aside0.mk (hbox); have GW154 := Aside0.mk ((by rw [hg]; exact (keep_size (w := w) (g := g) (row := none) r3_) : w.heap.size ≤ gb154)); have GE154 := Aside0.mk ((Nat.le_trans HW0.out (by rw [hg]; exact (keep_size (w := w) (g := g) (row := none) r3_) : w.heap.size ≤ gb154) : w0.heap.size ≤ gb154)); replace HK := Aside0.mk (KeepBut.trans r3_ (KeepBut.of_below hb g none) (.inl rfl)); have NB0_154 := Aside0.mk ((by rw [hg]; exact Nat.ne_of_lt (IsS82.lt (show IsS82 w0 _ g s0_0 s0_1 s0_2 s0_3 from by repeat (first | (with_reducible first | exact HI0.out | apply IsS82.alloc | apply IsS82.drewN | apply IsS82.drew | apply IsS82.set_0 | apply IsS82.set_2 | apply IsS82.set_3) | exact HI0.out))) : g ≠ gb154)); have NB154_0 := Aside0.mk ((by rw [hg]; exact Nat.ne_of_gt (IsS82.lt (show IsS82 w0 _ g s0_0 s0_1 s0_2 s0_3 from by repeat (first | (with_reducible first | exact HI0.out | apply IsS82.alloc | apply IsS82.drewN | apply IsS82.drew | apply IsS82.set_0 | apply IsS82.set_2 | apply IsS82.set_3) | exact HI0.out))) : gb154 ≠ g)); replace HI0 := Aside0.mk (IsS82.below r6_ hb); clear hb hbox hg) | ((with_reducible refine gate_callee (f := 20) rfl ?_); refine goesL_ (some 14) rfl rfl Try.func20 r2_ rfl #[.pointer (some ⟨g, 0, none⟩), .string a1, .int .u64 a2] rfl hA_ ?_; (with_reducible refine (qU.calls k g s0_0 s0_1 s0_2 s0_3 a1 a2 t155 t156 t157 t158 w0 _ ?side1 ?side2 A4.out).mono ?_); (case side1 => repeat (first | (with_reducible first | exact HI0.out | apply IsS82.alloc | apply IsS82.drewN | apply IsS82.drew | apply IsS82.set_0 | apply IsS82.set_2 | apply IsS82.set_3 | refine IsS82.far ?_ NB0_154.out _) | exact HI0.out)); (case side2 => repeat (first | (with_reducible first | exact HB.out | apply below_alloc | apply pw_below_drewN | apply below_drew1 | refine below_set ?_ (IsS82.ge HI0.out) | refine below_set ?_ GE154.out) | exact HB.out)); rintro e w38 ⟨rfl, hi, hb, hk⟩; refine ⟨_, rfl, ?_⟩; replace BK154 := Aside0.mk (KeepBut.blk hk (g' := gb154) (o := .cells #[.string (⟨#[]⟩ : ByteArray), .int .u64 0, .bool false, .string (⟨#[]⟩ : ByteArray)] 37 (0, 0)) r10_ NB154_0.out r17_); replace HK := Aside0.mk (KeepBut.trans r5_ hk (.inl rfl)); replace HB := Aside0.mk (hb); replace HI0 := Aside0.mk (hi); clear hb hk hi A4) | ((with_reducible refine gate_callee (f := 47) rfl ?_); refine goesL_ (some 22) rfl rfl Try.func47 r2_ rfl #[.pointer (some ⟨g, 0, none⟩), .string a1, .int .u64 a2] rfl hA_ ?_; (with_reducible refine (qv.calls k g t156 s0_1 t157 t158 a1 a2 t159 t160 t161 t162 w0 _ ?side1 ?side2 A10.out).mono ?_); (case side1 => repeat (first | (with_reducible first | exact HI0.out | apply IsS82.alloc | apply IsS82.drewN | apply IsS82.drew | apply IsS82.set_0 | apply IsS82.set_2 | apply IsS82.set_3 | refine IsS82.far ?_ NB0_154.out _) | exact HI0.out)); (case side2 => repeat (first | (with_reducible first | exact HB.out | apply below_alloc | apply pw_below_drewN | apply below_drew1 | refine below_set ?_ (IsS82.ge HI0.out) | refine below_set ?_ GE154.out) | exact HB.out)); rintro e w39 ⟨rfl, hi, hb, hk⟩; refine ⟨_, rfl, ?_⟩; replace BK154 := Aside0.mk (KeepBut.blk hk (g' := gb154) (o := .cells #[.string (⟨#[]⟩ : ByteArray), .int .u64 0, .bool false, .string (⟨#[]⟩ : ByteArray)] 37 (0, 0)) r10_ NB154_0.out r17_); replace HK := Aside0.mk (KeepBut.trans r5_ hk (.inl rfl)); replace HB := Aside0.mk (hb); replace HI0 := Aside0.mk (hi); clear hb hk hi A10) | ((with_reducible refine gate_callee (f := 46) rfl ?_); refine goesL_ (some 23) rfl rfl Try.func46 r2_ rfl #[.pointer (some ⟨g, 0, none⟩), .int .i64 t159] rfl hA_ ?_; (with_reducible refine (qf1.calls g t160 s0_1 t161 t162 t159 t163 t164 t165 t166 w0 _ ?side1 ?side2 A11.out).mono ?_); (case side1 => repeat (first | (with_reducible first | exact HI0.out | apply IsS82.alloc | apply IsS82.drewN | apply IsS82.drew | apply IsS82.set_0 | apply IsS82.set_2 | apply IsS82.set_3 | refine IsS82.far ?_ NB0_154.out _) | exact HI0.out)); (case side2 => repeat (first | (with_reducible first | exact HB.out | apply below_alloc | apply pw_below_drewN | apply below_drew1 | refine below_set ?_ (IsS82.ge HI0.out) | refine below_set ?_ GE154.out) | exact HB.out)); rintro e w40 ⟨rfl, hi, hb, hk⟩; refine ⟨_, rfl, ?_⟩; replace BK154 := Aside0.mk (KeepBut.blk hk (g' := gb154) (o := .cells #[.string (⟨#[]⟩ : ByteArray), .int .u64 0, .bool false, .string (⟨#[]⟩ : ByteArray)] 37 (0, 0)) r10_ NB154_0.out r17_); replace HK := Aside0.mk (KeepBut.trans r5_ hk (.inl rfl)); replace HB := Aside0.mk (hb); replace HI0 := Aside0.mk (hi); clear hb hk hi A11) | ((with_reducible refine gate_callee (f := 45) rfl ?_); refine goesL_ (some 26) rfl rfl Try.func45 r2_ rfl #[.string t163, .string a1, .int .u64 a2] rfl hA_ ?_; (with_reducible refine (qp.calls k t163 a1 a2 t167 t168 t169 t170 false t172 _ A12.out).mono ?_); rintro e w41 ⟨rfl, hb⟩; refine ⟨_, rfl, ?_⟩; replace BK154 := Aside0.mk (blk_below (g := gb154) (o := .cells #[.string (⟨#[]⟩ : ByteArray), .int .u64 0, .bool false, .string (⟨#[]⟩ : ByteArray)] 37 (0, 0)) r10_ hb); replace HK := Aside0.mk (KeepBut.trans r5_ (KeepBut.of_below hb g none) (.inl rfl)); replace HB := Aside0.mk (below_step r19_ hb); replace HI0 := Aside0.mk (IsS82.below r16_ hb); clear hb A12) | ((with_reducible refine gate_dst (N := 8) rfl ?_); refine box_event ?hg (N := 8) ?hd (cs := #[.string (⟨#[]⟩ : ByteArray), .int .u64 0, .bool false, .string (⟨#[]⟩ : ByteArray)]) (t := 37) ?hr ?_; (case hd => rfl); (case hg => rfl); (case hr => first | (go_simp; done) | (go_simp; rfl)); intro gb173 hg w42 hbox hb; replace HB := Aside0.mk (below_step r19_ hb); have BK173 := Aside0.mk (hbox); have GW173 := Aside0.mk ((by rw [hg]; exact (keep_size (w := w) (g := g) (row := none) r5_) : w.heap.size ≤ gb173)); have GE173 := Aside0.mk ((Nat.le_trans HW0.out (by rw [hg]; exact (keep_size (w := w) (g := g) (row := none) r5_) : w.heap.size ≤ gb173) : w0.heap.size ≤ gb173)); replace HK := Aside0.mk (KeepBut.trans r5_ (KeepBut.of_below hb g none) (.inl rfl)); have NB154_173 := Aside0.mk ((by rw [hg]; exact Nat.ne_of_lt (blk_lt (g := gb154) (o := .cells #[.string (⟨#[]⟩ : ByteArray), .int .u64 0, .bool false, .string (⟨#[]⟩ : ByteArray)] 37 (0, 0)) r10_) : gb154 ≠ gb173)); have NB173_154 := Aside0.mk ((by rw [hg]; exact Nat.ne_of_gt (blk_lt (g := gb154) (o := .cells #[.string (⟨#[]⟩ : ByteArray), .int .u64 0, .bool false, .string (⟨#[]⟩ : ByteArray)] 37 (0, 0)) r10_) : gb173 ≠ gb154)); replace BK154 := Aside0.mk (blk_below (g := gb154) (o := .cells #[.string (⟨#[]⟩ : ByteArray), .int .u64 0, .bool false, .string (⟨#[]⟩ : ByteArray)] 37 (0, 0)) r10_ hb); have NB0_173 := Aside0.mk ((by rw [hg]; exact Nat.ne_of_lt (IsS82.lt (show IsS82 w0 _ g t164 s0_1 t165 t166 from by repeat (first | (with_reducible first | exact HI0.out | apply IsS82.alloc | apply IsS82.drewN | apply IsS82.drew | apply IsS82.set_0 | apply IsS82.set_2 | apply IsS82.set_3 | refine IsS82.far ?_ NB0_154.out _) | exact HI0.out))) : g ≠ gb173)); have NB173_0 := Aside0.mk ((by rw [hg]; exact Nat.ne_of_gt (IsS82.lt (show IsS82 w0 _ g t164 s0_1 t165 t166 from by repeat (first | (with_reducible first | exact HI0.out | apply IsS82.alloc | apply IsS82.drewN | apply IsS82.drew | apply IsS82.set_0 | apply IsS82.set_2 | apply IsS82.set_3 | refine IsS82.far ?_ NB0_154.out _) | exact HI0.out))) : gb173 ≠ g)); replace HI0 := Aside0.mk (IsS82.below r16_ hb); clear hb hbox hg; have hnb43 := NB173_154.out; have hnc43 := NB154_173.out; have hnb44 := NB173_0.out; have hnc44 := NB0_173.out; have hcz45_0 : w42.cell? ⟨gb173, 0, none⟩ = some (.string (⟨#[]⟩ : ByteArray)) := (blk_cell BK173.out 0).trans rfl; have hcz45_1 : w42.cell? ⟨gb173, 1, none⟩ = some (.int .u64 0) := (blk_cell BK173.out 1).trans rfl; have hcz45_2 : w42.cell? ⟨gb173, 2, none⟩ = some (.bool false) := (blk_cell BK173.out 2).trans rfl; have hcz45_3 : w42.cell? ⟨gb173, 3, none⟩ = some (.string (⟨#[]⟩ : ByteArray)) := (blk_cell BK173.out 3).trans rfl; have hfz45_0 := blk_frozen BK173.out 0; have hfz45_1 := blk_frozen BK173.out 1; have hfz45_2 := blk_frozen BK173.out 2; have hfz45_3 := blk_frozen BK173.out 3; have hnb46 := NB154_0.out; have hnc46 := NB0_154.out; have hcz47_0 : w42.cell? ⟨gb154, 0, none⟩ = some (.string (⟨#[]⟩ : ByteArray)) := (blk_cell BK154.out 0).trans rfl; have hcz47_1 : w42.cell? ⟨gb154, 1, none⟩ = some (.int .u64 0) := (blk_cell BK154.out 1).trans rfl; have hcz47_2 : w42.cell? ⟨gb154, 2, none⟩ = some (.bool false) := (blk_cell BK154.out 2).trans rfl; have hcz47_3 : w42.cell? ⟨gb154, 3, none⟩ = some (.string (⟨#[]⟩ : ByteArray)) := (blk_cell BK154.out 3).trans rfl; have hfz47_0 := blk_frozen BK154.out 0; have hfz47_1 := blk_frozen BK154.out 1; have hfz47_2 := blk_frozen BK154.out 2; have hfz47_3 := blk_frozen BK154.out 3))
  refine bodyPost_ret (results_ct rfl _ _ gb154 37 #[.string (⟨#[]⟩ : ByteArray), .int .u64 0, .bool false, .string (⟨#[]⟩ : ByteArray)] (0, 0) _ rfl (by (with_reducible repeat (first | refine blk_drewN ?_ _ | refine blk_drew ?_ | refine blk_alloc ?_ _)); refine blk_put (cs := #[.string (⟨#[]⟩ : ByteArray), .int .u64 0, .bool false, .string (⟨#[]⟩ : ByteArray)]) ?_ 3 _ rfl; (with_reducible repeat (first | refine blk_drewN ?_ _ | refine blk_drew ?_ | refine blk_alloc ?_ _)); refine blk_put (cs := #[.string (⟨#[]⟩ : ByteArray), .int .u64 0, .bool false, .string (⟨#[]⟩ : ByteArray)]) ?_ 2 _ rfl; (with_reducible repeat (first | refine blk_drewN ?_ _ | refine blk_drew ?_ | refine blk_alloc ?_ _)); refine blk_put (cs := #[.string (⟨#[]⟩ : ByteArray), .int .u64 0, .bool false, .string (⟨#[]⟩ : ByteArray)]) ?_ 1 _ rfl; (with_reducible repeat (first | refine blk_drewN ?_ _ | refine blk_drew ?_ | refine blk_alloc ?_ _)); refine blk_put (cs := #[.string (⟨#[]⟩ : ByteArray), .int .u64 0, .bool false, .string (⟨#[]⟩ : ByteArray)]) ?_ 0 _ rfl; (with_reducible repeat (first | refine blk_drewN ?_ _ | refine blk_drew ?_ | refine blk_alloc ?_ _)); refine blk_far ?_ NB154_173.out _; (with_reducible repeat (first | refine blk_drewN ?_ _ | refine blk_drew ?_ | refine blk_alloc ?_ _)); refine blk_far ?_ NB154_173.out _; (with_reducible repeat (first | refine blk_drewN ?_ _ | refine blk_drew ?_ | refine blk_alloc ?_ _)); refine blk_far ?_ NB154_173.out _; (with_reducible repeat (first | refine blk_drewN ?_ _ | refine blk_drew ?_ | refine blk_alloc ?_ _)); refine blk_far ?_ NB154_173.out _; (with_reducible repeat (first | refine blk_drewN ?_ _ | refine blk_drew ?_ | refine blk_alloc ?_ _)); exact BK154.out) Try.underlying37 rfl r2_) rfl ?_
  exact ⟨rf_, r27_, r28_, r30_⟩
 subst c13
 rw [if_pos rfl] at H
 by_cases c14 : t167.toList = a1.toList
 rotate_left
 ·rw [if_neg c14] at H
  have c14b0 := beq_eq_false_iff_ne.mpr c14
  have c14b1 := bne_iff_ne.mpr c14
  simp only [Option.some.injEq, Prod.mk.injEq] at H
  obtain ⟨rfl, rfl, rfl, rfl, rfl, rfl, rfl, rfl⟩ := H
  go_enter Try.func17, Try.ntmps17
  go_wp2_with (first | ((with_reducible refine gate_dst (N := 6) rfl ?_); refine box_event ?hg (N := 6) ?hd (cs := #[.string (⟨#[]⟩ : ByteArray), .int .u64 0, .bool false, .string (⟨#[]⟩ : ByteArray)]) (t := 37) ?hr ?_; (case hd => rfl); (case hg => rfl); (case hr => first | (go_simp; done) | (go_simp; rfl)); intro gb154 hg w26 hbox hb; replace HB := Aside0.mk (below_step r8_ hb); have BK154 := Aside0.mk (hbox); have GW154 := Aside0.mk ((by rw [hg]; exact (keep_size (w := w) (g := g) (row := none) r3_) : w.heap.size ≤ gb154)); have GE154 := Aside0.mk ((Nat.le_trans HW0.out (by rw [hg]; exact (keep_size (w := w) (g := g) (row := none) r3_) : w.heap.size ≤ gb154) : w0.heap.size ≤ gb154)); replace HK := Aside0.mk (KeepBut.trans r3_ (KeepBut.of_below hb g none) (.inl rfl)); have NB0_154 := Aside0.mk ((by rw [hg]; exact Nat.ne_of_lt (IsS82.lt (show IsS82 w0 _ g s0_0 s0_1 s0_2 s0_3 from by repeat (first | (with_reducible first | exact HI0.out | apply IsS82.alloc | apply IsS82.drewN | apply IsS82.drew | apply IsS82.set_0 | apply IsS82.set_2 | apply IsS82.set_3) | exact HI0.out))) : g ≠ gb154)); have NB154_0 := Aside0.mk ((by rw [hg]; exact Nat.ne_of_gt (IsS82.lt (show IsS82 w0 _ g s0_0 s0_1 s0_2 s0_3 from by repeat (first | (with_reducible first | exact HI0.out | apply IsS82.alloc | apply IsS82.drewN | apply IsS82.drew | apply IsS82.set_0 | apply IsS82.set_2 | apply IsS82.set_3) | exact HI0.out))) : gb154 ≠ g)); replace HI0 := Aside0.mk (IsS82.below r6_ hb); clear hb hbox hg) | ((with_reducible refine gate_callee (f := 20) rfl ?_); refine goesL_ (some 14) rfl rfl Try.func20 r2_ rfl #[.pointer (some ⟨g, 0, none⟩), .string a1, .int .u64 a2] rfl hA_ ?_; (with_reducible refine (qU.calls k g s0_0 s0_1 s0_2 s0_3 a1 a2 t155 t156 t157 t158 w0 _ ?side1 ?side2 A4.out).mono ?_); (case side1 => repeat (first | (with_reducible first | exact HI0.out | apply IsS82.alloc | apply IsS82.drewN | apply IsS82.drew | apply IsS82.set_0 | apply IsS82.set_2 | apply IsS82.set_3 | refine IsS82.far ?_ NB0_154.out _) | exact HI0.out)); (case side2 => repeat (first | (with_reducible first | exact HB.out | apply below_alloc | apply pw_below_drewN | apply below_drew1 | refine below_set ?_ (IsS82.ge HI0.out) | refine below_set ?_ GE154.out) | exact HB.out)); rintro e w27 ⟨rfl, hi, hb, hk⟩; refine ⟨_, rfl, ?_⟩; replace BK154 := Aside0.mk (KeepBut.blk hk (g' := gb154) (o := .cells #[.string (⟨#[]⟩ : ByteArray), .int .u64 0, .bool false, .string (⟨#[]⟩ : ByteArray)] 37 (0, 0)) r10_ NB154_0.out r17_); replace HK := Aside0.mk (KeepBut.trans r5_ hk (.inl rfl)); replace HB := Aside0.mk (hb); replace HI0 := Aside0.mk (hi); clear hb hk hi A4) | ((with_reducible refine gate_callee (f := 47) rfl ?_); refine goesL_ (some 22) rfl rfl Try.func47 r2_ rfl #[.pointer (some ⟨g, 0, none⟩), .string a1, .int .u64 a2] rfl hA_ ?_; (with_reducible refine (qv.calls k g t156 s0_1 t157 t158 a1 a2 t159 t160 t161 t162 w0 _ ?side1 ?side2 A10.out).mono ?_); (case side1 => repeat (first | (with_reducible first | exact HI0.out | apply IsS82.alloc | apply IsS82.drewN | apply IsS82.drew | apply IsS82.set_0 | apply IsS82.set_2 | apply IsS82.set_3 | refine IsS82.far ?_ NB0_154.out _) | exact HI0.out)); (case side2 => repeat (first | (with_reducible first | exact HB.out | apply below_alloc | apply pw_below_drewN | apply below_drew1 | refine below_set ?_ (IsS82.ge HI0.out) | refine below_set ?_ GE154.out) | exact HB.out)); rintro e w28 ⟨rfl, hi, hb, hk⟩; refine ⟨_, rfl, ?_⟩; replace BK154 := Aside0.mk (KeepBut.blk hk (g' := gb154) (o := .cells #[.string (⟨#[]⟩ : ByteArray), .int .u64 0, .bool false, .string (⟨#[]⟩ : ByteArray)] 37 (0, 0)) r10_ NB154_0.out r17_); replace HK := Aside0.mk (KeepBut.trans r5_ hk (.inl rfl)); replace HB := Aside0.mk (hb); replace HI0 := Aside0.mk (hi); clear hb hk hi A10) | ((with_reducible refine gate_callee (f := 46) rfl ?_); refine goesL_ (some 23) rfl rfl Try.func46 r2_ rfl #[.pointer (some ⟨g, 0, none⟩), .int .i64 t159] rfl hA_ ?_; (with_reducible refine (qf1.calls g t160 s0_1 t161 t162 t159 t163 t164 t165 t166 w0 _ ?side1 ?side2 A11.out).mono ?_); (case side1 => repeat (first | (with_reducible first | exact HI0.out | apply IsS82.alloc | apply IsS82.drewN | apply IsS82.drew | apply IsS82.set_0 | apply IsS82.set_2 | apply IsS82.set_3 | refine IsS82.far ?_ NB0_154.out _) | exact HI0.out)); (case side2 => repeat (first | (with_reducible first | exact HB.out | apply below_alloc | apply pw_below_drewN | apply below_drew1 | refine below_set ?_ (IsS82.ge HI0.out) | refine below_set ?_ GE154.out) | exact HB.out)); rintro e w29 ⟨rfl, hi, hb, hk⟩; refine ⟨_, rfl, ?_⟩; replace BK154 := Aside0.mk (KeepBut.blk hk (g' := gb154) (o := .cells #[.string (⟨#[]⟩ : ByteArray), .int .u64 0, .bool false, .string (⟨#[]⟩ : ByteArray)] 37 (0, 0)) r10_ NB154_0.out r17_); replace HK := Aside0.mk (KeepBut.trans r5_ hk (.inl rfl)); replace HB := Aside0.mk (hb); replace HI0 := Aside0.mk (hi); clear hb hk hi A11) | ((with_reducible refine gate_callee (f := 45) rfl ?_); refine goesL_ (some 26) rfl rfl Try.func45 r2_ rfl #[.string t163, .string a1, .int .u64 a2] rfl hA_ ?_; (with_reducible refine (qp.calls k t163 a1 a2 t167 t168 t169 t170 true t172 _ A12.out).mono ?_); rintro e w30 ⟨rfl, hb⟩; refine ⟨_, rfl, ?_⟩; replace BK154 := Aside0.mk (blk_below (g := gb154) (o := .cells #[.string (⟨#[]⟩ : ByteArray), .int .u64 0, .bool false, .string (⟨#[]⟩ : ByteArray)] 37 (0, 0)) r10_ hb); replace HK := Aside0.mk (KeepBut.trans r5_ (KeepBut.of_below hb g none) (.inl rfl)); replace HB := Aside0.mk (below_step r19_ hb); replace HI0 := Aside0.mk (IsS82.below r16_ hb); clear hb A12) | ((with_reducible refine gate_dst (N := 8) rfl ?_); refine box_event ?hg (N := 8) ?hd (cs := #[.string (⟨#[]⟩ : ByteArray), .int .u64 0, .bool false, .string (⟨#[]⟩ : ByteArray)]) (t := 37) ?hr ?_; (case hd => rfl); (case hg => rfl); (case hr => first | (go_simp; done) | (go_simp; rfl)); intro gb173 hg w31 hbox hb; replace HB := Aside0.mk (below_step r19_ hb); have BK173 := Aside0.mk (hbox); have GW173 := Aside0.mk ((by rw [hg]; exact (keep_size (w := w) (g := g) (row := none) r5_) : w.heap.size ≤ gb173)); have GE173 := Aside0.mk ((Nat.le_trans HW0.out (by rw [hg]; exact (keep_size (w := w) (g := g) (row := none) r5_) : w.heap.size ≤ gb173) : w0.heap.size ≤ gb173)); replace HK := Aside0.mk (KeepBut.trans r5_ (KeepBut.of_below hb g none) (.inl rfl)); have NB154_173 := Aside0.mk ((by rw [hg]; exact Nat.ne_of_lt (blk_lt (g := gb154) (o := .cells #[.string (⟨#[]⟩ : ByteArray), .int .u64 0, .bool false, .string (⟨#[]⟩ : ByteArray)] 37 (0, 0)) r10_) : gb154 ≠ gb173)); have NB173_154 := Aside0.mk ((by rw [hg]; exact Nat.ne_of_gt (blk_lt (g := gb154) (o := .cells #[.string (⟨#[]⟩ : ByteArray), .int .u64 0, .bool false, .string (⟨#[]⟩ : ByteArray)] 37 (0, 0)) r10_) : gb173 ≠ gb154)); replace BK154 := Aside0.mk (blk_below (g := gb154) (o := .cells #[.string (⟨#[]⟩ : ByteArray), .int .u64 0, .bool false, .string (⟨#[]⟩ : ByteArray)] 37 (0, 0)) r10_ hb); have NB0_173 := Aside0.mk ((by rw [hg]; exact Nat.ne_of_lt (IsS82.lt (show IsS82 w0 _ g t164 s0_1 t165 t166 from by repeat (first | (with_reducible first | exact HI0.out | apply IsS82.alloc | apply IsS82.drewN | apply IsS82.drew | apply IsS82.set_0 | apply IsS82.set_2 | apply IsS82.set_3 | refine IsS82.far ?_ NB0_154.out _) | exact HI0.out))) : g ≠ gb173)); have NB173_0 := Aside0.mk ((by rw [hg]; exact Nat.ne_of_gt (IsS82.lt (show IsS82 w0 _ g t164 s0_1 t165 t166 from by repeat (first | (with_reducible first | exact HI0.out | apply IsS82.alloc | apply IsS82.drewN | apply IsS82.drew | apply IsS82.set_0 | apply IsS82.set_2 | apply IsS82.set_3 | refine IsS82.far ?_ NB0_154.out _) | exact HI0.out))) : gb173 ≠ g)); replace HI0 := Aside0.mk (IsS82.below r16_ hb); clear hb hbox hg; have hnb32 := NB173_154.out; have hnc32 := NB154_173.out; have hnb33 := NB173_0.out; have hnc33 := NB0_173.out; have hcz34_0 : w31.cell? ⟨gb173, 0, none⟩ = some (.string (⟨#[]⟩ : ByteArray)) := (blk_cell BK173.out 0).trans rfl; have hcz34_1 : w31.cell? ⟨gb173, 1, none⟩ = some (.int .u64 0) := (blk_cell BK173.out 1).trans rfl; have hcz34_2 : w31.cell? ⟨gb173, 2, none⟩ = some (.bool false) := (blk_cell BK173.out 2).trans rfl; have hcz34_3 : w31.cell? ⟨gb173, 3, none⟩ = some (.string (⟨#[]⟩ : ByteArray)) := (blk_cell BK173.out 3).trans rfl; have hfz34_0 := blk_frozen BK173.out 0; have hfz34_1 := blk_frozen BK173.out 1; have hfz34_2 := blk_frozen BK173.out 2; have hfz34_3 := blk_frozen BK173.out 3; have hnb35 := NB154_0.out; have hnc35 := NB0_154.out; have hcz36_0 : w31.cell? ⟨gb154, 0, none⟩ = some (.string (⟨#[]⟩ : ByteArray)) := (blk_cell BK154.out 0).trans rfl; have hcz36_1 : w31.cell? ⟨gb154, 1, none⟩ = some (.int .u64 0) := (blk_cell BK154.out 1).trans rfl; have hcz36_2 : w31.cell? ⟨gb154, 2, none⟩ = some (.bool false) := (blk_cell BK154.out 2).trans rfl; have hcz36_3 : w31.cell? ⟨gb154, 3, none⟩ = some (.string (⟨#[]⟩ : ByteArray)) := (blk_cell BK154.out 3).trans rfl; have hfz36_0 := blk_frozen BK154.out 0; have hfz36_1 := blk_frozen BK154.out 1; have hfz36_2 := blk_frozen BK154.out 2; have hfz36_3 := blk_frozen BK154.out 3))
  refine bodyPost_ret (results_ct rfl _ _ gb154 37 #[.string (⟨#[]⟩ : ByteArray), .int .u64 0, .bool false, .string (⟨#[]⟩ : ByteArray)] (0, 0) _ rfl (by (with_reducible repeat (first | refine blk_drewN ?_ _ | refine blk_drew ?_ | refine blk_alloc ?_ _)); refine blk_put (cs := #[.string (⟨#[]⟩ : ByteArray), .int .u64 0, .bool false, .string (⟨#[]⟩ : ByteArray)]) ?_ 3 _ rfl; (with_reducible repeat (first | refine blk_drewN ?_ _ | refine blk_drew ?_ | refine blk_alloc ?_ _)); refine blk_put (cs := #[.string (⟨#[]⟩ : ByteArray), .int .u64 0, .bool false, .string (⟨#[]⟩ : ByteArray)]) ?_ 2 _ rfl; (with_reducible repeat (first | refine blk_drewN ?_ _ | refine blk_drew ?_ | refine blk_alloc ?_ _)); refine blk_put (cs := #[.string (⟨#[]⟩ : ByteArray), .int .u64 0, .bool false, .string (⟨#[]⟩ : ByteArray)]) ?_ 1 _ rfl; (with_reducible repeat (first | refine blk_drewN ?_ _ | refine blk_drew ?_ | refine blk_alloc ?_ _)); refine blk_put (cs := #[.string (⟨#[]⟩ : ByteArray), .int .u64 0, .bool false, .string (⟨#[]⟩ : ByteArray)]) ?_ 0 _ rfl; (with_reducible repeat (first | refine blk_drewN ?_ _ | refine blk_drew ?_ | refine blk_alloc ?_ _)); refine blk_far ?_ NB154_173.out _; (with_reducible repeat (first | refine blk_drewN ?_ _ | refine blk_drew ?_ | refine blk_alloc ?_ _)); refine blk_far ?_ NB154_173.out _; (with_reducible repeat (first | refine blk_drewN ?_ _ | refine blk_drew ?_ | refine blk_alloc ?_ _)); refine blk_far ?_ NB154_173.out _; (with_reducible repeat (first | refine blk_drewN ?_ _ | refine blk_drew ?_ | refine blk_alloc ?_ _)); refine blk_far ?_ NB154_173.out _; (with_reducible repeat (first | refine blk_drewN ?_ _ | refine blk_drew ?_ | refine blk_alloc ?_ _)); exact BK154.out) Try.underlying37 rfl r2_) rfl ?_
  exact ⟨rf_, r27_, r28_, r30_⟩
 rw [if_pos c14] at H
 have c14b0 := beq_iff_eq.mpr c14
 have c14b1 := bne_eq_false_iff_eq.mpr c14
 clear c14
 simp only [Option.some.injEq, Prod.mk.injEq] at H
 obtain ⟨rfl, rfl, rfl, rfl, rfl, rfl, rfl, rfl⟩ := H
 go_enter Try.func17, Try.ntmps17
 go_wp2_with (first | ((with_reducible refine gate_dst (N := 6) rfl ?_); refine box_event ?hg (N := 6) ?hd (cs := #[.string (⟨#[]⟩ : ByteArray), .int .u64 0, .bool false, .string (⟨#[]⟩ : ByteArray)]) (t := 37) ?hr ?_; (case hd => rfl); (case hg => rfl); (case hr => first | (go_simp; done) | (go_simp; rfl)); intro gb154 hg w15 hbox hb; replace HB := Aside0.mk (below_step r8_ hb); have BK154 := Aside0.mk (hbox); have GW154 := Aside0.mk ((by rw [hg]; exact (keep_size (w := w) (g := g) (row := none) r3_) : w.heap.size ≤ gb154)); have GE154 := Aside0.mk ((Nat.le_trans HW0.out (by rw [hg]; exact (keep_size (w := w) (g := g) (row := none) r3_) : w.heap.size ≤ gb154) : w0.heap.size ≤ gb154)); replace HK := Aside0.mk (KeepBut.trans r3_ (KeepBut.of_below hb g none) (.inl rfl)); have NB0_154 := Aside0.mk ((by rw [hg]; exact Nat.ne_of_lt (IsS82.lt (show IsS82 w0 _ g s0_0 s0_1 s0_2 s0_3 from by repeat (first | (with_reducible first | exact HI0.out | apply IsS82.alloc | apply IsS82.drewN | apply IsS82.drew | apply IsS82.set_0 | apply IsS82.set_2 | apply IsS82.set_3) | exact HI0.out))) : g ≠ gb154)); have NB154_0 := Aside0.mk ((by rw [hg]; exact Nat.ne_of_gt (IsS82.lt (show IsS82 w0 _ g s0_0 s0_1 s0_2 s0_3 from by repeat (first | (with_reducible first | exact HI0.out | apply IsS82.alloc | apply IsS82.drewN | apply IsS82.drew | apply IsS82.set_0 | apply IsS82.set_2 | apply IsS82.set_3) | exact HI0.out))) : gb154 ≠ g)); replace HI0 := Aside0.mk (IsS82.below r6_ hb); clear hb hbox hg) | ((with_reducible refine gate_callee (f := 20) rfl ?_); refine goesL_ (some 14) rfl rfl Try.func20 r2_ rfl #[.pointer (some ⟨g, 0, none⟩), .string a1, .int .u64 a2] rfl hA_ ?_; (with_reducible refine (qU.calls k g s0_0 s0_1 s0_2 s0_3 a1 a2 t155 t156 t157 t158 w0 _ ?side1 ?side2 A4.out).mono ?_); (case side1 => repeat (first | (with_reducible first | exact HI0.out | apply IsS82.alloc | apply IsS82.drewN | apply IsS82.drew | apply IsS82.set_0 | apply IsS82.set_2 | apply IsS82.set_3 | refine IsS82.far ?_ NB0_154.out _) | exact HI0.out)); (case side2 => repeat (first | (with_reducible first | exact HB.out | apply below_alloc | apply pw_below_drewN | apply below_drew1 | refine below_set ?_ (IsS82.ge HI0.out) | refine below_set ?_ GE154.out) | exact HB.out)); rintro e w16 ⟨rfl, hi, hb, hk⟩; refine ⟨_, rfl, ?_⟩; replace BK154 := Aside0.mk (KeepBut.blk hk (g' := gb154) (o := .cells #[.string (⟨#[]⟩ : ByteArray), .int .u64 0, .bool false, .string (⟨#[]⟩ : ByteArray)] 37 (0, 0)) r10_ NB154_0.out r17_); replace HK := Aside0.mk (KeepBut.trans r5_ hk (.inl rfl)); replace HB := Aside0.mk (hb); replace HI0 := Aside0.mk (hi); clear hb hk hi A4) | ((with_reducible refine gate_callee (f := 47) rfl ?_); refine goesL_ (some 22) rfl rfl Try.func47 r2_ rfl #[.pointer (some ⟨g, 0, none⟩), .string a1, .int .u64 a2] rfl hA_ ?_; (with_reducible refine (qv.calls k g t156 s0_1 t157 t158 a1 a2 t159 t160 t161 t162 w0 _ ?side1 ?side2 A10.out).mono ?_); (case side1 => repeat (first | (with_reducible first | exact HI0.out | apply IsS82.alloc | apply IsS82.drewN | apply IsS82.drew | apply IsS82.set_0 | apply IsS82.set_2 | apply IsS82.set_3 | refine IsS82.far ?_ NB0_154.out _) | exact HI0.out)); (case side2 => repeat (first | (with_reducible first | exact HB.out | apply below_alloc | apply pw_below_drewN | apply below_drew1 | refine below_set ?_ (IsS82.ge HI0.out) | refine below_set ?_ GE154.out) | exact HB.out)); rintro e w17 ⟨rfl, hi, hb, hk⟩; refine ⟨_, rfl, ?_⟩; replace BK154 := Aside0.mk (KeepBut.blk hk (g' := gb154) (o := .cells #[.string (⟨#[]⟩ : ByteArray), .int .u64 0, .bool false, .string (⟨#[]⟩ : ByteArray)] 37 (0, 0)) r10_ NB154_0.out r17_); replace HK := Aside0.mk (KeepBut.trans r5_ hk (.inl rfl)); replace HB := Aside0.mk (hb); replace HI0 := Aside0.mk (hi); clear hb hk hi A10) | ((with_reducible refine gate_callee (f := 46) rfl ?_); refine goesL_ (some 23) rfl rfl Try.func46 r2_ rfl #[.pointer (some ⟨g, 0, none⟩), .int .i64 t159] rfl hA_ ?_; (with_reducible refine (qf1.calls g t160 s0_1 t161 t162 t159 t163 t164 t165 t166 w0 _ ?side1 ?side2 A11.out).mono ?_); (case side1 => repeat (first | (with_reducible first | exact HI0.out | apply IsS82.alloc | apply IsS82.drewN | apply IsS82.drew | apply IsS82.set_0 | apply IsS82.set_2 | apply IsS82.set_3 | refine IsS82.far ?_ NB0_154.out _) | exact HI0.out)); (case side2 => repeat (first | (with_reducible first | exact HB.out | apply below_alloc | apply pw_below_drewN | apply below_drew1 | refine below_set ?_ (IsS82.ge HI0.out) | refine below_set ?_ GE154.out) | exact HB.out)); rintro e w18 ⟨rfl, hi, hb, hk⟩; refine ⟨_, rfl, ?_⟩; replace BK154 := Aside0.mk (KeepBut.blk hk (g' := gb154) (o := .cells #[.string (⟨#[]⟩ : ByteArray), .int .u64 0, .bool false, .string (⟨#[]⟩ : ByteArray)] 37 (0, 0)) r10_ NB154_0.out r17_); replace HK := Aside0.mk (KeepBut.trans r5_ hk (.inl rfl)); replace HB := Aside0.mk (hb); replace HI0 := Aside0.mk (hi); clear hb hk hi A11) | ((with_reducible refine gate_callee (f := 45) rfl ?_); refine goesL_ (some 26) rfl rfl Try.func45 r2_ rfl #[.string t163, .string a1, .int .u64 a2] rfl hA_ ?_; (with_reducible refine (qp.calls k t163 a1 a2 t167 t168 t169 t170 true t172 _ A12.out).mono ?_); rintro e w19 ⟨rfl, hb⟩; refine ⟨_, rfl, ?_⟩; replace BK154 := Aside0.mk (blk_below (g := gb154) (o := .cells #[.string (⟨#[]⟩ : ByteArray), .int .u64 0, .bool false, .string (⟨#[]⟩ : ByteArray)] 37 (0, 0)) r10_ hb); replace HK := Aside0.mk (KeepBut.trans r5_ (KeepBut.of_below hb g none) (.inl rfl)); replace HB := Aside0.mk (below_step r19_ hb); replace HI0 := Aside0.mk (IsS82.below r16_ hb); clear hb A12) | ((with_reducible refine gate_dst (N := 8) rfl ?_); refine box_event ?hg (N := 8) ?hd (cs := #[.string (⟨#[]⟩ : ByteArray), .int .u64 0, .bool false, .string (⟨#[]⟩ : ByteArray)]) (t := 37) ?hr ?_; (case hd => rfl); (case hg => rfl); (case hr => first | (go_simp; done) | (go_simp; rfl)); intro gb173 hg w20 hbox hb; replace HB := Aside0.mk (below_step r19_ hb); have BK173 := Aside0.mk (hbox); have GW173 := Aside0.mk ((by rw [hg]; exact (keep_size (w := w) (g := g) (row := none) r5_) : w.heap.size ≤ gb173)); have GE173 := Aside0.mk ((Nat.le_trans HW0.out (by rw [hg]; exact (keep_size (w := w) (g := g) (row := none) r5_) : w.heap.size ≤ gb173) : w0.heap.size ≤ gb173)); replace HK := Aside0.mk (KeepBut.trans r5_ (KeepBut.of_below hb g none) (.inl rfl)); have NB154_173 := Aside0.mk ((by rw [hg]; exact Nat.ne_of_lt (blk_lt (g := gb154) (o := .cells #[.string (⟨#[]⟩ : ByteArray), .int .u64 0, .bool false, .string (⟨#[]⟩ : ByteArray)] 37 (0, 0)) r10_) : gb154 ≠ gb173)); have NB173_154 := Aside0.mk ((by rw [hg]; exact Nat.ne_of_gt (blk_lt (g := gb154) (o := .cells #[.string (⟨#[]⟩ : ByteArray), .int .u64 0, .bool false, .string (⟨#[]⟩ : ByteArray)] 37 (0, 0)) r10_) : gb173 ≠ gb154)); replace BK154 := Aside0.mk (blk_below (g := gb154) (o := .cells #[.string (⟨#[]⟩ : ByteArray), .int .u64 0, .bool false, .string (⟨#[]⟩ : ByteArray)] 37 (0, 0)) r10_ hb); have NB0_173 := Aside0.mk ((by rw [hg]; exact Nat.ne_of_lt (IsS82.lt (show IsS82 w0 _ g t164 s0_1 t165 t166 from by repeat (first | (with_reducible first | exact HI0.out | apply IsS82.alloc | apply IsS82.drewN | apply IsS82.drew | apply IsS82.set_0 | apply IsS82.set_2 | apply IsS82.set_3 | refine IsS82.far ?_ NB0_154.out _) | exact HI0.out))) : g ≠ gb173)); have NB173_0 := Aside0.mk ((by rw [hg]; exact Nat.ne_of_gt (IsS82.lt (show IsS82 w0 _ g t164 s0_1 t165 t166 from by repeat (first | (with_reducible first | exact HI0.out | apply IsS82.alloc | apply IsS82.drewN | apply IsS82.drew | apply IsS82.set_0 | apply IsS82.set_2 | apply IsS82.set_3 | refine IsS82.far ?_ NB0_154.out _) | exact HI0.out))) : gb173 ≠ g)); replace HI0 := Aside0.mk (IsS82.below r16_ hb); clear hb hbox hg; have hnb21 := NB173_154.out; have hnc21 := NB154_173.out; have hnb22 := NB173_0.out; have hnc22 := NB0_173.out; have hcz23_0 : w20.cell? ⟨gb173, 0, none⟩ = some (.string (⟨#[]⟩ : ByteArray)) := (blk_cell BK173.out 0).trans rfl; have hcz23_1 : w20.cell? ⟨gb173, 1, none⟩ = some (.int .u64 0) := (blk_cell BK173.out 1).trans rfl; have hcz23_2 : w20.cell? ⟨gb173, 2, none⟩ = some (.bool false) := (blk_cell BK173.out 2).trans rfl; have hcz23_3 : w20.cell? ⟨gb173, 3, none⟩ = some (.string (⟨#[]⟩ : ByteArray)) := (blk_cell BK173.out 3).trans rfl; have hfz23_0 := blk_frozen BK173.out 0; have hfz23_1 := blk_frozen BK173.out 1; have hfz23_2 := blk_frozen BK173.out 2; have hfz23_3 := blk_frozen BK173.out 3; have hnb24 := NB154_0.out; have hnc24 := NB0_154.out; have hcz25_0 : w20.cell? ⟨gb154, 0, none⟩ = some (.string (⟨#[]⟩ : ByteArray)) := (blk_cell BK154.out 0).trans rfl; have hcz25_1 : w20.cell? ⟨gb154, 1, none⟩ = some (.int .u64 0) := (blk_cell BK154.out 1).trans rfl; have hcz25_2 : w20.cell? ⟨gb154, 2, none⟩ = some (.bool false) := (blk_cell BK154.out 2).trans rfl; have hcz25_3 : w20.cell? ⟨gb154, 3, none⟩ = some (.string (⟨#[]⟩ : ByteArray)) := (blk_cell BK154.out 3).trans rfl; have hfz25_0 := blk_frozen BK154.out 0; have hfz25_1 := blk_frozen BK154.out 1; have hfz25_2 := blk_frozen BK154.out 2; have hfz25_3 := blk_frozen BK154.out 3))
 refine bodyPost_ret (results_ct rfl _ _ gb154 37 #[.string t167, .int .u64 t168, .bool t169, .string t170] (0, 0) _ rfl (by (with_reducible repeat (first | refine blk_drewN ?_ _ | refine blk_drew ?_ | refine blk_alloc ?_ _)); refine blk_put (cs := #[.string t167, .int .u64 t168, .bool t169, .string (⟨#[]⟩ : ByteArray)]) ?_ 3 _ rfl; (with_reducible repeat (first | refine blk_drewN ?_ _ | refine blk_drew ?_ | refine blk_alloc ?_ _)); refine blk_put (cs := #[.string t167, .int .u64 t168, .bool false, .string (⟨#[]⟩ : ByteArray)]) ?_ 2 _ rfl; (with_reducible repeat (first | refine blk_drewN ?_ _ | refine blk_drew ?_ | refine blk_alloc ?_ _)); refine blk_put (cs := #[.string t167, .int .u64 0, .bool false, .string (⟨#[]⟩ : ByteArray)]) ?_ 1 _ rfl; (with_reducible repeat (first | refine blk_drewN ?_ _ | refine blk_drew ?_ | refine blk_alloc ?_ _)); refine blk_put (cs := #[.string (⟨#[]⟩ : ByteArray), .int .u64 0, .bool false, .string (⟨#[]⟩ : ByteArray)]) ?_ 0 _ rfl; (with_reducible repeat (first | refine blk_drewN ?_ _ | refine blk_drew ?_ | refine blk_alloc ?_ _)); refine blk_far ?_ NB154_173.out _; (with_reducible repeat (first | refine blk_drewN ?_ _ | refine blk_drew ?_ | refine blk_alloc ?_ _)); refine blk_far ?_ NB154_173.out _; (with_reducible repeat (first | refine blk_drewN ?_ _ | refine blk_drew ?_ | refine blk_alloc ?_ _)); refine blk_far ?_ NB154_173.out _; (with_reducible repeat (first | refine blk_drewN ?_ _ | refine blk_drew ?_ | refine blk_alloc ?_ _)); refine blk_far ?_ NB154_173.out _; (with_reducible repeat (first | refine blk_drewN ?_ _ | refine blk_drew ?_ | refine blk_alloc ?_ _)); exact BK154.out) Try.underlying37 rfl r2_) rfl ?_
 exact ⟨rf_, r27_, r28_, r30_⟩

end Go.Proofs.Ytgdkikkjaofbfaa.P
