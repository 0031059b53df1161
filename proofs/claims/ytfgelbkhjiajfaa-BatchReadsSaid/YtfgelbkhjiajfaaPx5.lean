-- Printed by a program of this session's own (wip/tools/pprint.sh, over the kit's print, with given contracts): not typed by hand.
import Derived.Test.YtfgelbkhjiajfaaPx0
import Derived.Test.YtfgelbkhjiajfaaPx1
import Derived.Test.YtfgelbkhjiajfaaPx3
import Derived.Test.YtfgelbkhjiajfaaPx4
namespace Go.Proofs.Ytfgelbkhjiajfaa.P
open Go.RowKit Go.Proofs.YtfgelbkhjiajfaaW.PrintWords Go.Proofs.YtfgelbkhjiajfaaW.PrintLast Go.Proofs.YtfgelbkhjiajfaaW.PrintMore
attribute [local go_sem] max2_int min2_int max_two min_two max_three min_three max_four min_four   -- for this text's walks alone
set_option linter.unusedVariables false
set_option linter.unusedSimpArgs false

attribute [local go_sem high] eqA32
/-! ### batch_Decode: function 20 -/
def batch_Decode.number (k : Nat) (s : ByteArray) (g : Bool) : Option (Int × ByteArray × Bool) := (num_Take.f k s).bind fun t => some (t.1, t.2.1, g && t.2.2)
def batch_Decode.take (k : Nat) (s : ByteArray) (g : Bool) : Option (ByteArray × ByteArray × Bool) := (batch_Decode.number k s g).bind fun n => if n.2.2 = true then (if n.1 > IntKind.u64.wrap (n.2.1.size : Int) then some ((⟨#[]⟩ : ByteArray), n.2.1, false) else (if 0 ≤ n.1 then (if n.1 ≤ (n.2.1.size : Int) then some (n.2.1.extract 0 n.1.toNat, n.2.1.extract n.1.toNat n.2.1.size, true) else none) else none)) else some ((⟨#[]⟩ : ByteArray), n.2.1, false)
structure batch_Decode.Mv (p q : Nat) (w w' : World) : Prop where
  size : w.heap.size ≤ w'.heap.size
  keep : ∀ k, k < w.heap.size → k ≠ p → k ≠ q → w'.heap[k]? = w.heap[k]?
  bel : ∀ B, B ≤ p → B ≤ q → B ≤ w.heap.size → Below B w w'
theorem batch_Decode.Mv.refl (p q : Nat) (w : World) : batch_Decode.Mv p q w w := ⟨Nat.le_refl _, fun _ _ _ _ => rfl, fun B _ _ _ => Below.refl B w⟩
theorem batch_Decode.Mv.trans {p q : Nat} {w w1 w2 : World} (h : batch_Decode.Mv p q w w1) (h2 : batch_Decode.Mv p q w1 w2) : batch_Decode.Mv p q w w2 :=
  ⟨Nat.le_trans h.size h2.size, fun k hk hp hq => (h2.keep k (Nat.lt_of_lt_of_le hk h.size) hp hq).trans (h.keep k hk hp hq), fun B hp hq hB => (h.bel B hp hq hB).trans (h2.bel B hp hq (Nat.le_trans hB h.size))⟩
theorem batch_Decode.Mv.below {p q : Nat} {w w1 : World} (h : Below w.heap.size w w1) : batch_Decode.Mv p q w w1 := ⟨h.size, fun k hk _ _ => h.block k hk, fun B _ _ hB => h.mono hB⟩
theorem batch_Decode.Mv.setp (p q i : Nat) (w : World) (v : Value) : batch_Decode.Mv p q w (w.setCell ⟨p, i, none⟩ v) :=
  ⟨by rw [World.size_setCell]; exact Nat.le_refl _, fun k _ hp _ => Below.heap_setCell w ⟨p, i, none⟩ v k hp, fun B hp _ _ => (Below.refl B w).setCell (p := ⟨p, i, none⟩) hp v⟩
theorem batch_Decode.Mv.setq (p q i : Nat) (w : World) (v : Value) : batch_Decode.Mv p q w (w.setCell ⟨q, i, none⟩ v) :=
  ⟨by rw [World.size_setCell]; exact Nat.le_refl _, fun k _ _ hq => Below.heap_setCell w ⟨q, i, none⟩ v k hq, fun B _ hq _ => (Below.refl B w).setCell (p := ⟨q, i, none⟩) hq v⟩
theorem batch_Decode.Mv.blk {p q g : Nat} {w w' : World} {o : Obj} (h : batch_Decode.Mv p q w w') (hb : w.heap[g]? = some o) (hp : g ≠ p) (hq : g ≠ q) : w'.heap[g]? = some o := (h.keep g (blk_lt hb) hp hq).trans hb
/-- The two variables that the literals share: what is left, and whether all was good. -/
def batch_Decode.St (w : World) (p q : Nat) (s : ByteArray) (g : Bool) : Prop := p ≠ q ∧ w.heap[p]? = some (.cells #[.string s] 9 (0, 0)) ∧ w.heap[q]? = some (.cells #[.bool g] 4 (0, 0))
theorem batch_Decode.St.put {w : World} {p q : Nat} {s s' : ByteArray} {g g' : Bool} (h : batch_Decode.St w p q s g) : batch_Decode.St ((w.setCell ⟨q, 0, none⟩ (.bool g')).setCell ⟨p, 0, none⟩ (.string s')) p q s' g' :=
  ⟨h.1, blk_put (cs' := #[.string s']) (blk_far (p := ⟨q, 0, none⟩) h.2.1 h.1 (.bool g')) 0 (.string s') rfl, blk_far (p := ⟨p, 0, none⟩) (blk_put (cs' := #[.bool g']) h.2.2 0 (.bool g') rfl) (Ne.symm h.1) (.string s')⟩
theorem batch_Decode.St.putq {w : World} {p q : Nat} {s : ByteArray} {g g' : Bool} (h : batch_Decode.St w p q s g) : batch_Decode.St (w.setCell ⟨q, 0, none⟩ (.bool g')) p q s g' :=
  ⟨h.1, blk_far (p := ⟨q, 0, none⟩) h.2.1 h.1 (.bool g'), blk_put (cs' := #[.bool g']) h.2.2 0 (.bool g') rfl⟩
theorem batch_Decode.St.putp {w : World} {p q : Nat} {s s' : ByteArray} {g : Bool} (h : batch_Decode.St w p q s g) : batch_Decode.St (w.setCell ⟨p, 0, none⟩ (.string s')) p q s' g :=
  ⟨h.1, blk_put (cs' := #[.string s']) h.2.1 0 (.string s') rfl, blk_far (p := ⟨p, 0, none⟩) h.2.2 (Ne.symm h.1) (.string s')⟩
theorem batch_Decode.St.below {w w' : World} {p q : Nat} {s : ByteArray} {g : Bool} (h : batch_Decode.St w p q s g) (hb : Below w.heap.size w w') : batch_Decode.St w' p q s g := ⟨h.1, blk_below h.2.1 hb, blk_below h.2.2 hb⟩
theorem batch_Decode.St.drewN {w : World} {p q : Nat} {s : ByteArray} {g : Bool} (h : batch_Decode.St w p q s g) (n : Nat) : batch_Decode.St (w.drewN n) p q s g := h
set_option maxHeartbeats 1600000 in
set_option maxRecDepth 100000 in
theorem batch_Decode.numC (k : Nat) (p q : Nat) (s s' : ByteArray) (g g' : Bool) (n : Int) (w : World) (hs : batch_Decode.St w p q s g) (h : batch_Decode.number k s g = some (n, s', g')) :
    Calls Try.prog 33 #[.pointer (some ⟨p, 0, none⟩), .pointer (some ⟨q, 0, none⟩)] w fun e w' => e = .returned (.int .u64 n) ∧ batch_Decode.St w' p q s' g' ∧ batch_Decode.Mv p q w w' := by
  unfold batch_Decode.number at h
  replace h := Option.bind_eq_some_iff.mp h
  obtain ⟨⟨n1, s1, b1⟩, hn, h⟩ := h
  simp only [Option.some.injEq, Prod.mk.injEq] at h
  obtain ⟨rfl, rfl, rfl⟩ := h
  have HN := Lib.hid hn
  have HS := Aside0.mk hs
  clear hn hs
  have c_ : w.cell? ⟨p, 0, none⟩ = some (.string s) := (blk_cell HS.out.2.1 0).trans rfl
  go_enter Try.func33, Try.ntmps33
  go_wp2_with (fail)
  clear c_
  refine (num_Take.calls k s n1 s1 b1 _ HN.out).mono ?_
  rintro e w1 ⟨rfl, ⟨nd, rfl⟩⟩
  have HS1 := Aside0.mk (HS.out.drewN nd)
  have HM1 : Aside0 (batch_Decode.Mv p q w (w.drewN nd)) := ⟨batch_Decode.Mv.below (pw_below_drewN (Below.refl _ _) nd)⟩
  clear HS
  generalize w.drewN nd = w1 at HS1 HM1 ⊢
  have c1_ : w1.cell? ⟨q, 0, none⟩ = some (.bool g) := (blk_cell HS1.out.2.2 0).trans rfl
  have f1_ := blk_frozen HS1.out.2.2 0
  have f2_ := blk_frozen (blk_far (p := ⟨q, 0, none⟩) HS1.out.2.1 HS1.out.1 (.bool (g && b1))) 0
  have c2_ : (w1.setCell ⟨q, 0, none⟩ (.bool (g && b1))).cell? ⟨p, 0, none⟩ = some (.string s) := (blk_cell (blk_far (p := ⟨q, 0, none⟩) HS1.out.2.1 HS1.out.1 (.bool (g && b1))) 0).trans rfl
  have HF := Aside0.mk (HS1.out.put (s' := s1) (g' := g && b1))
  have HMF := Aside0.mk (HM1.out.trans ((batch_Decode.Mv.setq p q 0 w1 (.bool (g && b1))).trans (batch_Decode.Mv.setp p q 0 _ (.string s1))))
  clear HS1 HM1
  cases g with
  | true =>
    rw [Bool.true_and] at HF HMF f2_ c2_
    go_wp2
    go_ret
    exact ⟨rfl, HF.out, HMF.out⟩
  | false =>
    rw [Bool.false_and] at HF HMF f2_ c2_
    go_wp2
    go_ret
    exact ⟨rfl, HF.out, HMF.out⟩
set_option maxHeartbeats 1600000 in
set_option maxRecDepth 100000 in
theorem batch_Decode.takC (k : Nat) (p q nb : Nat) (s s' r : ByteArray) (g g' : Bool) (w : World) (hs : batch_Decode.St w p q s g) (hn : w.heap[nb]? = some (.cells #[.func (.func 33) #[] #[.pointer (some ⟨p, 0, none⟩), .pointer (some ⟨q, 0, none⟩)]] 63 (0, 0))) (h : batch_Decode.take k s g = some (r, s', g')) :
    Calls Try.prog 35 #[.pointer (some ⟨nb, 0, none⟩), .pointer (some ⟨q, 0, none⟩), .pointer (some ⟨p, 0, none⟩)] w fun e w' => e = .returned (.string r) ∧ batch_Decode.St w' p q s' g' ∧ batch_Decode.Mv p q w w' := by
  unfold batch_Decode.take at h
  replace h := Option.bind_eq_some_iff.mp h
  obtain ⟨⟨n1, s1, g1⟩, hn1, h⟩ := h
  replace h : (if g1 = true then (if n1 > IntKind.u64.wrap (s1.size : Int) then some ((⟨#[]⟩ : ByteArray), s1, false) else (if 0 ≤ n1 then (if n1 ≤ (s1.size : Int) then some (s1.extract 0 n1.toNat, s1.extract n1.toNat s1.size, true) else none) else none)) else some ((⟨#[]⟩ : ByteArray), s1, false)) = some (r, s', g') := h
  have HN := Lib.hid hn1
  have HS := Aside0.mk hs
  have HH := Lib.hid h
  have c_ : w.cell? ⟨nb, 0, none⟩ = some (.func (.func 33) #[] #[.pointer (some ⟨p, 0, none⟩), .pointer (some ⟨q, 0, none⟩)]) := (blk_cell hn 0).trans rfl
  clear hn hs hn1 h
  go_enter Try.func35, Try.ntmps35
  go_wp2_with (fail)
  clear c_
  refine (batch_Decode.numC k p q s s1 g g1 n1 _ HS.out HN.out).mono ?_
  rintro e w1 ⟨rfl, hs1, hm1⟩
  have HS1 := Aside0.mk hs1
  have HM1 := Aside0.mk hm1
  clear hs1 hm1 HS HN
  have c1_ : w1.cell? ⟨q, 0, none⟩ = some (.bool g1) := (blk_cell HS1.out.2.2 0).trans rfl
  have c2_ : w1.cell? ⟨p, 0, none⟩ = some (.string s1) := (blk_cell HS1.out.2.1 0).trans rfl
  have f1_ := blk_frozen HS1.out.2.2 0
  have f2_ := blk_frozen HS1.out.2.1 0
  cases g1 with
  | false =>
    have hh := HH.out
    rw [if_neg (by decide)] at hh
    simp only [Option.some.injEq, Prod.mk.injEq] at hh
    obtain ⟨rfl, rfl, rfl⟩ := hh
    clear HH
    have HF := Aside0.mk (HS1.out.putq (g' := false))
    have HMF := Aside0.mk (HM1.out.trans (batch_Decode.Mv.setq p q 0 w1 (.bool false)))
    clear HS1 HM1
    go_wp2
    go_ret
    exact ⟨rfl, HF.out, HMF.out⟩
  | true =>
    have hh := HH.out
    rw [if_pos rfl] at hh
    clear HH
    by_cases hc : n1 > IntKind.u64.wrap (s1.size : Int)
    · rw [if_pos hc] at hh
      simp only [Option.some.injEq, Prod.mk.injEq] at hh
      obtain ⟨rfl, rfl, rfl⟩ := hh
      have hcb : decide (IntKind.u64.wrap (s1.size : Int) < n1) = true := decide_eq_true hc
      clear hc
      have HF := Aside0.mk (HS1.out.putq (g' := false))
      have HMF := Aside0.mk (HM1.out.trans (batch_Decode.Mv.setq p q 0 w1 (.bool false)))
      clear HS1 HM1
      go_wp2
      go_ret
      exact ⟨rfl, HF.out, HMF.out⟩
    · rw [if_neg hc] at hh
      have hcb : decide (IntKind.u64.wrap (s1.size : Int) < n1) = false := decide_eq_false hc
      clear hc
      by_cases h0 : 0 ≤ n1
      case neg => rw [if_neg h0] at hh; exact absurd hh (by simp)
      rw [if_pos h0] at hh
      by_cases h1 : n1 ≤ (s1.size : Int)
      case neg => rw [if_neg h1] at hh; exact absurd hh (by simp)
      rw [if_pos h1] at hh
      simp only [Option.some.injEq, Prod.mk.injEq] at hh
      obtain ⟨rfl, rfl, rfl⟩ := hh
      have HF := Aside0.mk (HS1.out.putp (s' := s1.extract n1.toNat s1.size))
      have HMF := Aside0.mk (HM1.out.trans (batch_Decode.Mv.setp p q 0 w1 (.string (s1.extract n1.toNat s1.size))))
      clear HS1 HM1
      go_wp2
      go_ret
      exact ⟨rfl, HF.out, HMF.out⟩
def batch_Decode.go (k : Nat) : Nat → ByteArray → Bool → List (S34) → Option (ByteArray × Bool × List (S34))
  | 0, s, g, l => some (s, g, l)
  | m + 1, s, g, l => (batch_Decode.number k s g).bind fun a => (batch_Decode.take k a.2.1 a.2.2).bind fun b => if a.1 = 1 then batch_Decode.go k m b.2.1 (b.2.2 && decide (a.1 ≤ 1)) (l ++ [⟨true, b.1, ⟨#[]⟩⟩]) else (batch_Decode.take k b.2.1 b.2.2).bind fun c => batch_Decode.go k m c.2.1 (c.2.2 && decide (a.1 ≤ 1)) (l ++ [⟨false, b.1, c.1⟩])
def batch_Decode.fin (a : Int) (s : ByteArray) (g : Bool) (l : List (S34)) : Option (Int × List (S34) × Int) := if g = true then (if s.toList = ([] : List UInt8) then (batch_May.f l).bind fun m => if m = true then (batch_numbered.f a (l.length : Int)).bind fun q => (if q = true then some (a, l, 0) else some (0, [], 2)) else some (0, [], 2) else some (0, [], 2)) else some (0, [], 2)
def batch_Decode.f (k : Nat) (a0 : ByteArray) : Option (Int × List (S34) × Int) := (batch_Decode.number k a0 true).bind fun a => (batch_Decode.number k a.2.1 a.2.2).bind fun b => if b.2.2 = true then (if b.1 > 16 then some (0, [], 2) else (if 0 ≤ b.1 then (batch_Decode.go k b.1.toNat b.2.1 b.2.2 []).bind fun r => batch_Decode.fin a.1 r.1 r.2.1 r.2.2 else none)) else some (0, [], 2)
theorem batch_Decode.number_mono (k : Nat) (s : ByteArray) (g : Bool) : LeO (batch_Decode.number k s g) (batch_Decode.number (k + 1) s g) := LeO.bind (num_Take.mono _ _) (fun _ => LeO.refl _)
theorem batch_Decode.take_mono (k : Nat) (s : ByteArray) (g : Bool) : LeO (batch_Decode.take k s g) (batch_Decode.take (k + 1) s g) := LeO.bind (batch_Decode.number_mono _ _ _) (fun _ => LeO.refl _)
theorem batch_Decode.go_mono (k : Nat) : ∀ m s g l, LeO (batch_Decode.go k m s g l) (batch_Decode.go (k + 1) m s g l)
  | 0, s, g, l => LeO.refl _
  | m + 1, s, g, l => LeO.bind (batch_Decode.number_mono _ _ _) (fun _ => LeO.bind (batch_Decode.take_mono _ _ _) (fun _ => LeO.ite (batch_Decode.go_mono k m _ _ _) (LeO.bind (batch_Decode.take_mono _ _ _) (fun _ => batch_Decode.go_mono k m _ _ _))))
theorem batch_Decode.mono : ∀ a0 k, LeO (batch_Decode.f k a0) (batch_Decode.f (k + 1) a0) := fun a0 k => LeO.bind (batch_Decode.number_mono _ _ _) (fun _ => LeO.bind (batch_Decode.number_mono _ _ _) (fun _ => LeO.ite (LeO.ite (LeO.refl _) (LeO.ite (LeO.bind (batch_Decode.go_mono _ _ _ _ _) (fun _ => LeO.refl _)) (LeO.refl _))) (LeO.refl _)))
set_option maxHeartbeats 3200000 in
set_option maxRecDepth 100000 in
theorem batch_Decode.calls (k : Nat) (a0 : ByteArray) (r1 : Int) (r2 : List (S34)) (r3 : Int) (w : World) (h : batch_Decode.f k a0 = some (r1, r2, r3)) :
    Calls Try.prog 20 #[.string a0] w fun e w' => ∃ v0_ : Value, e = .returned (.tuple #[.int .u64 r1, v0_, .int .i64 r3]) ∧ Kd.R k34 34 w' w.heap.size (fun _ => True) v0_ r2 ∧ Below w.heap.size w w' := by
  have hmf : ∀ (fn : Fn) (first cap : Array Value) (w : World), (Instr.makeFunc fn first cap).run Try.prog w = .ok (.func fn first cap) w := fun _ _ _ _ => rfl
  unfold batch_Decode.f at h
  replace h := Option.bind_eq_some_iff.mp h
  obtain ⟨⟨n1, s1, g1⟩, h1, h⟩ := h
  replace h := Option.bind_eq_some_iff.mp h
  obtain ⟨⟨n2, s2, g2⟩, h2, h⟩ := h
  have H1 := Lib.hid h1
  have H2 : Hid (batch_Decode.number k s1 g1 = some (n2, s2, g2)) := Lib.hid h2
  have H3 : Hid ((if g2 = true then (if n2 > 16 then some (0, [], 2) else (if 0 ≤ n2 then (batch_Decode.go k n2.toNat s2 g2 []).bind fun r => batch_Decode.fin n1 r.1 r.2.1 r.2.2 else none)) else some (0, [], 2)) = some (r1, r2, r3)) := Lib.hid h
  clear h h1 h2
  have hst : ∀ (a : Addr) (fn : Fn) (x y : Array Value) (m : Mode) (w : World), (store a (.func fn x y) m).run Try.prog w = stored Try.prog w a (.func fn x y) m := fun a fn x y m w => run_store _ w a _ m rfl
  have BN0 : (((w.alloc (.cells #[.string a0] 9)).alloc (.cells #[.bool true] 4)).alloc (.cells #[(.func (.func 33) #[] #[.pointer (some ⟨w.heap.size, 0, none⟩), .pointer (some ⟨w.heap.size + 1, 0, none⟩)])] 63)).heap[w.heap.size + 1 + 1]? = some (.cells #[(.func (.func 33) #[] #[.pointer (some ⟨w.heap.size, 0, none⟩), .pointer (some ⟨w.heap.size + 1, 0, none⟩)])] 63 (0, 0)) := by
    have := blk_new ((w.alloc (.cells #[.string a0] 9)).alloc (.cells #[.bool true] 4)) (.cells #[(.func (.func 33) #[] #[.pointer (some ⟨w.heap.size, 0, none⟩), .pointer (some ⟨w.heap.size + 1, 0, none⟩)])] 63)
    rwa [World.size_alloc, World.size_alloc] at this
  have BQ0 : (((w.alloc (.cells #[.string a0] 9)).alloc (.cells #[.bool true] 4)).alloc (.cells #[(.func (.func 33) #[] #[.pointer (some ⟨w.heap.size, 0, none⟩), .pointer (some ⟨w.heap.size + 1, 0, none⟩)])] 63)).heap[w.heap.size + 1]? = some (.cells #[.bool true] 4 (0, 0)) := by
    have := blk_alloc (blk_new (w.alloc (.cells #[.string a0] 9)) (.cells #[.bool true] 4)) (.cells #[(.func (.func 33) #[] #[.pointer (some ⟨w.heap.size, 0, none⟩), .pointer (some ⟨w.heap.size + 1, 0, none⟩)])] 63)
    rwa [World.size_alloc] at this
  have BP0 : (((w.alloc (.cells #[.string a0] 9)).alloc (.cells #[.bool true] 4)).alloc (.cells #[(.func (.func 33) #[] #[.pointer (some ⟨w.heap.size, 0, none⟩), .pointer (some ⟨w.heap.size + 1, 0, none⟩)])] 63)).heap[w.heap.size]? = some (.cells #[.string a0] 9 (0, 0)) := blk_alloc (blk_alloc (blk_new _ _) _) _
  have BN := Aside0.mk BN0
  have BQ := Aside0.mk BQ0
  have BP := Aside0.mk BP0
  have HB : Aside0 (Below w.heap.size w (((w.alloc (.cells #[.string a0] 9)).alloc (.cells #[.bool true] 4)).alloc (.cells #[(.func (.func 33) #[] #[.pointer (some ⟨w.heap.size, 0, none⟩), .pointer (some ⟨w.heap.size + 1, 0, none⟩)])] 63))) := ⟨below_alloc (below_alloc (below_alloc (Below.refl _ _) _) _) _⟩
  clear BN0 BQ0 BP0
  go_enter Try.func20, Try.ntmps20
  go_upto_region 4 with (fail)
  clear hmf hst
  generalize (((w.alloc (.cells #[.string a0] 9)).alloc (.cells #[.bool true] 4)).alloc (.cells #[(.func (.func 33) #[] #[.pointer (some ⟨w.heap.size, 0, none⟩), .pointer (some ⟨w.heap.size + 1, 0, none⟩)])] 63)) = W1 at BN BQ BP HB ⊢
  obtain ⟨p, hp⟩ : ∃ g, w.heap.size = g := ⟨_, rfl⟩
  obtain ⟨q, hq⟩ : ∃ g, w.heap.size + 1 = g := ⟨_, rfl⟩
  obtain ⟨nb, hn⟩ : ∃ g, w.heap.size + 1 + 1 = g := ⟨_, rfl⟩
  have HG : Hid (w.heap.size ≤ p ∧ w.heap.size ≤ q ∧ w.heap.size ≤ nb ∧ p ≠ q ∧ nb ≠ p ∧ nb ≠ q) := Lib.hid ⟨by omega, by omega, by omega, by omega, by omega, by omega⟩
  rw [hn] at BN
  rw [hq] at BQ BN
  have HBp : Aside0 (Below w.heap.size w W1) := HB
  have BPp : Aside0 (W1.heap[p]? = some (.cells #[.string a0] 9 (0, 0))) := by rw [← hp]; exact BP
  have BNp : Aside0 (W1.heap[nb]? = some (.cells #[.func (.func 33) #[] #[.pointer (some ⟨p, 0, none⟩), .pointer (some ⟨q, 0, none⟩)]] 63 (0, 0))) := by rw [← hp]; exact BN
  clear BP BN HB
  rw [hn, hq, hp]
  clear hn hq
  have HS : Aside0 (batch_Decode.St W1 p q a0 true) := ⟨HG.out.2.2.2.1, BPp.out, BQ.out⟩
  clear BPp BQ
  refine start_ (n := 6) (S := fun w' => w'.cell? ⟨nb, 0, none⟩ = some (.func (.func 33) #[] #[.pointer (some ⟨p, 0, none⟩), .pointer (some ⟨q, 0, none⟩)])) (ds := []) #[false, false, false, false, false, false] (by kernel_rfl) rfl rfl ((blk_cell BNp.out 0).trans rfl) (fun hHeld => ?_)
  have HS1 : Aside0 (batch_Decode.St W1.drew p q a0 true) := HS
  have BN1 : Aside0 (W1.drew.heap[nb]? = some (.cells #[.func (.func 33) #[] #[.pointer (some ⟨p, 0, none⟩), .pointer (some ⟨q, 0, none⟩)]] 63 (0, 0))) := BNp
  have HB1 : Aside0 (Below w.heap.size w W1.drew) := ⟨below_drew1 HBp.out⟩
  clear HS BNp HBp
  generalize W1.drew = W2 at HS1 BN1 HB1 hHeld ⊢
  refine take_ (i := 0) (N := some 15) (v := ?_) (a' := ?_) #[true, false, false, false, false, false] rfl rfl (by kernel_rfl) (fun _ _ _ h => h) (Or.inl ⟨by rfl, ?_⟩) hHeld ?_ ?_
  rotate_left
  · intro w' s0
    go_simp
    with_reducible rfl
  rotate_left
  · simp only [Act.put, List.setIfInBounds_toArray, List.set_cons_zero, List.set_cons_succ, i64_w, i32_w]
    rfl
  refine take_ (i := 2) (N := some 17) (v := ?_) (a' := ?_) #[true, false, true, false, false, false] rfl rfl (by kernel_rfl) (fun _ _ _ h => h) (Or.inl ⟨by rfl, ?_⟩) hHeld ?_ ?_
  rotate_left
  · intro w' s0
    go_simp
    with_reducible rfl
  rotate_left
  · simp only [Act.put, List.setIfInBounds_toArray, List.set_cons_zero, List.set_cons_succ, i64_w, i32_w]
    rfl
  refine one_ (i := 1) (N := some 16) #[true, true, true, false, false, false] rfl rfl (by kernel_rfl) (by decide) (fun K hK => ?_)
  refine call_ 33 #[.pointer (some ⟨p, 0, none⟩), .pointer (some ⟨q, 0, none⟩)] (by rfl) rfl ?hr1 ?_
  case hr1 =>
    have he := enters_ (P := Try.prog) Try.func33 (by kernel_rfl) rfl #[.pointer (some ⟨p, 0, none⟩), .pointer (some ⟨q, 0, none⟩)]
    unfold execOp
    simp [resolve, Deferred.ofValue, invoke, Act.eval, he]
  refine (batch_Decode.numC k p q a0 s1 true g1 n1 _ HS1.out H1.out).mono ?_
  rintro e w' ⟨rfl, hs, hm⟩
  refine ⟨_, rfl, ?_⟩
  have HS2 := Aside0.mk hs
  have HB2 := Aside0.mk (HB1.out.trans (hm.bel w.heap.size HG.out.1 HG.out.2.1 HB1.out.size))
  have BN2 := Aside0.mk (hm.blk BN1.out HG.out.2.2.2.2.1 HG.out.2.2.2.2.2)
  clear hs hm HS1 HB1 BN1 hHeld
  refine hK.out _ _ ((blk_cell BN2.out 0).trans rfl) (fun hHeld => ?_)
  clear hK K
  refine norm_ (a' := ?_) ?_ ?_
  rotate_left
  · show Act.put _ (some 16) _ = _
    simp only [Act.put, List.setIfInBounds_toArray, List.set_cons_zero, List.set_cons_succ, i64_w, i32_w]
    rfl
  refine one_ (i := 3) (N := some 18) #[true, true, true, true, false, false] rfl rfl (by kernel_rfl) (by decide) (fun K hK => ?_)
  refine call_ 33 #[.pointer (some ⟨p, 0, none⟩), .pointer (some ⟨q, 0, none⟩)] (by rfl) rfl ?hr2 ?_
  case hr2 =>
    have he := enters_ (P := Try.prog) Try.func33 (by kernel_rfl) rfl #[.pointer (some ⟨p, 0, none⟩), .pointer (some ⟨q, 0, none⟩)]
    unfold execOp
    simp [resolve, Deferred.ofValue, invoke, Act.eval, he]
  refine (batch_Decode.numC k p q s1 s2 g1 g2 n2 _ HS2.out H2.out).mono ?_
  rintro e w' ⟨rfl, hs, hm⟩
  refine ⟨_, rfl, ?_⟩
  have HS3 := Aside0.mk hs
  have HB3 := Aside0.mk (HB2.out.trans (hm.bel w.heap.size HG.out.1 HG.out.2.1 HB2.out.size))
  have BN3 := Aside0.mk (hm.blk BN2.out HG.out.2.2.2.2.1 HG.out.2.2.2.2.2)
  clear hs hm HS2 HB2 BN2 hHeld
  refine hK.out _ _ ((blk_cell BN3.out 0).trans rfl) (fun hHeld => ?_)
  clear hK K
  refine norm_ (a' := ?_) ?_ ?_
  rotate_left
  · show Act.put _ (some 18) _ = _
    simp only [Act.put, List.setIfInBounds_toArray, List.set_cons_zero, List.set_cons_succ, i64_w, i32_w]
    rfl
  refine pure_ (i := 4) (N := some 8) (v := ?_) (a' := ?_) #[true, true, true, true, true, false] rfl rfl (by kernel_rfl) (fun _ _ _ h => h) (Or.inl ⟨by rfl, ?_⟩) ?_ ?_
  rotate_left
  · intro w'
    go_simp
    with_reducible rfl
  rotate_left
  · simp only [Act.put, List.setIfInBounds_toArray, List.set_cons_zero, List.set_cons_succ, i64_w, i32_w]
    rfl
  refine pure_ (i := 5) (N := some 9) (v := ?_) (a' := ?_) #[true, true, true, true, true, true] rfl rfl (by kernel_rfl) (fun _ _ _ h => h) (Or.inl ⟨by rfl, ?_⟩) ?_ ?_
  rotate_left
  · intro w'
    go_simp
    with_reducible rfl
  rotate_left
  · simp only [Act.put, List.setIfInBounds_toArray, List.set_cons_zero, List.set_cons_succ, i64_w, i32_w]
    rfl
  refine done_ (by kernel_rfl) ?_
  (try clear hHeld)
  try clear hHeld
  clear H1 H2
  generalize hw3 : w' = W3 at HS3 HB3 BN3 ⊢
  clear hw3
  have c_ : W3.cell? ⟨q, 0, none⟩ = some (.bool g2) := (blk_cell HS3.out.2.2 0).trans rfl
  cases g2 with
  | false =>
    have hh := H3.out
    rw [if_neg (by decide)] at hh
    simp only [Option.some.injEq, Prod.mk.injEq] at hh
    obtain ⟨rfl, rfl, rfl⟩ := hh
    clear H3
    go_wp2
    go_ret3
    exact ⟨_, rfl, Kd.R_nil _ _ _ _ _, HB3.out⟩
  | true =>
    have hh := H3.out
    rw [if_pos rfl] at hh
    clear H3
    by_cases hc : n2 > 16
    · rw [if_pos hc] at hh
      simp only [Option.some.injEq, Prod.mk.injEq] at hh
      obtain ⟨rfl, rfl, rfl⟩ := hh
      have hcb : decide (16 < n2) = true := decide_eq_true hc
      clear hc
      go_wp2
      go_ret3
      exact ⟨_, rfl, Kd.R_nil _ _ _ _ _, HB3.out⟩
    · rw [if_neg hc] at hh
      have hcb : decide (16 < n2) = false := decide_eq_false hc
      by_cases h0 : 0 ≤ n2
      case neg => rw [if_neg h0] at hh; exact absurd hh (by simp)
      rw [if_pos h0] at hh
      obtain ⟨n, rfl⟩ := Int.eq_ofNat_of_zero_le h0
      rw [Int.toNat_natCast] at hh
      have hn16 : n ≤ 16 := by omega
      clear h0 hc
      replace hh := Option.bind_eq_some_iff.mp hh
      obtain ⟨⟨s3, g3, l3⟩, hgo, hfin⟩ := hh
      replace hfin : batch_Decode.fin n1 s3 g3 l3 = some (r1, r2, r3) := hfin
      have HFIN := Lib.hid hfin
      have HGO := Lib.hid hgo
      clear hfin hgo
      go_wp2
      clear c_ hcb
      have HO3 : Aside0 (Kd.R k34 34 W3 w.heap.size (fun k_ => k_ ≠ p ∧ k_ ≠ q ∧ k_ ≠ nb) (.slice none 0 0) ([] : List (S34))) := ⟨Kd.R_nil _ _ _ _ _⟩
      go_loopg [10, 26] n (fun kq v10 v26 w' => ∃ (i : Nat) (s : ByteArray) (g : Bool) (l : List (S34)), v26 = .int .u64 (i : Int) ∧ Aside0 (kq + i = n) ∧ Aside0 (batch_Decode.go k (n - i) s g l = some (s3, g3, l3)) ∧ Aside0 (l.length = i) ∧ Aside0 (batch_Decode.St w' p q s g) ∧ Aside0 (w'.heap[nb]? = some (.cells #[(.func (.func 33) #[] #[.pointer (some ⟨p, 0, none⟩), .pointer (some ⟨q, 0, none⟩)])] 63 (0, 0))) ∧ Aside0 (Kd.R k34 34 w' w.heap.size (fun k_ => k_ ≠ p ∧ k_ ≠ q ∧ k_ ≠ nb) v10 l) ∧ Aside0 (Below w.heap.size w w'))
      case atStart => exact ⟨0, s2, true, [], rfl, ⟨by omega⟩, ⟨HGO.out⟩, ⟨rfl⟩, HS3, BN3, HO3, HB3⟩
      case round =>
        clear HS3 BN3 HO3 HB3 HGO
        obtain ⟨i, s, g, l, rfl, HI, HGI, HL, HS0, BN0, HO0, HB0⟩ := hrel
        have hin : i ≤ n := by have := HI.out; omega
        by_cases hlt : i < n
        · have hkg : ∃ k1, gk = k1 + 1 := ⟨gk - 1, by have := HI.out; omega⟩
          obtain ⟨k1, rfl⟩ := hkg
          obtain ⟨m, hm⟩ : ∃ m, n - i = m + 1 := ⟨n - i - 1, by omega⟩
          have hg := HGI.out
          rw [hm] at hg
          have HMm := Lib.hid hm
          clear HGI hm
          replace hg := Option.bind_eq_some_iff.mp hg
          obtain ⟨⟨kd, sA, gA⟩, hn1, hg⟩ := hg
          replace hg := Option.bind_eq_some_iff.mp hg
          obtain ⟨⟨ky, sB, gB⟩, ht1, hg⟩ := hg
          have HN1 := Lib.hid hn1
          have HT1 : Hid (batch_Decode.take k sA gA = some (ky, sB, gB)) := Lib.hid ht1
          clear hn1 ht1
          have c_ : wr.cell? ⟨nb, 0, none⟩ = some (.func (.func 33) #[] #[.pointer (some ⟨p, 0, none⟩), .pointer (some ⟨q, 0, none⟩)]) := (blk_cell BN0.out 0).trans rfl
          go_wp2_with (fail)
          clear c_
          refine (batch_Decode.numC k p q s sA g gA kd _ HS0.out HN1.out).mono ?_
          rintro e x1 ⟨rfl, hs, hm⟩
          have HS1 := Aside0.mk hs
          have HB1 := Aside0.mk (HB0.out.trans (hm.bel w.heap.size HG.out.1 HG.out.2.1 HB0.out.size))
          have BN1 := Aside0.mk (hm.blk BN0.out HG.out.2.2.2.2.1 HG.out.2.2.2.2.2)
          have HO1 := Aside0.mk (Kd.R_step HO0.out (fun k_ hk_ hl_ => hm.keep k_ hl_ hk_.1 hk_.2.1))
          clear hs hm HS0 HB0 BN0 HO0
          by_cases hkd : kd = 1
          · subst hkd
            have HGN0 : Hid (batch_Decode.go k m sB (gB && decide ((1 : Int) ≤ 1)) (l ++ [⟨true, ky, ⟨#[]⟩⟩]) = some (s3, g3, l3)) := by
              have h2 : (if (1 : Int) = 1 then batch_Decode.go k m sB (gB && decide ((1 : Int) ≤ 1)) (l ++ [⟨true, ky, ⟨#[]⟩⟩]) else _) = some (s3, g3, l3) := hg
              rw [if_pos rfl] at h2
              exact Lib.hid h2
            clear hg
            go_wp2_with (fail)
            refine (batch_Decode.takC k p q nb sA sB ky gA gB _ HS1.out BN1.out HT1.out).mono ?_
            rintro e x2 ⟨rfl, hs, hm⟩
            have HS2 := Aside0.mk hs
            have HB2 := Aside0.mk (HB1.out.trans (hm.bel w.heap.size HG.out.1 HG.out.2.1 HB1.out.size))
            have BN2 := Aside0.mk (hm.blk BN1.out HG.out.2.2.2.2.1 HG.out.2.2.2.2.2)
            have HO2 := Aside0.mk (Kd.R_step HO1.out (fun k_ hk_ hl_ => hm.keep k_ hl_ hk_.1 hk_.2.1))
            clear hs hm HS1 HB1 BN1 HO1
            go_upto_region 12 with (fail)
            have BK3 : Aside0 ((x2.alloc (.cells #[.bool true, .string ky, .string ⟨#[]⟩] 34)).heap[x2.heap.size]? = some (.cells #[.bool true, .string ky, .string ⟨#[]⟩] 34 (0, 0))) := ⟨blk_new _ _⟩
            have HS3 := Aside0.mk (HS2.out.below (below_alloc (Below.refl x2.heap.size x2) (.cells #[.bool true, .string ky, .string ⟨#[]⟩] 34)))
            have HB3 := Aside0.mk (below_alloc HB2.out (.cells #[.bool true, .string ky, .string ⟨#[]⟩] 34))
            have BN3 := Aside0.mk (blk_alloc BN2.out (.cells #[.bool true, .string ky, .string ⟨#[]⟩] 34))
            have HO3 := Aside0.mk (Kd.R_mono (ok' := fun k_ => (k_ ≠ p ∧ k_ ≠ q ∧ k_ ≠ nb) ∧ k_ ≠ x2.heap.size) (Kd.R_alloc (Kd.R_bound HO2.out) (.cells #[.bool true, .string ky, .string ⟨#[]⟩] 34)) (fun k_ hk_ => ⟨hk_.1, Nat.ne_of_lt hk_.2.2.1⟩))
            have HX : Hid (w.heap.size ≤ x2.heap.size ∧ x2.heap.size ≠ p ∧ x2.heap.size ≠ q ∧ x2.heap.size ≠ nb) := Lib.hid ⟨HB2.out.size, by have := blk_lt HS2.out.2.1; omega, by have := blk_lt HS2.out.2.2; omega, by have := blk_lt BN2.out; omega⟩
            clear HS2 HB2 BN2 HO2
            generalize (x2.alloc (.cells #[.bool true, .string ky, .string ⟨#[]⟩] 34)) = x3 at BK3 HS3 HB3 BN3 HO3 ⊢
            obtain ⟨gx, hgx⟩ : ∃ g_, x2.heap.size = g_ := ⟨_, rfl⟩
            rw [hgx] at BK3 HO3 HX ⊢
            clear hgx
            have HGQ : Hid (gx ≠ q) := Lib.hid HX.out.2.2.1
            have c_ : x3.cell? ⟨gx, 0, none⟩ = some (.bool true) := (blk_cell BK3.out 0).trans rfl
            go_upto_region 14 with (fail)
            clear c_
            have HGN := HGN0
            clear HGN0
            cases gB with
            | true =>
              have c_ : x3.cell? ⟨q, 0, none⟩ = some (.bool true) := (blk_cell HS3.out.2.2 0).trans rfl
              have f_ := blk_frozen HS3.out.2.2 0
              go_upto_region 15 with (fail)
              clear c_ f_
              have HSf := Aside0.mk (HS3.out.putq (g' := true))
              have BNf := Aside0.mk (blk_far (p := ⟨q, 0, none⟩) BN3.out HG.out.2.2.2.2.2 (.bool true))
              have BKf := Aside0.mk (blk_far (p := ⟨q, 0, none⟩) BK3.out HGQ.out (.bool true))
              have HBf := Aside0.mk (below_set (j := 0) (v := .bool true) HB3.out HG.out.2.1)
              have HOf := Aside0.mk (Kd.R_mono (Kd.R_far (p := ⟨q, 0, none⟩) HO3.out (fun _ hk_ => hk_.1.2.1) (.bool true)) (fun _ hk_ => hk_.1))
              have HGf : Hid (batch_Decode.go k m sB true (l ++ [(⟨true, ky, ⟨#[]⟩⟩ : S34)]) = some (s3, g3, l3)) := Lib.hid (by have := HGN.out; simpa using this)
              clear HS3 BN3 BK3 HB3 HO3 HGN
              generalize (x3.setCell ⟨q, 0, none⟩ (.bool true)) = y0 at HSf BNf BKf HBf HOf ⊢
              have d0_ : y0.cell? ⟨gx, 0, none⟩ = some (.bool true) := (blk_cell BKf.out 0).trans rfl
              have d1_ : y0.cell? ⟨gx, 1, none⟩ = some (.string ky) := (blk_cell BKf.out 1).trans rfl
              have d2_ : y0.cell? ⟨gx, 2, none⟩ = some (.string ⟨#[]⟩) := (blk_cell BKf.out 2).trans rfl
              go_wp2_with (first | ((with_reducible refine gate_builtin (b := .append) (xs := #[.tmp 46, .tmp 48]) rfl ?_); at_builtin; refine Kd.R_append k34 (w0 := w) w.heap.size rfl (.tmp 46) (.tmp 48) 23 34 (.agg #[(.bool false), (.string ⟨#[]⟩), (.string ⟨#[]⟩)]) 40 rfl Try.underlying23 info34 rfl (by decide) (by omega) u10 l (⟨true, ky, ⟨#[]⟩⟩ : S34) [.bool true, .string ky, .string ⟨#[]⟩] (fun k_ => k_ ≠ p ∧ k_ ≠ q ∧ k_ ≠ nb) (fun _ => False) rfl (by first | (go_simp; done) | (go_simp; rfl)) ?aP (fun _ hk => hk.elim) ?aF ?aO ?aB ?aS ?aL ?_; (case aP => exact k34_mkM _ _ _ (⟨true, ky, ⟨#[]⟩⟩ : S34)); (case aB => exact HBf.out); (case aF => exact (fun k_ hk_ => ⟨fun e_ => by have := blk_lt HSf.out.2.1; omega, fun e_ => by have := blk_lt HSf.out.2.2; omega, fun e_ => by have := blk_lt BNf.out; omega⟩)); (case aO => exact HOf.out); (case aS => exact HBf.out.size); (case aL => have := HL.out; omega); intro v1 y1 ho hb hg hat; have HOg := Aside0.mk ho; have HBg := Aside0.mk hb; have HSg : Aside0 (batch_Decode.St y1 p q sB true) := ⟨HSf.out.1, blk_grown HSf.out.2.1 hg (fun e_ => (HOf.out.1 p e_.symm).1 rfl), blk_grown HSf.out.2.2 hg (fun e_ => (HOf.out.1 q e_.symm).2.1 rfl)⟩; have BNg := Aside0.mk (blk_grown BNf.out hg (fun e_ => (HOf.out.1 nb e_.symm).2.2 rfl)); clear ho hb hg hat HOf HBf HSf BNf BKf d0_ d1_ d2_))
              go_roundg k1
              case measure => omega
              case rel => exact ⟨i + 1, sB, true, l ++ [(⟨true, ky, ⟨#[]⟩⟩ : S34)], by go_num, ⟨by have := HI.out; omega⟩, ⟨by rw [show n - (i + 1) = m by have := HMm.out; omega]; exact HGf.out⟩, ⟨by rw [List.length_append, List.length_singleton, HL.out]⟩, HSg, BNg, HOg, HBg⟩
            | false =>
              have c_ : x3.cell? ⟨q, 0, none⟩ = some (.bool false) := (blk_cell HS3.out.2.2 0).trans rfl
              have f_ := blk_frozen HS3.out.2.2 0
              go_upto_region 15 with (fail)
              clear c_ f_
              have HSf := Aside0.mk (HS3.out.putq (g' := false))
              have BNf := Aside0.mk (blk_far (p := ⟨q, 0, none⟩) BN3.out HG.out.2.2.2.2.2 (.bool false))
              have BKf := Aside0.mk (blk_far (p := ⟨q, 0, none⟩) BK3.out HGQ.out (.bool false))
              have HBf := Aside0.mk (below_set (j := 0) (v := .bool false) HB3.out HG.out.2.1)
              have HOf := Aside0.mk (Kd.R_mono (Kd.R_far (p := ⟨q, 0, none⟩) HO3.out (fun _ hk_ => hk_.1.2.1) (.bool false)) (fun _ hk_ => hk_.1))
              have HGf : Hid (batch_Decode.go k m sB false (l ++ [(⟨true, ky, ⟨#[]⟩⟩ : S34)]) = some (s3, g3, l3)) := Lib.hid (by have := HGN.out; simpa using this)
              clear HS3 BN3 BK3 HB3 HO3 HGN
              generalize (x3.setCell ⟨q, 0, none⟩ (.bool false)) = y0 at HSf BNf BKf HBf HOf ⊢
              have d0_ : y0.cell? ⟨gx, 0, none⟩ = some (.bool true) := (blk_cell BKf.out 0).trans rfl
              have d1_ : y0.cell? ⟨gx, 1, none⟩ = some (.string ky) := (blk_cell BKf.out 1).trans rfl
              have d2_ : y0.cell? ⟨gx, 2, none⟩ = some (.string ⟨#[]⟩) := (blk_cell BKf.out 2).trans rfl
              go_wp2_with (first | ((with_reducible refine gate_builtin (b := .append) (xs := #[.tmp 46, .tmp 48]) rfl ?_); at_builtin; refine Kd.R_append k34 (w0 := w) w.heap.size rfl (.tmp 46) (.tmp 48) 23 34 (.agg #[(.bool false), (.string ⟨#[]⟩), (.string ⟨#[]⟩)]) 40 rfl Try.underlying23 info34 rfl (by decide) (by omega) u10 l (⟨true, ky, ⟨#[]⟩⟩ : S34) [.bool true, .string ky, .string ⟨#[]⟩] (fun k_ => k_ ≠ p ∧ k_ ≠ q ∧ k_ ≠ nb) (fun _ => False) rfl (by first | (go_simp; done) | (go_simp; rfl)) ?aP (fun _ hk => hk.elim) ?aF ?aO ?aB ?aS ?aL ?_; (case aP => exact k34_mkM _ _ _ (⟨true, ky, ⟨#[]⟩⟩ : S34)); (case aB => exact HBf.out); (case aF => exact (fun k_ hk_ => ⟨fun e_ => by have := blk_lt HSf.out.2.1; omega, fun e_ => by have := blk_lt HSf.out.2.2; omega, fun e_ => by have := blk_lt BNf.out; omega⟩)); (case aO => exact HOf.out); (case aS => exact HBf.out.size); (case aL => have := HL.out; omega); intro v1 y1 ho hb hg hat; have HOg := Aside0.mk ho; have HBg := Aside0.mk hb; have HSg : Aside0 (batch_Decode.St y1 p q sB false) := ⟨HSf.out.1, blk_grown HSf.out.2.1 hg (fun e_ => (HOf.out.1 p e_.symm).1 rfl), blk_grown HSf.out.2.2 hg (fun e_ => (HOf.out.1 q e_.symm).2.1 rfl)⟩; have BNg := Aside0.mk (blk_grown BNf.out hg (fun e_ => (HOf.out.1 nb e_.symm).2.2 rfl)); clear ho hb hg hat HOf HBf HSf BNf BKf d0_ d1_ d2_))
              go_roundg k1
              case measure => omega
              case rel => exact ⟨i + 1, sB, false, l ++ [(⟨true, ky, ⟨#[]⟩⟩ : S34)], by go_num, ⟨by have := HI.out; omega⟩, ⟨by rw [show n - (i + 1) = m by have := HMm.out; omega]; exact HGf.out⟩, ⟨by rw [List.length_append, List.length_singleton, HL.out]⟩, HSg, BNg, HOg, HBg⟩
          · have hk1 : (kd == 1) = false := beq_eq_false_iff_ne.mpr hkd
            replace hg : (if kd = 1 then batch_Decode.go k m sB (gB && decide (kd ≤ 1)) (l ++ [⟨true, ky, ⟨#[]⟩⟩]) else (batch_Decode.take k sB gB).bind fun c => batch_Decode.go k m c.2.1 (c.2.2 && decide (kd ≤ 1)) (l ++ [⟨false, ky, c.1⟩])) = some (s3, g3, l3) := hg
            rw [if_neg hkd] at hg
            replace hg := Option.bind_eq_some_iff.mp hg
            obtain ⟨⟨va, sC, gC⟩, ht2, hg⟩ := hg
            have HT2 := Lib.hid ht2
            have HGN : Hid (batch_Decode.go k m sC (gC && decide (kd ≤ 1)) (l ++ [⟨false, ky, va⟩]) = some (s3, g3, l3)) := Lib.hid hg
            clear hg ht2 hkd
            go_wp2_with (fail)
            refine (batch_Decode.takC k p q nb sA sB ky gA gB _ HS1.out BN1.out HT1.out).mono ?_
            rintro e x2 ⟨rfl, hs, hm⟩
            have HS2 := Aside0.mk hs
            have HB2 := Aside0.mk (HB1.out.trans (hm.bel w.heap.size HG.out.1 HG.out.2.1 HB1.out.size))
            have BN2 := Aside0.mk (hm.blk BN1.out HG.out.2.2.2.2.1 HG.out.2.2.2.2.2)
            have HO2 := Aside0.mk (Kd.R_step HO1.out (fun k_ hk_ hl_ => hm.keep k_ hl_ hk_.1 hk_.2.1))
            clear hs hm HS1 HB1 BN1 HO1
            go_upto_region 12 with (fail)
            have BK3 : Aside0 ((x2.alloc (.cells #[.bool false, .string ky, .string ⟨#[]⟩] 34)).heap[x2.heap.size]? = some (.cells #[.bool false, .string ky, .string ⟨#[]⟩] 34 (0, 0))) := ⟨blk_new _ _⟩
            have HS3 := Aside0.mk (HS2.out.below (below_alloc (Below.refl x2.heap.size x2) (.cells #[.bool false, .string ky, .string ⟨#[]⟩] 34)))
            have HB3 := Aside0.mk (below_alloc HB2.out (.cells #[.bool false, .string ky, .string ⟨#[]⟩] 34))
            have BN3 := Aside0.mk (blk_alloc BN2.out (.cells #[.bool false, .string ky, .string ⟨#[]⟩] 34))
            have HO3 := Aside0.mk (Kd.R_mono (ok' := fun k_ => (k_ ≠ p ∧ k_ ≠ q ∧ k_ ≠ nb) ∧ k_ ≠ x2.heap.size) (Kd.R_alloc (Kd.R_bound HO2.out) (.cells #[.bool false, .string ky, .string ⟨#[]⟩] 34)) (fun k_ hk_ => ⟨hk_.1, Nat.ne_of_lt hk_.2.2.1⟩))
            have HX : Hid (w.heap.size ≤ x2.heap.size ∧ x2.heap.size ≠ p ∧ x2.heap.size ≠ q ∧ x2.heap.size ≠ nb) := Lib.hid ⟨HB2.out.size, by have := blk_lt HS2.out.2.1; omega, by have := blk_lt HS2.out.2.2; omega, by have := blk_lt BN2.out; omega⟩
            clear HS2 HB2 BN2 HO2
            generalize (x2.alloc (.cells #[.bool false, .string ky, .string ⟨#[]⟩] 34)) = x3 at BK3 HS3 HB3 BN3 HO3 ⊢
            obtain ⟨gx, hgx⟩ : ∃ g_, x2.heap.size = g_ := ⟨_, rfl⟩
            rw [hgx] at BK3 HO3 HX ⊢
            clear hgx
            have HGQ : Hid (gx ≠ q) := Lib.hid HX.out.2.2.1
            have c_ : x3.cell? ⟨gx, 0, none⟩ = some (.bool false) := (blk_cell BK3.out 0).trans rfl
            go_wp2_with (fail)
            clear c_
            refine (batch_Decode.takC k p q nb sB sC va gB gC _ HS3.out BN3.out HT2.out).mono ?_
            rintro e x4 ⟨rfl, hs, hm⟩
            have HS4 := Aside0.mk hs
            have HB4 := Aside0.mk (HB3.out.trans (hm.bel w.heap.size HG.out.1 HG.out.2.1 HB3.out.size))
            have BN4 := Aside0.mk (hm.blk BN3.out HG.out.2.2.2.2.1 HG.out.2.2.2.2.2)
            have BK4 := Aside0.mk (hm.blk BK3.out HX.out.2.1 HX.out.2.2.1)
            have HO4 := Aside0.mk (Kd.R_step HO3.out (fun k_ hk_ hl_ => hm.keep k_ hl_ hk_.1.1 hk_.1.2.1))
            clear hs hm HS3 HB3 BN3 BK3 HO3
            have c_ : x4.cell? ⟨gx, 2, none⟩ = some (.string ⟨#[]⟩) := (blk_cell BK4.out 2).trans rfl
            have f_ := blk_frozen BK4.out 2
            go_upto_region 14 with (fail)
            clear c_ f_
            have HS5 : Aside0 (batch_Decode.St (x4.setCell ⟨gx, 2, none⟩ (.string va)) p q sC gC) := ⟨HS4.out.1, blk_far (p := ⟨gx, 2, none⟩) HS4.out.2.1 (Ne.symm HX.out.2.1) (.string va), blk_far (p := ⟨gx, 2, none⟩) HS4.out.2.2 (Ne.symm HX.out.2.2.1) (.string va)⟩
            have BN5 := Aside0.mk (blk_far (p := ⟨gx, 2, none⟩) BN4.out (Ne.symm HX.out.2.2.2) (.string va))
            have BK5 := Aside0.mk (blk_put (cs' := #[.bool false, .string ky, .string va]) BK4.out 2 (.string va) rfl)
            have HB5 := Aside0.mk (HB4.out.setCell (p := ⟨gx, 2, none⟩) HX.out.1 (.string va))
            have HO5 := Aside0.mk (Kd.R_far (p := ⟨gx, 2, none⟩) HO4.out (fun _ hk_ => hk_.2) (.string va))
            clear HS4 HB4 BN4 BK4 HO4
            generalize (x4.setCell ⟨gx, 2, none⟩ (.string va)) = x5 at HS5 HB5 BN5 BK5 HO5 ⊢
            cases gC with
            | true =>
              have c_ : x5.cell? ⟨q, 0, none⟩ = some (.bool true) := (blk_cell HS5.out.2.2 0).trans rfl
              have f_ := blk_frozen HS5.out.2.2 0
              go_upto_region 15 with (fail)
              clear c_ f_
              have HSf := Aside0.mk (HS5.out.putq (g' := (decide (kd ≤ 1))))
              have BNf := Aside0.mk (blk_far (p := ⟨q, 0, none⟩) BN5.out HG.out.2.2.2.2.2 (.bool (decide (kd ≤ 1))))
              have BKf := Aside0.mk (blk_far (p := ⟨q, 0, none⟩) BK5.out HGQ.out (.bool (decide (kd ≤ 1))))
              have HBf := Aside0.mk (below_set (j := 0) (v := .bool (decide (kd ≤ 1))) HB5.out HG.out.2.1)
              have HOf := Aside0.mk (Kd.R_mono (Kd.R_far (p := ⟨q, 0, none⟩) HO5.out (fun _ hk_ => hk_.1.2.1) (.bool (decide (kd ≤ 1)))) (fun _ hk_ => hk_.1))
              have HGf : Hid (batch_Decode.go k m sC (decide (kd ≤ 1)) (l ++ [(⟨false, ky, va⟩ : S34)]) = some (s3, g3, l3)) := Lib.hid (by have := HGN.out; simpa using this)
              clear HS5 BN5 BK5 HB5 HO5 HGN
              generalize (x5.setCell ⟨q, 0, none⟩ (.bool (decide (kd ≤ 1)))) = y0 at HSf BNf BKf HBf HOf ⊢
              have d0_ : y0.cell? ⟨gx, 0, none⟩ = some (.bool false) := (blk_cell BKf.out 0).trans rfl
              have d1_ : y0.cell? ⟨gx, 1, none⟩ = some (.string ky) := (blk_cell BKf.out 1).trans rfl
              have d2_ : y0.cell? ⟨gx, 2, none⟩ = some (.string va) := (blk_cell BKf.out 2).trans rfl
              go_wp2_with (first | ((with_reducible refine gate_builtin (b := .append) (xs := #[.tmp 46, .tmp 48]) rfl ?_); at_builtin; refine Kd.R_append k34 (w0 := w) w.heap.size rfl (.tmp 46) (.tmp 48) 23 34 (.agg #[(.bool false), (.string ⟨#[]⟩), (.string ⟨#[]⟩)]) 40 rfl Try.underlying23 info34 rfl (by decide) (by omega) u10 l (⟨false, ky, va⟩ : S34) [.bool false, .string ky, .string va] (fun k_ => k_ ≠ p ∧ k_ ≠ q ∧ k_ ≠ nb) (fun _ => False) rfl (by first | (go_simp; done) | (go_simp; rfl)) ?aP (fun _ hk => hk.elim) ?aF ?aO ?aB ?aS ?aL ?_; (case aP => exact k34_mkM _ _ _ (⟨false, ky, va⟩ : S34)); (case aB => exact HBf.out); (case aF => exact (fun k_ hk_ => ⟨fun e_ => by have := blk_lt HSf.out.2.1; omega, fun e_ => by have := blk_lt HSf.out.2.2; omega, fun e_ => by have := blk_lt BNf.out; omega⟩)); (case aO => exact HOf.out); (case aS => exact HBf.out.size); (case aL => have := HL.out; omega); intro v1 y1 ho hb hg hat; have HOg := Aside0.mk ho; have HBg := Aside0.mk hb; have HSg : Aside0 (batch_Decode.St y1 p q sC (decide (kd ≤ 1))) := ⟨HSf.out.1, blk_grown HSf.out.2.1 hg (fun e_ => (HOf.out.1 p e_.symm).1 rfl), blk_grown HSf.out.2.2 hg (fun e_ => (HOf.out.1 q e_.symm).2.1 rfl)⟩; have BNg := Aside0.mk (blk_grown BNf.out hg (fun e_ => (HOf.out.1 nb e_.symm).2.2 rfl)); clear ho hb hg hat HOf HBf HSf BNf BKf d0_ d1_ d2_))
              go_roundg k1
              case measure => omega
              case rel => exact ⟨i + 1, sC, (decide (kd ≤ 1)), l ++ [(⟨false, ky, va⟩ : S34)], by go_num, ⟨by have := HI.out; omega⟩, ⟨by rw [show n - (i + 1) = m by have := HMm.out; omega]; exact HGf.out⟩, ⟨by rw [List.length_append, List.length_singleton, HL.out]⟩, HSg, BNg, HOg, HBg⟩
            | false =>
              have c_ : x5.cell? ⟨q, 0, none⟩ = some (.bool false) := (blk_cell HS5.out.2.2 0).trans rfl
              have f_ := blk_frozen HS5.out.2.2 0
              go_upto_region 15 with (fail)
              clear c_ f_
              have HSf := Aside0.mk (HS5.out.putq (g' := false))
              have BNf := Aside0.mk (blk_far (p := ⟨q, 0, none⟩) BN5.out HG.out.2.2.2.2.2 (.bool false))
              have BKf := Aside0.mk (blk_far (p := ⟨q, 0, none⟩) BK5.out HGQ.out (.bool false))
              have HBf := Aside0.mk (below_set (j := 0) (v := .bool false) HB5.out HG.out.2.1)
              have HOf := Aside0.mk (Kd.R_mono (Kd.R_far (p := ⟨q, 0, none⟩) HO5.out (fun _ hk_ => hk_.1.2.1) (.bool false)) (fun _ hk_ => hk_.1))
              have HGf : Hid (batch_Decode.go k m sC false (l ++ [(⟨false, ky, va⟩ : S34)]) = some (s3, g3, l3)) := Lib.hid (by have := HGN.out; simpa using this)
              clear HS5 BN5 BK5 HB5 HO5 HGN
              generalize (x5.setCell ⟨q, 0, none⟩ (.bool false)) = y0 at HSf BNf BKf HBf HOf ⊢
              have d0_ : y0.cell? ⟨gx, 0, none⟩ = some (.bool false) := (blk_cell BKf.out 0).trans rfl
              have d1_ : y0.cell? ⟨gx, 1, none⟩ = some (.string ky) := (blk_cell BKf.out 1).trans rfl
              have d2_ : y0.cell? ⟨gx, 2, none⟩ = some (.string va) := (blk_cell BKf.out 2).trans rfl
              go_wp2_with (first | ((with_reducible refine gate_builtin (b := .append) (xs := #[.tmp 46, .tmp 48]) rfl ?_); at_builtin; refine Kd.R_append k34 (w0 := w) w.heap.size rfl (.tmp 46) (.tmp 48) 23 34 (.agg #[(.bool false), (.string ⟨#[]⟩), (.string ⟨#[]⟩)]) 40 rfl Try.underlying23 info34 rfl (by decide) (by omega) u10 l (⟨false, ky, va⟩ : S34) [.bool false, .string ky, .string va] (fun k_ => k_ ≠ p ∧ k_ ≠ q ∧ k_ ≠ nb) (fun _ => False) rfl (by first | (go_simp; done) | (go_simp; rfl)) ?aP (fun _ hk => hk.elim) ?aF ?aO ?aB ?aS ?aL ?_; (case aP => exact k34_mkM _ _ _ (⟨false, ky, va⟩ : S34)); (case aB => exact HBf.out); (case aF => exact (fun k_ hk_ => ⟨fun e_ => by have := blk_lt HSf.out.2.1; omega, fun e_ => by have := blk_lt HSf.out.2.2; omega, fun e_ => by have := blk_lt BNf.out; omega⟩)); (case aO => exact HOf.out); (case aS => exact HBf.out.size); (case aL => have := HL.out; omega); intro v1 y1 ho hb hg hat; have HOg := Aside0.mk ho; have HBg := Aside0.mk hb; have HSg : Aside0 (batch_Decode.St y1 p q sC false) := ⟨HSf.out.1, blk_grown HSf.out.2.1 hg (fun e_ => (HOf.out.1 p e_.symm).1 rfl), blk_grown HSf.out.2.2 hg (fun e_ => (HOf.out.1 q e_.symm).2.1 rfl)⟩; have BNg := Aside0.mk (blk_grown BNf.out hg (fun e_ => (HOf.out.1 nb e_.symm).2.2 rfl)); clear ho hb hg hat HOf HBf HSf BNf BKf d0_ d1_ d2_))
              go_roundg k1
              case measure => omega
              case rel => exact ⟨i + 1, sC, false, l ++ [(⟨false, ky, va⟩ : S34)], by go_num, ⟨by have := HI.out; omega⟩, ⟨by rw [show n - (i + 1) = m by have := HMm.out; omega]; exact HGf.out⟩, ⟨by rw [List.length_append, List.length_singleton, HL.out]⟩, HSg, BNg, HOg, HBg⟩
        · have hie : i = n := by omega
          have hg := HGI.out
          rw [show n - i = 0 by omega] at hg
          clear HGI
          obtain ⟨rfl, rfl, rfl⟩ : s = s3 ∧ g = g3 ∧ l = l3 := by simpa [batch_Decode.go] using hg
          clear hg
          have c1_ : wr.cell? ⟨q, 0, none⟩ = some (.bool g) := (blk_cell HS0.out.2.2 0).trans rfl
          have c2_ : wr.cell? ⟨p, 0, none⟩ = some (.string s) := (blk_cell HS0.out.2.1 0).trans rfl
          obtain ⟨A, cA, eA⟩ := Kd.R_slice HO0.out
          subst eA
          have hf := HFIN.out
          clear HFIN
          unfold batch_Decode.fin at hf
          cases g with
          | false =>
            rw [if_neg (by decide)] at hf
            simp only [Option.some.injEq, Prod.mk.injEq] at hf
            obtain ⟨rfl, rfl, rfl⟩ := hf
            go_wp2
            go_ret3
            exact ⟨_, rfl, Kd.R_nil _ _ _ _ _, HB0.out⟩
          | true =>
            rw [if_pos rfl] at hf
            by_cases hs : s.toList = ([] : List UInt8)
            · rw [if_pos hs] at hf
              have e1_ : (s.toList == ([] : List UInt8)) = true := beq_iff_eq.mpr hs
              have e2_ : (s.toList != ([] : List UInt8)) = false := bne_eq_false_iff_eq.mpr hs
              clear hs
              replace hf := Option.bind_eq_some_iff.mp hf
              obtain ⟨b1, hb1, hf⟩ := hf
              have HB1 := Lib.hid hb1
              clear hb1
              have HR := Aside0.mk (Kd.R_reads' HO0.out)
              cases b1 with
              | false =>
                rw [if_neg (by decide)] at hf
                go_wp2_with (fail)
                refine (batch_May.calls A cA l false _ HR.out.2.2 HR.out.2.1 HB1.out).mono ?_
                rintro e x1 ⟨rfl, hb⟩
                have HBx := Aside0.mk (below_step HB0.out hb)
                clear hb HB0 HO0 HR c1_ c2_
                simp only [Option.some.injEq, Prod.mk.injEq] at hf
                obtain ⟨rfl, rfl, rfl⟩ := hf
                go_wp2
                go_ret3
                exact ⟨_, rfl, Kd.R_nil _ _ _ _ _, HBx.out⟩
              | true =>
                rw [if_pos rfl] at hf
                replace hf := Option.bind_eq_some_iff.mp hf
                obtain ⟨b2, hb2, hf⟩ := hf
                have HB2 := Lib.hid hb2
                clear hb2
                go_wp2_with (fail)
                refine (batch_May.calls A cA l true _ HR.out.2.2 HR.out.2.1 HB1.out).mono ?_
                rintro e x1 ⟨rfl, hb⟩
                have HBx := Aside0.mk (below_step HB0.out hb)
                have HOx := Aside0.mk (Kd.R_below HO0.out hb)
                clear hb HB0 HO0 HR c1_ c2_
                go_wp2_with (fail)
                refine (batch_numbered.calls n1 (l.length : Int) b2 _ HB2.out).mono ?_
                rintro e x2 ⟨rfl, hb⟩
                have HBy := Aside0.mk (below_step HBx.out hb.below)
                have HOy := Aside0.mk (Kd.R_below HOx.out hb.below)
                clear hb HBx HOx
                cases b2 with
                | false =>
                  rw [if_neg (by decide)] at hf
                  simp only [Option.some.injEq, Prod.mk.injEq] at hf
                  obtain ⟨rfl, rfl, rfl⟩ := hf
                  go_wp2
                  go_ret3
                  exact ⟨_, rfl, Kd.R_nil _ _ _ _ _, HBy.out⟩
                | true =>
                  rw [if_pos rfl] at hf
                  simp only [Option.some.injEq, Prod.mk.injEq] at hf
                  obtain ⟨rfl, rfl, rfl⟩ := hf
                  go_wp2
                  go_ret3
                  exact ⟨_, rfl, Kd.R_mono HOy.out (fun _ _ => trivial), HBy.out⟩
            · rw [if_neg hs] at hf
              have e1_ : (s.toList == ([] : List UInt8)) = false := beq_eq_false_iff_ne.mpr hs
              have e2_ : (s.toList != ([] : List UInt8)) = true := bne_iff_ne.mpr hs
              clear hs
              simp only [Option.some.injEq, Prod.mk.injEq] at hf
              obtain ⟨rfl, rfl, rfl⟩ := hf
              go_wp2
              go_ret3
              exact ⟨_, rfl, Kd.R_nil _ _ _ _ _, HB0.out⟩

/-! ### screelaw05_awake: function 10 -/
def screelaw05_awake.f (k : Nat)  : Option (Bool) := (some (([(⟨false, (⟨#[97]⟩ : ByteArray), (⟨#[120, 121]⟩ : ByteArray)⟩ : S34), (⟨true, (⟨#[98]⟩ : ByteArray), (⟨#[]⟩ : ByteArray)⟩ : S34)] : List (S34)) : List (S34))).bind fun y123 => ((batch_Encode.f k 7 y123).bind fun bt126 => ((batch_Decode.f k bt126.1).bind fun bt128 => (if bt126.1.size + 1 ≤ 9223372036854775807 then ((batch_Decode.f k (bt126.1 ++ (⟨#[63]⟩ : ByteArray))).bind fun bt133 => ((batch_Encode.f k 0 y123).bind fun bt138 => ((batch_Entries.f k 7 y123).bind fun t140 => (if bt126.1.toList = ([7, 2, 0, 1, 97, 2, 120, 121, 1, 1, 98] : List UInt8) then (if bt126.2 = 0 then (if bt128.1 = 7 then ((screeref05_Same.f k y123 bt128.2.1).bind fun t143 => (if t143 = true then (if bt128.2.2 = 0 then (if bt133.2.2 = 2 then (if bt138.2 = 3 then (if (t140.length : Int) = 2 then (if 1 < (t140.length : Int) then (if ((((rd_T32 t140 1).f0).toList) == ([98] : List UInt8) && (((rd_T32 t140 1).f1) == 8 && (((rd_T32 t140 1).f2) && ((((rd_T32 t140 1).f3).toList) == ([] : List UInt8))))) = true then ((batch_May.f y123).bind fun t145 => (if t145 = true then ((batch_May.f ([] : List (S34))).bind fun t146 => (if t146 = true then (none) else ((batch_Size.f k y123).bind fun t147 => (some (t147 == 4))))) else (none))) else (none)) else (none)) else (none)) else (none)) else (none)) else (none)) else (none))) else (none)) else (none)) else (none))))) else (none))))
theorem screelaw05_awake.mono : ∀ k, LeO (screelaw05_awake.f k ) (screelaw05_awake.f (k + 1) ) := by
  intro  k
  unfold screelaw05_awake.f
  repeat' first
      | (with_reducible exact batch_Decode.mono _ _)
      | (with_reducible exact batch_Encode.mono _ _ _)
      | (with_reducible exact batch_Entries.mono _ _ _)
      | (with_reducible exact batch_Size.mono _ _)
      | (with_reducible exact screeref05_Same.mono _ _ _)
      | (with_reducible exact LeO.refl _)
      | (with_reducible exact LeO.none _)
      | (with_reducible refine LeO.ite ?_ ?_)
      | (with_reducible refine LeO.bind ?_ (fun _ => ?_))
      | exact batch_Decode.mono _ _
      | exact batch_Encode.mono _ _ _
      | exact batch_Entries.mono _ _ _
      | exact batch_Size.mono _ _
      | exact screeref05_Same.mono _ _ _
      | exact LeO.none _
      | refine LeO.ite ?_ ?_
      | refine LeO.bind ?_ (fun _ => ?_)
set_option maxHeartbeats 8000000 in
set_option maxRecDepth 100000 in
theorem screelaw05_awake.calls (k : Nat)  (r : Bool) (w : World) (h : screelaw05_awake.f k  = some r) :
    Calls Try.prog 10 #[] w fun e w' => e = .returned (.bool r) ∧ Below w.heap.size w w' := by
  have hu34 := Try.underlying34
  have hu32 := Try.underlying32
  have HB := Aside0.mk (Below.refl w.heap.size w)
  have H : ((some (([(⟨false, (⟨#[97]⟩ : ByteArray), (⟨#[120, 121]⟩ : ByteArray)⟩ : S34), (⟨true, (⟨#[98]⟩ : ByteArray), (⟨#[]⟩ : ByteArray)⟩ : S34)] : List (S34)) : List (S34))).bind fun y123 => ((batch_Encode.f k 7 y123).bind fun bt126 => ((batch_Decode.f k bt126.1).bind fun bt128 => (if bt126.1.size + 1 ≤ 9223372036854775807 then ((batch_Decode.f k (bt126.1 ++ (⟨#[63]⟩ : ByteArray))).bind fun bt133 => ((batch_Encode.f k 0 y123).bind fun bt138 => ((batch_Entries.f k 7 y123).bind fun t140 => (if bt126.1.toList = ([7, 2, 0, 1, 97, 2, 120, 121, 1, 1, 98] : List UInt8) then (if bt126.2 = 0 then (if bt128.1 = 7 then ((screeref05_Same.f k y123 bt128.2.1).bind fun t143 => (if t143 = true then (if bt128.2.2 = 0 then (if bt133.2.2 = 2 then (if bt138.2 = 3 then (if (t140.length : Int) = 2 then (if 1 < (t140.length : Int) then (if ((((rd_T32 t140 1).f0).toList) == ([98] : List UInt8) && (((rd_T32 t140 1).f1) == 8 && (((rd_T32 t140 1).f2) && ((((rd_T32 t140 1).f3).toList) == ([] : List UInt8))))) = true then ((batch_May.f y123).bind fun t145 => (if t145 = true then ((batch_May.f ([] : List (S34))).bind fun t146 => (if t146 = true then (none) else ((batch_Size.f k y123).bind fun t147 => (some (t147 == 4))))) else (none))) else (none)) else (none)) else (none)) else (none)) else (none)) else (none)) else (none))) else (none)) else (none)) else (none))))) else (none))))) = some r := h
  clear h
  obtain ⟨y123, hy123⟩ : ∃ y_ : List (S34), y_ = (([(⟨false, (⟨#[97]⟩ : ByteArray), (⟨#[120, 121]⟩ : ByteArray)⟩ : S34), (⟨true, (⟨#[98]⟩ : ByteArray), (⟨#[]⟩ : ByteArray)⟩ : S34)] : List (S34))) := ⟨_, rfl⟩
  replace H : ((batch_Encode.f k 7 y123).bind fun bt126 => ((batch_Decode.f k bt126.1).bind fun bt128 => (if bt126.1.size + 1 ≤ 9223372036854775807 then ((batch_Decode.f k (bt126.1 ++ (⟨#[63]⟩ : ByteArray))).bind fun bt133 => ((batch_Encode.f k 0 y123).bind fun bt138 => ((batch_Entries.f k 7 y123).bind fun t140 => (if bt126.1.toList = ([7, 2, 0, 1, 97, 2, 120, 121, 1, 1, 98] : List UInt8) then (if bt126.2 = 0 then (if bt128.1 = 7 then ((screeref05_Same.f k y123 bt128.2.1).bind fun t143 => (if t143 = true then (if bt128.2.2 = 0 then (if bt133.2.2 = 2 then (if bt138.2 = 3 then (if (t140.length : Int) = 2 then (if 1 < (t140.length : Int) then (if ((((rd_T32 t140 1).f0).toList) == ([98] : List UInt8) && (((rd_T32 t140 1).f1) == 8 && (((rd_T32 t140 1).f2) && ((((rd_T32 t140 1).f3).toList) == ([] : List UInt8))))) = true then ((batch_May.f y123).bind fun t145 => (if t145 = true then ((batch_May.f ([] : List (S34))).bind fun t146 => (if t146 = true then (none) else ((batch_Size.f k y123).bind fun t147 => (some (t147 == 4))))) else (none))) else (none)) else (none)) else (none)) else (none)) else (none)) else (none)) else (none))) else (none)) else (none)) else (none))))) else (none)))) = some r := by first | (rw [hy123]; with_reducible exact H) | (have H2_ := (Option.bind_some _ _).symm.trans H; rw [hy123]; with_reducible exact H2_) | (have H2_ := (Option.bind_some _ _).symm.trans H; with_reducible exact H2_) | with_reducible exact H | (rw [hy123]; exact H) | exact H
  have Ny123 := Aside0.mk hy123
  clear hy123
  replace H := Option.bind_eq_some_iff.mp H
  obtain ⟨⟨t126, t127⟩, A10, H⟩ := H
  replace H : ((batch_Decode.f k t126).bind fun bt128 => (if t126.size + 1 ≤ 9223372036854775807 then ((batch_Decode.f k (t126 ++ (⟨#[63]⟩ : ByteArray))).bind fun bt133 => ((batch_Encode.f k 0 y123).bind fun bt138 => ((batch_Entries.f k 7 y123).bind fun t140 => (if t126.toList = ([7, 2, 0, 1, 97, 2, 120, 121, 1, 1, 98] : List UInt8) then (if t127 = 0 then (if bt128.1 = 7 then ((screeref05_Same.f k y123 bt128.2.1).bind fun t143 => (if t143 = true then (if bt128.2.2 = 0 then (if bt133.2.2 = 2 then (if bt138.2 = 3 then (if (t140.length : Int) = 2 then (if 1 < (t140.length : Int) then (if ((((rd_T32 t140 1).f0).toList) == ([98] : List UInt8) && (((rd_T32 t140 1).f1) == 8 && (((rd_T32 t140 1).f2) && ((((rd_T32 t140 1).f3).toList) == ([] : List UInt8))))) = true then ((batch_May.f y123).bind fun t145 => (if t145 = true then ((batch_May.f ([] : List (S34))).bind fun t146 => (if t146 = true then (none) else ((batch_Size.f k y123).bind fun t147 => (some (t147 == 4))))) else (none))) else (none)) else (none)) else (none)) else (none)) else (none)) else (none)) else (none))) else (none)) else (none)) else (none))))) else (none))) = some r := H
  have A1 := Aside0.mk A10
  clear A10
  replace H := Option.bind_eq_some_iff.mp H
  obtain ⟨⟨t128, t129, t130⟩, A20, H⟩ := H
  replace H : (if t126.size + 1 ≤ 9223372036854775807 then ((batch_Decode.f k (t126 ++ (⟨#[63]⟩ : ByteArray))).bind fun bt133 => ((batch_Encode.f k 0 y123).bind fun bt138 => ((batch_Entries.f k 7 y123).bind fun t140 => (if t126.toList = ([7, 2, 0, 1, 97, 2, 120, 121, 1, 1, 98] : List UInt8) then (if t127 = 0 then (if t128 = 7 then ((screeref05_Same.f k y123 t129).bind fun t143 => (if t143 = true then (if t130 = 0 then (if bt133.2.2 = 2 then (if bt138.2 = 3 then (if (t140.length : Int) = 2 then (if 1 < (t140.length : Int) then (if ((((rd_T32 t140 1).f0).toList) == ([98] : List UInt8) && (((rd_T32 t140 1).f1) == 8 && (((rd_T32 t140 1).f2) && ((((rd_T32 t140 1).f3).toList) == ([] : List UInt8))))) = true then ((batch_May.f y123).bind fun t145 => (if t145 = true then ((batch_May.f ([] : List (S34))).bind fun t146 => (if t146 = true then (none) else ((batch_Size.f k y123).bind fun t147 => (some (t147 == 4))))) else (none))) else (none)) else (none)) else (none)) else (none)) else (none)) else (none)) else (none))) else (none)) else (none)) else (none))))) else (none)) = some r := H
  have A2 := Aside0.mk A20
  clear A20
  by_cases c3 : t126.size + 1 ≤ 9223372036854775807
  · rw [if_pos c3] at H
    have c3b0 := eq_true c3
    have c3b1 : decide (t126.size + 1 ≤ 9223372036854775807) = true := decide_eq_true c3
    try have c3b2 : (9223372036854775807 < t126.size + 1) = False := eq_false (Nat.not_lt.2 c3)
    try (have c3b3 := c3b2; simp only [ByteArray.size_append] at c3b3)
    try (have c3b4 := c3b2; simp only [ByteArray.size_extract, ByteArray.size_append, Nat.sub_zero] at c3b4)
    replace H := Option.bind_eq_some_iff.mp H
    obtain ⟨⟨t133, t134, t135⟩, A40, H⟩ := H
    replace H : ((batch_Encode.f k 0 y123).bind fun bt138 => ((batch_Entries.f k 7 y123).bind fun t140 => (if t126.toList = ([7, 2, 0, 1, 97, 2, 120, 121, 1, 1, 98] : List UInt8) then (if t127 = 0 then (if t128 = 7 then ((screeref05_Same.f k y123 t129).bind fun t143 => (if t143 = true then (if t130 = 0 then (if t135 = 2 then (if bt138.2 = 3 then (if (t140.length : Int) = 2 then (if 1 < (t140.length : Int) then (if ((((rd_T32 t140 1).f0).toList) == ([98] : List UInt8) && (((rd_T32 t140 1).f1) == 8 && (((rd_T32 t140 1).f2) && ((((rd_T32 t140 1).f3).toList) == ([] : List UInt8))))) = true then ((batch_May.f y123).bind fun t145 => (if t145 = true then ((batch_May.f ([] : List (S34))).bind fun t146 => (if t146 = true then (none) else ((batch_Size.f k y123).bind fun t147 => (some (t147 == 4))))) else (none))) else (none)) else (none)) else (none)) else (none)) else (none)) else (none)) else (none))) else (none)) else (none)) else (none)))) = some r := H
    have A4 := Aside0.mk A40
    clear A40
    replace H := Option.bind_eq_some_iff.mp H
    obtain ⟨⟨t138, t139⟩, A50, H⟩ := H
    replace H : ((batch_Entries.f k 7 y123).bind fun t140 => (if t126.toList = ([7, 2, 0, 1, 97, 2, 120, 121, 1, 1, 98] : List UInt8) then (if t127 = 0 then (if t128 = 7 then ((screeref05_Same.f k y123 t129).bind fun t143 => (if t143 = true then (if t130 = 0 then (if t135 = 2 then (if t139 = 3 then (if (t140.length : Int) = 2 then (if 1 < (t140.length : Int) then (if ((((rd_T32 t140 1).f0).toList) == ([98] : List UInt8) && (((rd_T32 t140 1).f1) == 8 && (((rd_T32 t140 1).f2) && ((((rd_T32 t140 1).f3).toList) == ([] : List UInt8))))) = true then ((batch_May.f y123).bind fun t145 => (if t145 = true then ((batch_May.f ([] : List (S34))).bind fun t146 => (if t146 = true then (none) else ((batch_Size.f k y123).bind fun t147 => (some (t147 == 4))))) else (none))) else (none)) else (none)) else (none)) else (none)) else (none)) else (none)) else (none))) else (none)) else (none)) else (none))) = some r := H
    have A5 := Aside0.mk A50
    clear A50
    replace H := Option.bind_eq_some_iff.mp H
    obtain ⟨t140, A60, H⟩ := H
    replace H : (if t126.toList = ([7, 2, 0, 1, 97, 2, 120, 121, 1, 1, 98] : List UInt8) then (if t127 = 0 then (if t128 = 7 then ((screeref05_Same.f k y123 t129).bind fun t143 => (if t143 = true then (if t130 = 0 then (if t135 = 2 then (if t139 = 3 then (if (t140.length : Int) = 2 then (if 1 < (t140.length : Int) then (if ((((rd_T32 t140 1).f0).toList) == ([98] : List UInt8) && (((rd_T32 t140 1).f1) == 8 && (((rd_T32 t140 1).f2) && ((((rd_T32 t140 1).f3).toList) == ([] : List UInt8))))) = true then ((batch_May.f y123).bind fun t145 => (if t145 = true then ((batch_May.f ([] : List (S34))).bind fun t146 => (if t146 = true then (none) else ((batch_Size.f k y123).bind fun t147 => (some (t147 == 4))))) else (none))) else (none)) else (none)) else (none)) else (none)) else (none)) else (none)) else (none))) else (none)) else (none)) else (none)) = some r := H
    have A6 := Aside0.mk A60
    clear A60
    by_cases c7 : t126.toList = ([7, 2, 0, 1, 97, 2, 120, 121, 1, 1, 98] : List UInt8)
    · rw [if_pos c7] at H
      have c7b0 : (t126.toList == ([7, 2, 0, 1, 97, 2, 120, 121, 1, 1, 98] : List UInt8)) = true := beq_iff_eq.mpr c7
      have c7b1 : (t126.toList != ([7, 2, 0, 1, 97, 2, 120, 121, 1, 1, 98] : List UInt8)) = false := bne_eq_false_iff_eq.mpr c7
      clear c7
      by_cases c8 : t127 = 0
      · rw [if_pos c8] at H
        have c8b0 : (t127 == 0) = true := beq_iff_eq.mpr c8
        have c8b1 : (t127 != 0) = false := bne_eq_false_iff_eq.mpr c8
        clear c8
        by_cases c9 : t128 = 7
        · rw [if_pos c9] at H
          have c9b0 : (t128 == 7) = true := beq_iff_eq.mpr c9
          have c9b1 : (t128 != 7) = false := bne_eq_false_iff_eq.mpr c9
          clear c9
          replace H := Option.bind_eq_some_iff.mp H
          obtain ⟨t143, A100, H⟩ := H
          replace H : (if t143 = true then (if t130 = 0 then (if t135 = 2 then (if t139 = 3 then (if (t140.length : Int) = 2 then (if 1 < (t140.length : Int) then (if ((((rd_T32 t140 1).f0).toList) == ([98] : List UInt8) && (((rd_T32 t140 1).f1) == 8 && (((rd_T32 t140 1).f2) && ((((rd_T32 t140 1).f3).toList) == ([] : List UInt8))))) = true then ((batch_May.f y123).bind fun t145 => (if t145 = true then ((batch_May.f ([] : List (S34))).bind fun t146 => (if t146 = true then (none) else ((batch_Size.f k y123).bind fun t147 => (some (t147 == 4))))) else (none))) else (none)) else (none)) else (none)) else (none)) else (none)) else (none)) else (none)) = some r := H
          have A10 := Aside0.mk A100
          clear A100
          by_cases c11 : t143 = true
          · subst c11
            have H1 : (if t130 = 0 then (if t135 = 2 then (if t139 = 3 then (if (t140.length : Int) = 2 then (if 1 < (t140.length : Int) then (if ((((rd_T32 t140 1).f0).toList) == ([98] : List UInt8) && (((rd_T32 t140 1).f1) == 8 && (((rd_T32 t140 1).f2) && ((((rd_T32 t140 1).f3).toList) == ([] : List UInt8))))) = true then ((batch_May.f y123).bind fun t145 => (if t145 = true then ((batch_May.f ([] : List (S34))).bind fun t146 => (if t146 = true then (none) else ((batch_Size.f k y123).bind fun t147 => (some (t147 == 4))))) else (none))) else (none)) else (none)) else (none)) else (none)) else (none)) else (none)) = some r := by rw [if_pos rfl] at H; exact H
            clear H
            have H := H1
            clear H1
            by_cases c12 : t130 = 0
            · rw [if_pos c12] at H
              have c12b0 : (t130 == 0) = true := beq_iff_eq.mpr c12
              have c12b1 : (t130 != 0) = false := bne_eq_false_iff_eq.mpr c12
              clear c12
              by_cases c13 : t135 = 2
              · rw [if_pos c13] at H
                have c13b0 : (t135 == 2) = true := beq_iff_eq.mpr c13
                have c13b1 : (t135 != 2) = false := bne_eq_false_iff_eq.mpr c13
                clear c13
                by_cases c14 : t139 = 3
                · rw [if_pos c14] at H
                  have c14b0 : (t139 == 3) = true := beq_iff_eq.mpr c14
                  have c14b1 : (t139 != 3) = false := bne_eq_false_iff_eq.mpr c14
                  clear c14
                  by_cases c15 : (t140.length : Int) = 2
                  · rw [if_pos c15] at H
                    have c15b0 : ((t140.length : Int) == 2) = true := beq_iff_eq.mpr c15
                    have c15b1 : ((t140.length : Int) != 2) = false := bne_eq_false_iff_eq.mpr c15
                    clear c15
                    by_cases c16 : 1 < (t140.length : Int)
                    · rw [if_pos c16] at H
                      have c16b0 : decide (1 < (t140.length : Int)) = true := decide_eq_true c16
                      have c16b1 : decide (1 < t140.length) = true := decide_eq_true (by omega)
                      clear c16
                      by_cases c17 : ((((rd_T32 t140 1).f0).toList) == ([98] : List UInt8) && (((rd_T32 t140 1).f1) == 8 && (((rd_T32 t140 1).f2) && ((((rd_T32 t140 1).f3).toList) == ([] : List UInt8))))) = true
                      · rw [if_pos c17] at H
                        have c17b0 : ((((rd_T32 t140 1).f0).toList) == ([98] : List UInt8) && (((rd_T32 t140 1).f1) == 8 && (((rd_T32 t140 1).f2) && ((((rd_T32 t140 1).f3).toList) == ([] : List UInt8))))) = true := c17
                        (try (have c17b1 : decide ((((rd_T32 t140 1).f0).toList) = ([98] : List UInt8) && (((rd_T32 t140 1).f1) == 8 && (((rd_T32 t140 1).f2) && ((((rd_T32 t140 1).f3).toList) == ([] : List UInt8))))) = true := by simpa using c17))
                        (try (have c17b2 : ((((rd_T32 t140 1).f0).toList) == ([98] : List UInt8) && (((rd_T32 t140 1).f1) == 8 && (((rd_T32 t140 1).f2) && ((((rd_T32 t140 1).f3).toList) == ([] : List UInt8))))) = true := by simpa using c17))
                        clear c17
                        replace H := Option.bind_eq_some_iff.mp H
                        obtain ⟨t145, A180, H⟩ := H
                        replace H : (if t145 = true then ((batch_May.f ([] : List (S34))).bind fun t146 => (if t146 = true then (none) else ((batch_Size.f k y123).bind fun t147 => (some (t147 == 4))))) else (none)) = some r := H
                        have A18 := Aside0.mk A180
                        clear A180
                        by_cases c19 : t145 = true
                        · subst c19
                          have H1 : ((batch_May.f ([] : List (S34))).bind fun t146 => (if t146 = true then (none) else ((batch_Size.f k y123).bind fun t147 => (some (t147 == 4))))) = some r := by rw [if_pos rfl] at H; exact H
                          clear H
                          have H := H1
                          clear H1
                          replace H := Option.bind_eq_some_iff.mp H
                          obtain ⟨t146, A200, H⟩ := H
                          replace H : (if t146 = true then (none) else ((batch_Size.f k y123).bind fun t147 => (some (t147 == 4)))) = some r := H
                          have A20 := Aside0.mk A200
                          clear A200
                          by_cases c21 : t146 = true
                          · subst c21
                            have H1 : (none) = some r := by rw [if_pos rfl] at H; exact H
                            clear H
                            have H := H1
                            clear H1
                            exact absurd H (by simp)
                          · replace c21 := Bool.eq_false_iff.mpr c21
                            subst c21
                            have H1 : ((batch_Size.f k y123).bind fun t147 => (some (t147 == 4))) = some r := by rw [if_neg (show ¬ (false = true) by decide)] at H; exact H
                            clear H
                            have H := H1
                            clear H1
                            replace H := Option.bind_eq_some_iff.mp H
                            obtain ⟨t147, A220, H⟩ := H
                            replace H : (some (t147 == 4)) = some r := H
                            have A22 := Aside0.mk A220
                            clear A220
                            obtain rfl := Option.some.inj H
                            go_enter Try.func10, Try.ntmps10
                            go_wp2_with (first | ((with_reducible refine gate_dst (N := 15) rfl ?_); (try (refine gate_guard (by rfl) ?_; dsimp only)); refine Kd.R_lit k34 _ 34 ?hg (N := 15) ?hd (xs := ([(⟨false, (⟨#[97]⟩ : ByteArray), (⟨#[120, 121]⟩ : ByteArray)⟩ : S34), (⟨true, (⟨#[98]⟩ : ByteArray), (⟨#[]⟩ : ByteArray)⟩ : S34)] : List (S34))) (inner := [.bool false, .string (⟨#[97]⟩ : ByteArray), .string (⟨#[120, 121]⟩ : ByteArray), .bool true, .string (⟨#[98]⟩ : ByteArray), .string (⟨#[]⟩ : ByteArray)]) (ok := fun _ => True) (okp := fun _ => True) ?hr ?hp (fun _ hk => hk) trivial (Below.refl _ _) (Nat.le_refl _) (by simp) ?_; (case hd => rfl); (case hg => rfl); (case hr => first | (go_simp; done) | (go_simp; rfl)); (case hp => exact (Reps.c3 (show Kd.M k34 _ _ _ (⟨false, (⟨#[97]⟩ : ByteArray), (⟨#[120, 121]⟩ : ByteArray)⟩ : S34) [.bool false, .string (⟨#[97]⟩ : ByteArray), .string (⟨#[120, 121]⟩ : ByteArray)] from (k34_mkM _ _ _ (⟨false, (⟨#[97]⟩ : ByteArray), (⟨#[120, 121]⟩ : ByteArray)⟩ : S34) )) (Reps.c3 (show Kd.M k34 _ _ _ (⟨true, (⟨#[98]⟩ : ByteArray), (⟨#[]⟩ : ByteArray)⟩ : S34) [.bool true, .string (⟨#[98]⟩ : ByteArray), .string (⟨#[]⟩ : ByteArray)] from (k34_mkM _ _ _ (⟨true, (⟨#[98]⟩ : ByteArray), (⟨#[]⟩ : ByteArray)⟩ : S34) )) (Reps.none _ _)))); intro v124 w23 ho24 hb hg_ hnew_; clear hg_ hnew_; (first | rw [← Ny123.out] at ho24 | (simp only [Int.reduceToNat] at ho24; rw [← Ny123.out] at ho24)); have n0_ := Aside0.mk (Kd.R_lower ho24 (below_size (by repeat (first | (with_reducible first | exact HB.out | apply below_alloc | apply pw_below_drewN | apply below_drew1) | exact HB.out)))); have n1_ := Aside0.mk (below_step (by repeat (first | (with_reducible first | exact HB.out | apply below_alloc | apply pw_below_drewN | apply below_drew1) | exact HB.out)) hb); clear HB; have HO125 := n0_; have HB := n1_; clear n0_ n1_; clear hb ho24; obtain ⟨Ao25, co25, eo25⟩ := Kd.R_slice HO125.out; subst eo25) | ((with_reducible refine gate_callee (f := 12) rfl ?_); refine goesL_ (some 18) rfl rfl Try.func12 (by kernel_rfl) rfl #[.int .u64 7, .slice Ao25 y123.length co25] rfl (by (try simp only [List.map_toArray, List.map_cons, List.map_nil]); first | done | rfl | (simp only [List.length_drop, List.length_take]; rfl) | (simp (disch := omega) only [IntWalk.u64_in, IntWalk.i64_in, IntWalk.u8_in]; rfl)) ?_; (with_reducible refine (batch_Encode.calls k 7 _ _ y123 t126 t127 _ ?side1 ?side2 A1.out).mono ?_); (case side1 => repeat (first | exact (Kd.R_reads' HO125.out).2.2 | (with_reducible refine Kd.C_alloc ?_ _) | (with_reducible refine Kd.C_drewN ?_ _) | (with_reducible refine Kd.C_drew ?_))); (case side2 => exact (Kd.R_reads' HO125.out).2.1); rintro e w26 ⟨rfl, hb⟩; refine ⟨_, rfl, ?_⟩; have n0_ := Aside0.mk (Kd.R_below (by (with_reducible repeat (first | apply Kd.R_alloc | apply Kd.R_drewN | apply Kd.R_drew)); exact HO125.out) hb); have n1_ := Aside0.mk (below_step (by repeat (first | (with_reducible first | exact HB.out | apply below_alloc | apply pw_below_drewN | apply below_drew1) | exact HB.out)) hb); clear HO125; clear HB; have HO125 := n0_; have HB := n1_; clear n0_ n1_; (try clear hb); (try clear hb2); (try clear hk); (try clear hi); (try clear A1)) | ((with_reducible refine gate_callee (f := 20) rfl ?_); refine goesL_ (some 23) rfl rfl Try.func20 (by kernel_rfl) rfl #[.string t126] rfl (by (try simp only [List.map_toArray, List.map_cons, List.map_nil]); first | done | rfl | (simp only [List.length_drop, List.length_take]; rfl) | (simp (disch := omega) only [IntWalk.u64_in, IntWalk.i64_in, IntWalk.u8_in]; rfl)) ?_; (with_reducible refine (batch_Decode.calls k t126 t128 t129 t130 _ A2.out).mono ?_); rintro e w27 ⟨v131, rfl, ho0, hb⟩; refine ⟨_, rfl, ?_⟩; have n0_ := Aside0.mk (Kd.R_elder' (by (with_reducible repeat (first | apply Kd.R_alloc | apply Kd.R_drewN | apply Kd.R_drew)); exact HO125.out) (Kd.R_base ho0) hb); have n1_ := Aside0.mk (Kd.R_lower (Kd.R_new' ho0 (Kd.R_lt (by (with_reducible repeat (first | apply Kd.R_alloc | apply Kd.R_drewN | apply Kd.R_drew)); exact HO125.out))) (below_size (by repeat (first | (with_reducible first | exact HB.out | apply below_alloc | apply pw_below_drewN | apply below_drew1) | exact HB.out)))); have n2_ := Aside0.mk (below_step (by repeat (first | (with_reducible first | exact HB.out | apply below_alloc | apply pw_below_drewN | apply below_drew1) | exact HB.out)) hb); clear HO125; clear HB; have HO125 := n0_; have HO132 := n1_; have HB := n2_; clear n0_ n1_ n2_; (try clear hb); (try clear hb2); (try clear hk); (try clear hi); (try clear ho0); (try clear A2)) | ((with_reducible refine gate_callee (f := 20) rfl ?_); refine goesL_ (some 30) rfl rfl Try.func20 (by kernel_rfl) rfl #[.string (t126 ++ (⟨#[63]⟩ : ByteArray))] rfl (by (try simp only [List.map_toArray, List.map_cons, List.map_nil]); first | done | rfl | (simp only [List.length_drop, List.length_take]; rfl) | (simp (disch := omega) only [IntWalk.u64_in, IntWalk.i64_in, IntWalk.u8_in]; rfl)) ?_; (with_reducible refine (batch_Decode.calls k (t126 ++ (⟨#[63]⟩ : ByteArray)) t133 t134 t135 _ A4.out).mono ?_); rintro e w28 ⟨v136, rfl, ho0, hb⟩; refine ⟨_, rfl, ?_⟩; have n0_ := Aside0.mk (Kd.R_elder' (by (with_reducible repeat (first | apply Kd.R_alloc | apply Kd.R_drewN | apply Kd.R_drew)); exact HO125.out) (Kd.R_base ho0) hb); have n1_ := Aside0.mk (Kd.R_elder' (by (with_reducible repeat (first | apply Kd.R_alloc | apply Kd.R_drewN | apply Kd.R_drew)); exact HO132.out) (Kd.R_base ho0) hb); have n2_ := Aside0.mk (Kd.R_lower (Kd.R_new' (Kd.R_new' ho0 (Kd.R_lt (by (with_reducible repeat (first | apply Kd.R_alloc | apply Kd.R_drewN | apply Kd.R_drew)); exact HO125.out))) (Kd.R_lt (by (with_reducible repeat (first | apply Kd.R_alloc | apply Kd.R_drewN | apply Kd.R_drew)); exact HO132.out))) (below_size (by repeat (first | (with_reducible first | exact HB.out | apply below_alloc | apply pw_below_drewN | apply below_drew1) | exact HB.out)))); have n3_ := Aside0.mk (below_step (by repeat (first | (with_reducible first | exact HB.out | apply below_alloc | apply pw_below_drewN | apply below_drew1) | exact HB.out)) hb); clear HO125; clear HO132; clear HB; have HO125 := n0_; have HO132 := n1_; have HO137 := n2_; have HB := n3_; clear n0_ n1_ n2_ n3_; (try clear hb); (try clear hb2); (try clear hk); (try clear hi); (try clear ho0); (try clear A4)) | ((with_reducible refine gate_callee (f := 12) rfl ?_); refine goesL_ (some 36) rfl rfl Try.func12 (by kernel_rfl) rfl #[.int .u64 0, .slice Ao25 y123.length co25] rfl (by (try simp only [List.map_toArray, List.map_cons, List.map_nil]); first | done | rfl | (simp only [List.length_drop, List.length_take]; rfl) | (simp (disch := omega) only [IntWalk.u64_in, IntWalk.i64_in, IntWalk.u8_in]; rfl)) ?_; (with_reducible refine (batch_Encode.calls k 0 _ _ y123 t138 t139 _ ?side1 ?side2 A5.out).mono ?_); (case side1 => repeat (first | exact (Kd.R_reads' HO125.out).2.2 | (with_reducible refine Kd.C_alloc ?_ _) | (with_reducible refine Kd.C_drewN ?_ _) | (with_reducible refine Kd.C_drew ?_))); (case side2 => exact (Kd.R_reads' HO125.out).2.1); rintro e w29 ⟨rfl, hb⟩; refine ⟨_, rfl, ?_⟩; have n0_ := Aside0.mk (Kd.R_below (by (with_reducible repeat (first | apply Kd.R_alloc | apply Kd.R_drewN | apply Kd.R_drew)); exact HO125.out) hb); have n1_ := Aside0.mk (Kd.R_below (by (with_reducible repeat (first | apply Kd.R_alloc | apply Kd.R_drewN | apply Kd.R_drew)); exact HO132.out) hb); have n2_ := Aside0.mk (Kd.R_below (by (with_reducible repeat (first | apply Kd.R_alloc | apply Kd.R_drewN | apply Kd.R_drew)); exact HO137.out) hb); have n3_ := Aside0.mk (below_step (by repeat (first | (with_reducible first | exact HB.out | apply below_alloc | apply pw_below_drewN | apply below_drew1) | exact HB.out)) hb); clear HO125; clear HO132; clear HO137; clear HB; have HO125 := n0_; have HO132 := n1_; have HO137 := n2_; have HB := n3_; clear n0_ n1_ n2_ n3_; (try clear hb); (try clear hb2); (try clear hk); (try clear hi); (try clear A5)) | ((with_reducible refine gate_callee (f := 14) rfl ?_); refine goesL_ (some 40) rfl rfl Try.func14 (by kernel_rfl) rfl #[.int .u64 7, .slice Ao25 y123.length co25] rfl (by (try simp only [List.map_toArray, List.map_cons, List.map_nil]); first | done | rfl | (simp only [List.length_drop, List.length_take]; rfl) | (simp (disch := omega) only [IntWalk.u64_in, IntWalk.i64_in, IntWalk.u8_in]; rfl)) ?_; (with_reducible refine (batch_Entries.calls k 7 _ _ y123 t140 _ ?side1 ?side2 A6.out).mono ?_); (case side1 => repeat (first | exact (Kd.R_reads' HO125.out).2.2 | (with_reducible refine Kd.C_alloc ?_ _) | (with_reducible refine Kd.C_drewN ?_ _) | (with_reducible refine Kd.C_drew ?_))); (case side2 => exact (Kd.R_reads' HO125.out).2.1); rintro e w30 ⟨v141, rfl, ho0, hb⟩; refine ⟨_, rfl, ?_⟩; have n0_ := Aside0.mk (Kd.R_below (by (with_reducible repeat (first | apply Kd.R_alloc | apply Kd.R_drewN | apply Kd.R_drew)); exact HO125.out) hb); have n1_ := Aside0.mk (Kd.R_below (by (with_reducible repeat (first | apply Kd.R_alloc | apply Kd.R_drewN | apply Kd.R_drew)); exact HO132.out) hb); have n2_ := Aside0.mk (Kd.R_below (by (with_reducible repeat (first | apply Kd.R_alloc | apply Kd.R_drewN | apply Kd.R_drew)); exact HO137.out) hb); have n3_ := Aside0.mk (Kd.R_lower ho0 (below_size (by repeat (first | (with_reducible first | exact HB.out | apply below_alloc | apply pw_below_drewN | apply below_drew1) | exact HB.out)))); have n4_ := Aside0.mk (below_step (by repeat (first | (with_reducible first | exact HB.out | apply below_alloc | apply pw_below_drewN | apply below_drew1) | exact HB.out)) hb); clear HO125; clear HO132; clear HO137; clear HB; have HO125 := n0_; have HO132 := n1_; have HO137 := n2_; have HO142 := n3_; have HB := n4_; clear n0_ n1_ n2_ n3_ n4_; (try clear hb); (try clear hb2); (try clear hk); (try clear hi); (try clear ho0); (try clear A6); obtain ⟨Ao31, co31, eo31⟩ := Kd.R_slice HO132.out; subst eo31) | (go_at_call 19; (with_reducible refine (screeref05_Same.calls k _ _ y123 _ _ t129 true _ ?side1 ?side2 ?side3 ?side4 A10.out).mono ?_); (case side1 => repeat (first | exact (Kd.R_reads' HO125.out).2.2 | (with_reducible refine Kd.C_alloc ?_ _) | (with_reducible refine Kd.C_drewN ?_ _) | (with_reducible refine Kd.C_drew ?_))); (case side2 => exact (Kd.R_reads' HO125.out).2.1); (case side3 => repeat (first | exact (Kd.R_reads' HO132.out).2.2 | (with_reducible refine Kd.C_alloc ?_ _) | (with_reducible refine Kd.C_drewN ?_ _) | (with_reducible refine Kd.C_drew ?_))); (case side4 => exact (Kd.R_reads' HO132.out).2.1); rintro e w' ⟨rfl, ⟨nd, rfl⟩⟩; obtain ⟨Ao32, co32, eo32⟩ := Kd.R_slice HO142.out; subst eo32; have p144 : 0 ≤ (1 : Int) := (by omega); have q144 : 1 < (t140.length : Int) := of_decide_eq_true (by first | (with_reducible assumption) | assumption); obtain ⟨ad144, e144, hx144_0, hx144_1, hx144_2, hx144_3⟩ := at_T32 (Kd.R_reads' HO142.out).2.2 1 p144 q144; cases e144; (try simp only [show (1 : Int).toNat = 1 from rfl, Nat.reduceMul, Nat.reduceEqDiff, Go.Addr.add, ↓reduceIte] at hx144_0); (try simp only [show (1 : Int).toNat = 1 from rfl, Nat.reduceMul, Nat.reduceEqDiff, Go.Addr.add, ↓reduceIte] at hx144_1); (try simp only [show (1 : Int).toNat = 1 from rfl, Nat.reduceMul, Nat.reduceEqDiff, Go.Addr.add, ↓reduceIte] at hx144_2); (try simp only [show (1 : Int).toNat = 1 from rfl, Nat.reduceMul, Nat.reduceEqDiff, Go.Addr.add, ↓reduceIte] at hx144_3); have qi144 : (1 < t140.length) = True := eq_true (by omega); (try rw [show ((1 : Int)).toNat = 1 from rfl] at hx144_0); (try rw [show 1 * 4 = 4 from rfl] at hx144_0); (try rw [show ((1 : Int)).toNat = 1 from rfl] at hx144_1); (try rw [show 1 * 4 = 4 from rfl] at hx144_1); (try rw [show ((1 : Int)).toNat = 1 from rfl] at hx144_2); (try rw [show 1 * 4 = 4 from rfl] at hx144_2); (try rw [show ((1 : Int)).toNat = 1 from rfl] at hx144_3); (try rw [show 1 * 4 = 4 from rfl] at hx144_3); replace p144 := eq_true p144; replace q144 := eq_true q144) | (go_at_call 16; (with_reducible refine (batch_May.calls _ _ y123 true _ ?side1 ?side2 A18.out).mono ?_); (case side1 => repeat (first | exact (Kd.R_reads' HO125.out).2.2 | (with_reducible refine Kd.C_alloc ?_ _) | (with_reducible refine Kd.C_drewN ?_ _) | (with_reducible refine Kd.C_drew ?_))); (case side2 => exact (Kd.R_reads' HO125.out).2.1); rintro e w33 ⟨rfl, hb⟩; have n0_ := Aside0.mk (Kd.R_below (by (with_reducible repeat (first | apply Kd.R_alloc | apply Kd.R_drewN | apply Kd.R_drew)); exact HO125.out) hb); have n1_ := Aside0.mk (Kd.R_below (by (with_reducible repeat (first | apply Kd.R_alloc | apply Kd.R_drewN | apply Kd.R_drew)); exact HO132.out) hb); have n2_ := Aside0.mk (Kd.R_below (by (with_reducible repeat (first | apply Kd.R_alloc | apply Kd.R_drewN | apply Kd.R_drew)); exact HO137.out) hb); have n3_ := Aside0.mk (Kd.R_below (by (with_reducible repeat (first | apply Kd.R_alloc | apply Kd.R_drewN | apply Kd.R_drew)); exact HO142.out) hb); have n4_ := Aside0.mk (below_step (by repeat (first | (with_reducible first | exact HB.out | apply below_alloc | apply pw_below_drewN | apply below_drew1) | exact HB.out)) hb); clear HO125; clear HO132; clear HO137; clear HO142; clear HB; have HO125 := n0_; have HO132 := n1_; have HO137 := n2_; have HO142 := n3_; have HB := n4_; clear n0_ n1_ n2_ n3_ n4_; (try clear hb); (try clear hb2); (try clear hk); (try clear hi); (try clear A18)) | (go_at_call 16; (refine (batch_May.calls _ _ ([] : List (S34)) false _ ?side1 ?side2 A20.out).mono ?_); (case side1 => exact Kd.C_nil _ _); (case side2 => exact Nat.le_refl _); rintro e w34 ⟨rfl, hb⟩; have n0_ := Aside0.mk (Kd.R_below (by (with_reducible repeat (first | apply Kd.R_alloc | apply Kd.R_drewN | apply Kd.R_drew)); exact HO125.out) hb); have n1_ := Aside0.mk (Kd.R_below (by (with_reducible repeat (first | apply Kd.R_alloc | apply Kd.R_drewN | apply Kd.R_drew)); exact HO132.out) hb); have n2_ := Aside0.mk (Kd.R_below (by (with_reducible repeat (first | apply Kd.R_alloc | apply Kd.R_drewN | apply Kd.R_drew)); exact HO137.out) hb); have n3_ := Aside0.mk (Kd.R_below (by (with_reducible repeat (first | apply Kd.R_alloc | apply Kd.R_drewN | apply Kd.R_drew)); exact HO142.out) hb); have n4_ := Aside0.mk (below_step (by repeat (first | (with_reducible first | exact HB.out | apply below_alloc | apply pw_below_drewN | apply below_drew1) | exact HB.out)) hb); clear HO125; clear HO132; clear HO137; clear HO142; clear HB; have HO125 := n0_; have HO132 := n1_; have HO137 := n2_; have HO142 := n3_; have HB := n4_; clear n0_ n1_ n2_ n3_ n4_; (try clear hb); (try clear hb2); (try clear hk); (try clear hi); (try clear A20)) | (go_at_call 18; (with_reducible refine (batch_Size.calls k _ _ y123 t147 _ ?side1 ?side2 A22.out).mono ?_); (case side1 => repeat (first | exact (Kd.R_reads' HO125.out).2.2 | (with_reducible refine Kd.C_alloc ?_ _) | (with_reducible refine Kd.C_drewN ?_ _) | (with_reducible refine Kd.C_drew ?_))); (case side2 => exact (Kd.R_reads' HO125.out).2.1); rintro e w35 ⟨rfl, hb⟩; have n0_ := Aside0.mk (Kd.R_below (by (with_reducible repeat (first | apply Kd.R_alloc | apply Kd.R_drewN | apply Kd.R_drew)); exact HO125.out) hb); have n1_ := Aside0.mk (Kd.R_below (by (with_reducible repeat (first | apply Kd.R_alloc | apply Kd.R_drewN | apply Kd.R_drew)); exact HO132.out) hb); have n2_ := Aside0.mk (Kd.R_below (by (with_reducible repeat (first | apply Kd.R_alloc | apply Kd.R_drewN | apply Kd.R_drew)); exact HO137.out) hb); have n3_ := Aside0.mk (Kd.R_below (by (with_reducible repeat (first | apply Kd.R_alloc | apply Kd.R_drewN | apply Kd.R_drew)); exact HO142.out) hb); have n4_ := Aside0.mk (below_step (by repeat (first | (with_reducible first | exact HB.out | apply below_alloc | apply pw_below_drewN | apply below_drew1) | exact HB.out)) hb); clear HO125; clear HO132; clear HO137; clear HO142; clear HB; have HO125 := n0_; have HO132 := n1_; have HO137 := n2_; have HO142 := n3_; have HB := n4_; clear n0_ n1_ n2_ n3_ n4_; (try clear hb); (try clear hb2); (try clear hk); (try clear hi); (try clear A22)))
                            all_goals (try (exfalso; have y_ := c17b0; simp only [Bool.and_eq_true, beq_iff_eq] at y_; exact absurd y_ (by assumption)))
                            go_ret
                            exact ⟨by first | rfl | (simp [errW_none, errW_some] <;> rfl) | (simp (disch := omega) only [← i64_w, IntWalk.i64_in]; rfl) | (simp [*, errW_none, errW_some] <;> rfl), by repeat (first | (with_reducible first | exact HB.out | apply below_alloc | apply pw_below_drewN | apply below_drew1) | exact HB.out)⟩
                        · replace c19 := Bool.eq_false_iff.mpr c19
                          subst c19
                          have H1 : (none) = some r := by rw [if_neg (show ¬ (false = true) by decide)] at H; exact H
                          clear H
                          have H := H1
                          clear H1
                          exact absurd H (by simp)
                      · rw [if_neg c17] at H
                        exact absurd H (by simp)
                    · rw [if_neg c16] at H
                      exact absurd H (by simp)
                  · rw [if_neg c15] at H
                    exact absurd H (by simp)
                · rw [if_neg c14] at H
                  exact absurd H (by simp)
              · rw [if_neg c13] at H
                exact absurd H (by simp)
            · rw [if_neg c12] at H
              exact absurd H (by simp)
          · replace c11 := Bool.eq_false_iff.mpr c11
            subst c11
            have H1 : (none) = some r := by rw [if_neg (show ¬ (false = true) by decide)] at H; exact H
            clear H
            have H := H1
            clear H1
            exact absurd H (by simp)
        · rw [if_neg c9] at H
          exact absurd H (by simp)
      · rw [if_neg c8] at H
        exact absurd H (by simp)
    · rw [if_neg c7] at H
      exact absurd H (by simp)
  · rw [if_neg c3] at H
    exact absurd H (by simp)

end Go.Proofs.Ytfgelbkhjiajfaa.P
