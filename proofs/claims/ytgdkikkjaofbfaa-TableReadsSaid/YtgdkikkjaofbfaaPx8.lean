-- Printed by a program of this session's own (wip/tools/pprint.sh, over the kit's print, with given contracts): not typed by hand.
import Derived.Test.YtgdkikkjaofbfaaPx0
import Derived.Test.YtgdkikkjaofbfaaPx4
import Derived.Test.YtgdkikkjaofbfaaPx7
namespace Go.Proofs.Ytgdkikkjaofbfaa.P
open Go.RowKit Go.Proofs.YtgdkikkjaofbfaaW.PrintWords Go.Proofs.YtgdkikkjaofbfaaW.PrintLast Go.Proofs.YtgdkikkjaofbfaaW.PrintMore
attribute [local go_sem] max2_int min2_int max_two min_two max_three min_three max_four min_four   -- for this text's walks alone
set_option linter.unusedVariables false
set_option linter.unusedSimpArgs false
-- SQUEEZED4
-- SQUEEZED3

/-! ### qe: function 70 -/
-- needs 55 71 67
def qe.number (k : Nat) (s : ByteArray) (b : Bool) : Option (Int × ByteArray × Bool) := (qV.f k s).bind fun t => some (t.1, t.2.1, b || !t.2.2)
def qe.text (s : ByteArray) (b : Bool) (n : Int) : Option (ByteArray × ByteArray × Bool) := if b = true then some ((⟨#[]⟩ : ByteArray), s, true) else (if n > IntKind.u64.wrap (s.size : Int) then some ((⟨#[]⟩ : ByteArray), s, true) else (if 0 ≤ n then (if n ≤ (s.size : Int) then some (s.extract 0 n.toNat, s.extract n.toNat s.size, false) else none) else none))
/-- The reader's block: what is left, whether something is wrong, the last key. -/
def qe.RS (w : World) (g : Nat) (s : ByteArray) (b : Bool) (last : ByteArray) : Prop := w.heap[g]? = some (.cells #[.string s, .bool b, .string last] 128 (0, 0))
structure qe.Mv (g : Nat) (w w' : World) : Prop where
 size : w.heap.size ≤ w'.heap.size
 keep : ∀ k, k < w.heap.size → k ≠ g → w'.heap[k]? = w.heap[k]?
 bel : ∀ B, B ≤ g → B ≤ w.heap.size → Below B w w'
theorem qe.Mv.refl (g : Nat) (w : World) : qe.Mv g w w := ⟨Nat.le_refl _, fun _ _ _ => rfl, fun B _ _ => Below.refl B w⟩
theorem qe.Mv.trans {g : Nat} {w w1 w2 : World} (h : qe.Mv g w w1) (h2 : qe.Mv g w1 w2) : qe.Mv g w w2 :=
 ⟨Nat.le_trans h.size h2.size, fun k hk hp => (h2.keep k (Nat.lt_of_lt_of_le hk h.size) hp).trans (h.keep k hk hp), fun B hp hB => (h.bel B hp hB).trans (h2.bel B hp (Nat.le_trans hB h.size))⟩
theorem qe.Mv.below {g : Nat} {w w1 : World} (h : Below w.heap.size w w1) : qe.Mv g w w1 := ⟨h.size, fun k hk _ => h.block k hk, fun B _ hB => h.mono hB⟩
theorem qe.Mv.set (g i : Nat) (w : World) (v : Value) : qe.Mv g w (w.setCell ⟨g, i, none⟩ v) :=
 ⟨by rw [World.size_setCell]; exact Nat.le_refl _, fun k _ hp => Below.heap_setCell w ⟨g, i, none⟩ v k hp, fun B hp _ => (Below.refl B w).setCell (p := ⟨g, i, none⟩) hp v⟩
/-- A store to a block that the first world lacks. -/
theorem qe.Mv.new {g i r : Nat} {w w1 : World} (h : qe.Mv g w w1) (hr : w.heap.size ≤ r) (v : Value) : qe.Mv g w (w1.setCell ⟨r, i, none⟩ v) :=
 ⟨by rw [World.size_setCell]; exact h.size, fun k hk hp => (Below.heap_setCell w1 ⟨r, i, none⟩ v k (fun e => by have e2 : k = r := e; omega)).trans (h.keep k hk hp), fun B hp hB => (h.bel B hp hB).setCell (p := ⟨r, i, none⟩) (Nat.le_trans hB hr) v⟩
theorem qe.Mv.blk {g r : Nat} {w w' : World} {o : Obj} (h : qe.Mv g w w') (hb : w.heap[r]? = some o) (hp : r ≠ g) : w'.heap[r]? = some o := (h.keep r (blk_lt hb) hp).trans hb
theorem qe.RS.s0 {w : World} {g : Nat} {s s' : ByteArray} {b : Bool} {l : ByteArray} (h : qe.RS w g s b l) : qe.RS (w.setCell ⟨g, 0, none⟩ (.string s')) g s' b l := blk_put (cs' := #[.string s', .bool b, .string l]) h 0 (.string s') rfl
theorem qe.RS.s1 {w : World} {g : Nat} {s : ByteArray} {b b' : Bool} {l : ByteArray} (h : qe.RS w g s b l) : qe.RS (w.setCell ⟨g, 1, none⟩ (.bool b')) g s b' l := blk_put (cs' := #[.string s, .bool b', .string l]) h 1 (.bool b') rfl
theorem qe.RS.s2 {w : World} {g : Nat} {s : ByteArray} {b : Bool} {l l' : ByteArray} (h : qe.RS w g s b l) : qe.RS (w.setCell ⟨g, 2, none⟩ (.string l')) g s b l' := blk_put (cs' := #[.string s, .bool b, .string l']) h 2 (.string l') rfl
theorem qe.results_c {P : Program} {fn : Func} {p : Tmp} {ty : TypeId} (h : fn.results = #[.cell p ty]) (tmps : Array Value) (w : World) (g : Nat) (t : TypeId) (cs : Array Value) (fr : Nat × Nat) (d : TypeDesc)
  (hp : tmps.getD p undef = .pointer (some ⟨g, 0, none⟩)) (hg : w.heap[g]? = some (.cells cs t fr))
  (hu : P.underlying ty = some d) (hd : (match d with | .struct _ | .array _ _ => true | _ => false) = true) (hi : (P.info? ty).map (·.size) = some cs.size) :
  (results fn tmps).run P w = .ok (.agg cs) w := by
 have hp' : tmps[p]?.getD undef = .pointer (some ⟨g, 0, none⟩) := by simpa using hp
 simp [results, h, hp', asAddr, run_loadVar_row w g t ty cs fr d hg hu hd hi]
theorem qe.st_ {P : Program} {ops : Array Oper} {o : Oper} {a : Act} {W w1 : World} {K : Act → World → Prop} {Q : Exit → Act → World → Prop} (hw : Region.wanted o (yielded ops a.tmps) = true) (hrun : (execOp a.eval o).run P W = .ok .skip w1) (h : K (a.put o.dst undef) w1) : if Region.wanted o (yielded ops a.tmps) = true then Oper.wp P o a W K Q else K (a.put o.dst undef) W := by
 rw [if_pos hw]
 unfold Oper.wp
 rw [hrun]
 exact h
set_option maxHeartbeats 1600000 in
set_option maxRecDepth 100000 in
theorem qe.numC (k : Nat) (g : Nat) (s s' l : ByteArray) (b b' : Bool) (n : Int) (w : World) (hs : qe.RS w g s b l) (h : qe.number k s b = some (n, s', b')) :
  Calls Try.prog 89 #[.pointer (some ⟨g, 0, none⟩)] w fun e w' => e = .returned (.int .u64 n) ∧ qe.RS w' g s' b' l ∧ qe.Mv g w w' := by
 unfold qe.number at h
 replace h := bs_ h
 obtain ⟨⟨n1, s1, b1⟩, hn, h⟩ := h
 simp only [Option.some.injEq, Prod.mk.injEq] at h
 obtain ⟨rfl, rfl, rfl⟩ := h
 have HN := Lib.hid hn
 have HS := Aside0.mk hs
 clear hn hs
 have c_ : w.cell? ⟨g, 0, none⟩ = some (.string s) := (blk_cell HS.out 0).trans rfl
 go_enter Try.func89, Try.ntmps89
 go_wp2_with (fail)
 clear c_
 refine (qV.calls k s n1 s1 b1 _ HN.out).mono ?_
 rintro e w1 ⟨rfl, ⟨nd, rfl⟩⟩
 have HS1 : Aside0 (qe.RS (w.drewN nd) g s b l) := ⟨HS.out⟩
 have HM1 : Aside0 (qe.Mv g w (w.drewN nd)) := ⟨qe.Mv.below (pw_below_drewN (Below.refl _ _) nd)⟩
 clear HS
 generalize w.drewN nd = w1 at HS1 HM1 ⊢
 have c1_ : w1.cell? ⟨g, 1, none⟩ = some (.bool b) := (blk_cell HS1.out 1).trans rfl
 have f1_ := blk_frozen HS1.out 1
 have f2_ := blk_frozen (HS1.out.s1 (b' := b || !b1)) 0
 have c2_ : (w1.setCell ⟨g, 1, none⟩ (.bool (b || !b1))).cell? ⟨g, 0, none⟩ = some (.string s) := (blk_cell (HS1.out.s1 (b' := b || !b1)) 0).trans rfl
 have HF := Aside0.mk ((HS1.out.s1 (b' := b || !b1)).s0 (s' := s1))
 have HMF := Aside0.mk (HM1.out.trans ((qe.Mv.set g 1 w1 (.bool (b || !b1))).trans (qe.Mv.set g 0 _ (.string s1))))
 clear HS1 HM1
 cases b with
 | true =>
  rw [Bool.true_or] at HF HMF f2_ c2_
  go_wp2
  go_ret
  exact ⟨rfl, HF.out, HMF.out⟩
 | false =>
  rw [Bool.false_or] at HF HMF f2_ c2_
  go_wp2
  go_ret
  exact ⟨rfl, HF.out, HMF.out⟩
set_option maxHeartbeats 1600000 in
set_option maxRecDepth 100000 in
theorem qe.texC (g : Nat) (s s' l r : ByteArray) (b b' : Bool) (n : Int) (w : World) (hs : qe.RS w g s b l) (h : qe.text s b n = some (r, s', b')) :
  Calls Try.prog 90 #[.pointer (some ⟨g, 0, none⟩), .int .u64 n] w fun e w' => e = .returned (.string r) ∧ qe.RS w' g s' b' l ∧ qe.Mv g w w' := by
 unfold qe.text at h
 have HS := Aside0.mk hs
 have HH := Lib.hid h
 clear h hs
 have c1_ : w.cell? ⟨g, 1, none⟩ = some (.bool b) := (blk_cell HS.out 1).trans rfl
 have c2_ : w.cell? ⟨g, 0, none⟩ = some (.string s) := (blk_cell HS.out 0).trans rfl
 have f1_ := blk_frozen HS.out 1
 have f2_ := blk_frozen HS.out 0
 have bad : (some ((⟨#[]⟩ : ByteArray), s, true) : Option (ByteArray × ByteArray × Bool)) = some (r, s', b') → Hid (r = ⟨#[]⟩ ∧ s' = s ∧ b' = true) := fun e => by
  simp only [Option.some.injEq, Prod.mk.injEq] at e
  exact Lib.hid ⟨e.1.symm, e.2.1.symm, e.2.2.symm⟩
 have hh := HH.out
 clear HH
 cases b with
 | true =>
  rw [if_pos rfl] at hh
  obtain ⟨rfl, rfl, rfl⟩ := (bad hh).out
  clear bad hh
  have HF := Aside0.mk (HS.out.s1 (b' := true))
  have HMF := Aside0.mk (qe.Mv.set g 1 w (.bool true))
  clear HS
  go_enter Try.func90, Try.ntmps90
  go_wp2
  go_ret
  exact ⟨rfl, HF.out, HMF.out⟩
 | false =>
  rw [if_neg r24_] at hh
  by_cases hc : n > IntKind.u64.wrap (s.size : Int)
  ·rw [if_pos hc] at hh
   have hcb : decide (IntKind.u64.wrap (s.size : Int) < n) = true := decide_eq_true hc
   clear hc
   obtain ⟨rfl, rfl, rfl⟩ := (bad hh).out
   clear bad hh
   have HF := Aside0.mk (HS.out.s1 (b' := true))
   have HMF := Aside0.mk (qe.Mv.set g 1 w (.bool true))
   clear HS
   go_enter Try.func90, Try.ntmps90
   go_wp2
   go_ret
   exact ⟨rfl, HF.out, HMF.out⟩
  rw [if_neg hc] at hh
  have hcb : decide (IntKind.u64.wrap (s.size : Int) < n) = false := decide_eq_false hc
  clear hc bad
  by_cases h0 : 0 ≤ n
  case neg => rw [if_neg h0] at hh; exact absurd hh r17_
  rw [if_pos h0] at hh
  by_cases h1 : n ≤ (s.size : Int)
  case neg => rw [if_neg h1] at hh; exact absurd hh r17_
  rw [if_pos h1] at hh
  simp only [Option.some.injEq, Prod.mk.injEq] at hh
  obtain ⟨rfl, rfl, rfl⟩ := hh
  have HF := Aside0.mk (HS.out.s0 (s' := s.extract n.toNat s.size))
  have HMF := Aside0.mk (qe.Mv.set g 0 w (.string (s.extract n.toNat s.size)))
  clear HS
  go_enter Try.func90, Try.ntmps90
  go_wp2
  go_ret
  exact ⟨rfl, HF.out, HMF.out⟩
/-- An entry that is read: the state behind it. -/
def qe.next (k : Nat) (s : ByteArray) (b : Bool) (last : ByteArray) : Option (S37 × ByteArray × Bool × ByteArray) :=
 (qe.number k s b).bind fun a => if a.1 > IntKind.u64.wrap (last.size : Int) then some (⟨⟨#[]⟩, 0, false, ⟨#[]⟩⟩, a.2.1, true, last) else
  (if 0 ≤ a.1 then (if a.1 ≤ (last.size : Int) then (qe.number k a.2.1 a.2.2).bind fun c => (qe.text c.2.1 c.2.2 c.1).bind fun d => (if (last.extract 0 a.1.toNat).size + d.1.size ≤ 9223372036854775807 then
   (qe.number k d.2.1 d.2.2).bind fun q => (qe.number k q.2.1 q.2.2).bind fun kd => (qe.number k kd.2.1 kd.2.2).bind fun u => (qe.text u.2.1 u.2.2 u.1).bind fun v =>
    some (⟨last.extract 0 a.1.toNat ++ d.1, q.1, kd.1 == 1, v.1⟩, v.2.1, v.2.2 || decide (kd.1 > 1), last.extract 0 a.1.toNat ++ d.1) else none) else none) else none)
set_option maxHeartbeats 6400000 in
set_option maxRecDepth 100000 in
theorem qe.nexC (k : Nat) (g : Nat) (s s' l l' : ByteArray) (b b' : Bool) (x : S37) (w : World) (hs : qe.RS w g s b l) (h : qe.next k s b l = some (x, s', b', l')) :
  Calls Try.prog 76 #[.pointer (some ⟨g, 0, none⟩)] w fun e w' => e = .returned (.agg #[.string x.f0, .int .u64 x.f1, .bool x.f2, .string x.f3]) ∧ qe.RS w' g s' b' l' ∧ qe.Mv g w w' := by
 have hu_ := Try.underlying37
 unfold qe.next at h
 replace h := bs_ h
 obtain ⟨⟨n1, s1, b1⟩, hn1, h⟩ := h
 dsimp only at h
 have HN1 := Lib.hid hn1
 have HH := Lib.hid h
 have HS0 := Aside0.mk (hs)
 clear hn1 h hs
 go_enter Try.func76, Try.ntmps76
 go_wp2_with (fail)
 -- the result's block
 have hgw : Hid (g < w.heap.size) := Lib.hid (blk_lt HS0.out)
 have BR : Aside0 ((w.alloc (.cells #[.string ⟨#[]⟩, .int .u64 0, .bool false, .string ⟨#[]⟩] 37)).heap[w.heap.size]? = some (.cells #[.string ⟨#[]⟩, .int .u64 0, .bool false, .string ⟨#[]⟩] 37 (0, 0))) := ⟨blk_new _ _⟩
 have HS1 : Aside0 (qe.RS (w.alloc (.cells #[.string ⟨#[]⟩, .int .u64 0, .bool false, .string ⟨#[]⟩] 37)) g s b l) := ⟨blk_alloc HS0.out _⟩
 have HM1 : Aside0 (qe.Mv g w (w.alloc (.cells #[.string ⟨#[]⟩, .int .u64 0, .bool false, .string ⟨#[]⟩] 37))) := ⟨qe.Mv.below (below_alloc (Below.refl _ _) _)⟩
 clear HS0
 generalize (w.alloc (.cells #[.string ⟨#[]⟩, .int .u64 0, .bool false, .string ⟨#[]⟩] 37)) = x1 at BR HS1 HM1 ⊢
 obtain ⟨rr, hrr⟩ : ∃ r, w.heap.size = r := ⟨_, rfl⟩
 have HRR : Hid (w.heap.size ≤ rr ∧ rr ≠ g) := Lib.hid ⟨r18_, by have := hgw.out; omega⟩
 rw [hrr] at BR ⊢
 clear hrr hgw
 refine (qe.numC k g s s1 l b b1 n1 _ HS1.out HN1.out).mono ?_
 rintro e x2 ⟨rfl, hs, hm⟩
 have HS2 := Aside0.mk hs
 have HM2 := Aside0.mk (HM1.out.trans hm)
 have BR2 := Aside0.mk (hm.blk BR.out HRR.out.2)
 clear hs hm HS1 HM1 BR
 have c_ : x2.cell? ⟨g, 2, none⟩ = some (.string l) := (blk_cell HS2.out 2).trans rfl
 have hh := HH.out
 clear HH
 by_cases hc : n1 > IntKind.u64.wrap (l.size : Int)
 ·rw [if_pos hc] at hh
  simp only [Option.some.injEq, Prod.mk.injEq] at hh
  obtain ⟨rfl, rfl, rfl, rfl⟩ := hh
  have hcb : decide (IntKind.u64.wrap (l.size : Int) < n1) = true := decide_eq_true hc
  clear hc
  have c1_ : x2.cell? ⟨g, 1, none⟩ = some (.bool b1) := (blk_cell HS2.out 1).trans rfl
  have f1_ := blk_frozen HS2.out 1
  go_upto_region 4 with (fail)
  clear c_ c1_ f1_ hcb
  have HS3 := Aside0.mk (HS2.out.s1 (b' := true))
  have HM3 := Aside0.mk (HM2.out.trans (qe.Mv.set g 1 x2 (.bool true)))
  have BR3 := Aside0.mk (blk_far (p := ⟨g, 1, none⟩) BR2.out HRR.out.2 (.bool true))
  clear HS2 HM2 BR2
  generalize (x2.setCell ⟨g, 1, none⟩ (.bool true)) = x3 at HS3 HM3 BR3 ⊢
  have k0_ : x3.cell? ⟨rr, 0, none⟩ = some (.string ⟨#[]⟩) := (blk_cell BR3.out 0).trans rfl
  have k1_ : x3.cell? ⟨rr, 1, none⟩ = some (.int .u64 0) := (blk_cell BR3.out 1).trans rfl
  have k2_ : x3.cell? ⟨rr, 2, none⟩ = some (.bool false) := (blk_cell BR3.out 2).trans rfl
  have k3_ : x3.cell? ⟨rr, 3, none⟩ = some (.string ⟨#[]⟩) := (blk_cell BR3.out 3).trans rfl
  have p0_ := blk_frozen BR3.out 0
  have p1_ := blk_frozen BR3.out 1
  have p2_ := blk_frozen BR3.out 2
  have p3_ := blk_frozen BR3.out 3
  go_wp2
  clear k0_ k1_ k2_ k3_ p0_ p1_ p2_ p3_
  exact bodyPost_ret (qe.results_c rfl _ _ rr 37 #[.string ⟨#[]⟩, .int .u64 0, .bool false, .string ⟨#[]⟩] (0, 0) _ rfl (blk_put (cs' := #[.string ⟨#[]⟩, .int .u64 0, .bool false, .string ⟨#[]⟩]) (blk_put (cs' := #[.string ⟨#[]⟩, .int .u64 0, .bool false, .string ⟨#[]⟩]) (blk_put (cs' := #[.string ⟨#[]⟩, .int .u64 0, .bool false, .string ⟨#[]⟩]) (blk_put (cs' := #[.string ⟨#[]⟩, .int .u64 0, .bool false, .string ⟨#[]⟩]) BR3.out 0 _ rfl) 1 _ rfl) 2 _ rfl) 3 _ rfl) Try.underlying37 rfl r2_) rfl ⟨rfl, blk_far (p := ⟨rr, 3, none⟩) (blk_far (p := ⟨rr, 2, none⟩) (blk_far (p := ⟨rr, 1, none⟩) (blk_far (p := ⟨rr, 0, none⟩) HS3.out (Ne.symm HRR.out.2) _) (Ne.symm HRR.out.2) _) (Ne.symm HRR.out.2) _) (Ne.symm HRR.out.2) _, (((HM3.out.new HRR.out.1 _).new HRR.out.1 _).new HRR.out.1 _).new HRR.out.1 _⟩
 rw [if_neg hc] at hh
 have hcb : decide (IntKind.u64.wrap (l.size : Int) < n1) = false := decide_eq_false hc
 clear hc
 by_cases h0 : 0 ≤ n1
 case neg => rw [if_neg h0] at hh; exact absurd hh r17_
 rw [if_pos h0] at hh
 by_cases h1 : n1 ≤ (l.size : Int)
 case neg => rw [if_neg h1] at hh; exact absurd hh r17_
 rw [if_pos h1] at hh
 replace hh := bs_ hh
 obtain ⟨⟨n2, s2, b2⟩, hn2, hh⟩ := hh
 dsimp only at hh
 replace hh := bs_ hh
 obtain ⟨⟨t, s3, b3⟩, ht2, hh⟩ := hh
 dsimp only at hh
 by_cases hsz : (l.extract 0 n1.toNat).size + t.size ≤ 9223372036854775807
 case neg => rw [if_neg hsz] at hh; exact absurd hh r17_
 rw [if_pos hsz] at hh
 replace hh := bs_ hh
 obtain ⟨⟨n4, s4, b4⟩, hn4, hh⟩ := hh
 dsimp only at hh
 replace hh := bs_ hh
 obtain ⟨⟨n5, s5, b5⟩, hn5, hh⟩ := hh
 dsimp only at hh
 replace hh := bs_ hh
 obtain ⟨⟨n6, s6, b6⟩, hn6, hh⟩ := hh
 dsimp only at hh
 replace hh := bs_ hh
 obtain ⟨⟨v, s7, b7⟩, ht7, hh⟩ := hh
 dsimp only at hh
 simp only [Option.some.injEq, Prod.mk.injEq] at hh
 obtain ⟨rfl, rfl, rfl, rfl⟩ := hh
 have HN2 := Lib.hid hn2
 have HT2 := Lib.hid ht2
 have HN4 := Lib.hid hn4
 have HN5 := Lib.hid hn5
 have HN6 := Lib.hid hn6
 have HT7 := Lib.hid ht7
 have HSZ := Lib.hid hsz
 clear hn2 ht2 hn4 hn5 hn6 ht7 hsz
 go_wp2
 clear hcb c_
 have e0_ : (0 ≤ n1) = True := eq_true h0
 have e1_ : (n1 ≤ (l.size : Int)) = True := eq_true h1
 have z0_ : (9223372036854775807 < (l.extract 0 n1.toNat).size + t.size) = False := eq_false (Nat.not_lt.2 HSZ.out)
 have z1_ : (9223372036854775807 < n1.toNat + t.size) = False := eq_false (by have z_ := HSZ.out; rw [ByteArray.size_extract] at z_; omega)
 refine start_ (n := 18) (S := fun w' => w'.cell? ⟨g, 2, none⟩ = some (.string l)) (ds := []) #[N,N,N,N,N,N,N,N,N,N,N,N,N,N,N,N,N,N] r2_ rfl rfl ((blk_cell HS2.out 2).trans rfl) (fun hHeld => ?_)
 have HS3 : Aside0 (qe.RS x2.drew g s1 b1 l) := ⟨HS2.out⟩
 have HM3 : Aside0 (qe.Mv g w x2.drew) := ⟨HM2.out.trans (qe.Mv.below (below_drew (Below.refl _ _)))⟩
 have BR3 : Aside0 (x2.drew.heap[rr]? = some (.cells #[.string ⟨#[]⟩, .int .u64 0, .bool false, .string ⟨#[]⟩] 37 (0, 0))) := BR2
 clear HS2 HM2 BR2
 generalize x2.drew = x3 at HS3 HM3 BR3 hHeld ⊢
 refine pu_ 0 (some 23) (mk_ 18 1) r2_ ?_
 refine pu_ 1 (some 24) (mk_ 18 3) r2_ ?_
 refine pu_ 2 (some 25) (mk_ 18 7) r2_ ?_
 refine tk_ (v := ?_) 3 (some 26) (mk_ 18 15) r2_ hHeld ?_ ?_
 rotate_left
 ·intro w' s0
  go_simp
  with_reducible rfl
 refine pu_ 4 (some 27) (mk_ 18 31) r2_ ?_
 refine pu_ 5 (some 28) (mk_ 18 63) r2_ ?_
 refine pu_ 6 (some 29) (mk_ 18 127) r2_ ?_
 refine pu_ 7 (some 30) (mk_ 18 255) r2_ ?_
 refine pu_ 8 (some 31) (mk_ 18 511) r2_ ?_
 refine pu_ 9 (some 32) (mk_ 18 1023) r2_ ?_
 refine pu_ 10 (some 33) (mk_ 18 2047) r2_ ?_
 refine pu_ 11 (some 34) (mk_ 18 4095) r2_ ?_
 refine join_ (σ := Nat) 1 (mk_ 18 131071) (fun gx => [(35, .int .u64 n2), (36, .string t), (4, .pointer (some ⟨gx, 0, none⟩)), (37, .string (l.extract 0 n1.toNat ++ t)), (38, .agg #[.string (l.extract 0 n1.toNat ++ t), .int .u64 0, .bool false, .string ⟨#[]⟩])]) (fun gx w' => w'.cell? ⟨g, 2, none⟩ = some (.string l) ∧ Aside0 (qe.RS w' g s3 b3 l) ∧ Aside0 (qe.Mv g w w') ∧ Aside0 (w'.heap[rr]? = some (.cells #[.string ⟨#[]⟩, .int .u64 0, .bool false, .string ⟨#[]⟩] 37 (0, 0))) ∧ Aside0 (w'.heap[gx]? = some (.cells #[.string ⟨#[]⟩, .int .u64 0, .bool false, .string ⟨#[]⟩] 37 (0, 0))) ∧ Hid (w.heap.size ≤ gx ∧ gx ≠ g ∧ gx ≠ rr)) ?_ ?_
 rotate_left
 ·intro hJ
  refine two_ (i := 12) (j := 16) (Ni := some 35) (Nj := some 4) (mk_ 18 8191) (mk_ 18 69631) rfl rfl rfl rfl r2_ r24_ r24_ (fun K hK => ?_) (fun K hK => ?_)
  ·skip
   refine goes_ Try.func89 r2_ rfl #[.pointer (some ⟨g, 0, none⟩)] r37_ rfl rfl r9_ ?_
   refine (qe.numC k g s1 s2 l b1 b2 n2 _ HS3.out HN2.out).mono ?_
   rintro e w' ⟨rfl, hs, hm⟩
   refine ⟨_, rfl, ?_⟩
   have HS4 := Aside0.mk hs
   have HM4 := Aside0.mk (HM3.out.trans hm)
   have BR4 := Aside0.mk (hm.blk BR3.out HRR.out.2)
   clear hs hm HS3 HM3 BR3 
   refine hK.out _ _ ((blk_cell HS4.out 2).trans rfl) (fun hHeld => ?_)
   clear hK K
   refine nm_ (some 35) ?_
   refine two_ (i := 13) (j := 16) (Ni := some 36) (Nj := some 4) (mk_ 18 16383) (mk_ 18 73727) rfl rfl rfl rfl r2_ r24_ r24_ (fun K hK => ?_) (fun K hK => ?_)
   ·skip
    refine goes_ Try.func90 r2_ rfl #[.pointer (some ⟨g, 0, none⟩), .int .u64 n2] r37_ rfl rfl r9_ ?_
    refine (qe.texC g s2 s3 l t b2 b3 n2 _ HS4.out HT2.out).mono ?_
    rintro e w' ⟨rfl, hs, hm⟩
    refine ⟨_, rfl, ?_⟩
    have HS5 := Aside0.mk hs
    have HM5 := Aside0.mk (HM4.out.trans hm)
    have BR5 := Aside0.mk (hm.blk BR4.out HRR.out.2)
    clear hs hm HS4 HM4 BR4 
    refine hK.out _ _ ((blk_cell HS5.out 2).trans rfl) (fun hHeld => ?_)
    clear hK K
    refine nm_ (some 36) ?_
    refine pu_ 14 (some 37) (mk_ 18 32767) r2_ ?_
    refine pu_ 15 (some 38) (mk_ 18 65535) r2_ ?_
    refine one_ (i := 16) (N := some 4) (mk_ 18 131071) rfl rfl r2_ r24_ (fun K hK => ?_)
    refine box_step r37_ (N := 4) rfl (cs := #[.string ⟨#[]⟩, .int .u64 0, .bool false, .string ⟨#[]⟩]) (t := 37) r25_ ?_
    intro gx hgx w' BX6_ hb
    have HS6 : Aside0 (qe.RS w' g _ _ l) := ⟨blk_below HS5.out hb⟩
    have HM6 := Aside0.mk (HM5.out.trans (qe.Mv.below hb))
    have BR6 := Aside0.mk (blk_below BR5.out hb)
    have BX6 := Aside0.mk BX6_
    have HGX : Hid (w.heap.size ≤ gx ∧ gx ≠ g ∧ gx ≠ rr) := Lib.hid ⟨by have := HM5.out.size; omega, by have := blk_lt HS5.out; omega, by have := blk_lt BR5.out; omega⟩
    clear hb BX6_ HS5 HM5 BR5 hgx
    refine hK.out _ _ ((blk_cell HS6.out 2).trans rfl) (fun hHeld => ?_)
    clear hK K
    refine nm_ (some 4) ?_
    exact norm_ pA_ (hJ gx _ ⟨hHeld, HS6, HM6, BR6, BX6, HGX⟩)
   ·skip
    refine box_step r37_ (N := 4) rfl (cs := #[.string ⟨#[]⟩, .int .u64 0, .bool false, .string ⟨#[]⟩]) (t := 37) r25_ ?_
    intro gx hgx w' BX5_ hb
    have HS5 : Aside0 (qe.RS w' g _ _ l) := ⟨blk_below HS4.out hb⟩
    have HM5 := Aside0.mk (HM4.out.trans (qe.Mv.below hb))
    have BR5 := Aside0.mk (blk_below BR4.out hb)
    have BX5 := Aside0.mk BX5_
    have HGX : Hid (w.heap.size ≤ gx ∧ gx ≠ g ∧ gx ≠ rr) := Lib.hid ⟨by have := HM4.out.size; omega, by have := blk_lt HS4.out; omega, by have := blk_lt BR4.out; omega⟩
    clear hb BX5_ HS4 HM4 BR4 hgx
    refine hK.out _ _ ((blk_cell HS5.out 2).trans rfl) (fun hHeld => ?_)
    clear hK K
    refine nm_ (some 4) ?_
    refine one_ (i := 13) (N := some 36) (mk_ 18 81919) rfl rfl r2_ r24_ (fun K hK => ?_)
    refine goes_ Try.func90 r2_ rfl #[.pointer (some ⟨g, 0, none⟩), .int .u64 n2] r37_ rfl rfl r9_ ?_
    refine (qe.texC g s2 s3 l t b2 b3 n2 _ HS5.out HT2.out).mono ?_
    rintro e w' ⟨rfl, hs, hm⟩
    refine ⟨_, rfl, ?_⟩
    have HS6 := Aside0.mk hs
    have HM6 := Aside0.mk (HM5.out.trans hm)
    have BR6 := Aside0.mk (hm.blk BR5.out HRR.out.2)
    have BX6 := Aside0.mk (hm.blk BX5.out HGX.out.2.1)
    clear hs hm HS5 HM5 BR5 BX5
    refine hK.out _ _ ((blk_cell HS6.out 2).trans rfl) (fun hHeld => ?_)
    clear hK K
    refine nm_ (some 36) ?_
    refine pu_ 14 (some 37) (mk_ 18 98303) r2_ ?_
    refine pu_ 15 (some 38) (mk_ 18 131071) r2_ ?_
    exact norm_ pA_ (hJ gx _ ⟨hHeld, HS6, HM6, BR6, BX6, HGX⟩)
  ·skip
   refine box_step r37_ (N := 4) rfl (cs := #[.string ⟨#[]⟩, .int .u64 0, .bool false, .string ⟨#[]⟩]) (t := 37) r25_ ?_
   intro gx hgx w' BX4_ hb
   have HS4 : Aside0 (qe.RS w' g _ _ l) := ⟨blk_below HS3.out hb⟩
   have HM4 := Aside0.mk (HM3.out.trans (qe.Mv.below hb))
   have BR4 := Aside0.mk (blk_below BR3.out hb)
   have BX4 := Aside0.mk BX4_
   have HGX : Hid (w.heap.size ≤ gx ∧ gx ≠ g ∧ gx ≠ rr) := Lib.hid ⟨by have := HM3.out.size; omega, by have := blk_lt HS3.out; omega, by have := blk_lt BR3.out; omega⟩
   clear hb BX4_ HS3 HM3 BR3 hgx
   refine hK.out _ _ ((blk_cell HS4.out 2).trans rfl) (fun hHeld => ?_)
   clear hK K
   refine nm_ (some 4) ?_
   refine one_ (i := 12) (N := some 35) (mk_ 18 73727) rfl rfl r2_ r24_ (fun K hK => ?_)
   refine goes_ Try.func89 r2_ rfl #[.pointer (some ⟨g, 0, none⟩)] r37_ rfl rfl r9_ ?_
   refine (qe.numC k g s1 s2 l b1 b2 n2 _ HS4.out HN2.out).mono ?_
   rintro e w' ⟨rfl, hs, hm⟩
   refine ⟨_, rfl, ?_⟩
   have HS5 := Aside0.mk hs
   have HM5 := Aside0.mk (HM4.out.trans hm)
   have BR5 := Aside0.mk (hm.blk BR4.out HRR.out.2)
   have BX5 := Aside0.mk (hm.blk BX4.out HGX.out.2.1)
   clear hs hm HS4 HM4 BR4 BX4
   refine hK.out _ _ ((blk_cell HS5.out 2).trans rfl) (fun hHeld => ?_)
   clear hK K
   refine nm_ (some 35) ?_
   refine one_ (i := 13) (N := some 36) (mk_ 18 81919) rfl rfl r2_ r24_ (fun K hK => ?_)
   refine goes_ Try.func90 r2_ rfl #[.pointer (some ⟨g, 0, none⟩), .int .u64 n2] r37_ rfl rfl r9_ ?_
   refine (qe.texC g s2 s3 l t b2 b3 n2 _ HS5.out HT2.out).mono ?_
   rintro e w' ⟨rfl, hs, hm⟩
   refine ⟨_, rfl, ?_⟩
   have HS6 := Aside0.mk hs
   have HM6 := Aside0.mk (HM5.out.trans hm)
   have BR6 := Aside0.mk (hm.blk BR5.out HRR.out.2)
   have BX6 := Aside0.mk (hm.blk BX5.out HGX.out.2.1)
   clear hs hm HS5 HM5 BR5 BX5
   refine hK.out _ _ ((blk_cell HS6.out 2).trans rfl) (fun hHeld => ?_)
   clear hK K
   refine nm_ (some 36) ?_
   refine pu_ 14 (some 37) (mk_ 18 98303) r2_ ?_
   refine pu_ 15 (some 38) (mk_ 18 131071) r2_ ?_
   exact norm_ pA_ (hJ gx _ ⟨hHeld, HS6, HM6, BR6, BX6, HGX⟩)
 ·rintro gx w' ⟨hHeld, HS6, HM6, BR6, BX6, HGX⟩
  generalize hw6 : w' = x6 at hHeld HS6 HM6 BR6 BX6 ⊢
  clear hw6
  have k0_ : x6.cell? ⟨gx, 0, none⟩ = some (.string ⟨#[]⟩) := (blk_cell BX6.out 0).trans rfl
  have k1_ : x6.cell? ⟨gx, 1, none⟩ = some (.int .u64 0) := (blk_cell BX6.out 1).trans rfl
  have k2_ : x6.cell? ⟨gx, 2, none⟩ = some (.bool false) := (blk_cell BX6.out 2).trans rfl
  have k3_ : x6.cell? ⟨gx, 3, none⟩ = some (.string ⟨#[]⟩) := (blk_cell BX6.out 3).trans rfl
  have p0_ := blk_frozen BX6.out 0
  have p1_ := blk_frozen BX6.out 1
  have p2_ := blk_frozen BX6.out 2
  have p3_ := blk_frozen BX6.out 3
  generalize hky : l.extract 0 n1.toNat ++ t = ky
  refine norm_ (a' := ?_) ?_ ?_
  rotate_left
  ·simp only [putAll, Act.put, sp_]
   rfl
  refine one_ (i := 17) (N := none) (mk_ 18 262143) rfl rfl r2_ r24_ (fun K hK => ?_)
  refine qe.st_ r37_ (w1 := (((x6.setCell ⟨gx, 0, none⟩ (.string ky)).setCell ⟨gx, 1, none⟩ (.int .u64 0)).setCell ⟨gx, 2, none⟩ (.bool false)).setCell ⟨gx, 3, none⟩ (.string ⟨#[]⟩)) r25_ ?_
  clear k0_ k1_ k2_ k3_ p0_ p1_ p2_ p3_
  have HS7 : Aside0 (qe.RS ((((x6.setCell ⟨gx, 0, none⟩ (.string ky)).setCell ⟨gx, 1, none⟩ (.int .u64 0)).setCell ⟨gx, 2, none⟩ (.bool false)).setCell ⟨gx, 3, none⟩ (.string ⟨#[]⟩)) g s3 b3 l) := ⟨blk_far (p := ⟨gx, 3, none⟩) (blk_far (p := ⟨gx, 2, none⟩) (blk_far (p := ⟨gx, 1, none⟩) (blk_far (p := ⟨gx, 0, none⟩) HS6.out (Ne.symm HGX.out.2.1) _) (Ne.symm HGX.out.2.1) _) (Ne.symm HGX.out.2.1) _) (Ne.symm HGX.out.2.1) _⟩
  have HM7 := Aside0.mk ((((HM6.out.new (i := 0) HGX.out.1 (.string ky)).new (i := 1) HGX.out.1 (.int .u64 0)).new (i := 2) HGX.out.1 (.bool false)).new (i := 3) HGX.out.1 (.string ⟨#[]⟩))
  have BR7 := Aside0.mk (blk_far (p := ⟨gx, 3, none⟩) (blk_far (p := ⟨gx, 2, none⟩) (blk_far (p := ⟨gx, 1, none⟩) (blk_far (p := ⟨gx, 0, none⟩) BR6.out (Ne.symm HGX.out.2.2) (.string ky)) (Ne.symm HGX.out.2.2) (.int .u64 0)) (Ne.symm HGX.out.2.2) (.bool false)) (Ne.symm HGX.out.2.2) (.string ⟨#[]⟩))
  have BX7 := Aside0.mk (blk_put (cs' := #[.string ky, .int .u64 0, .bool false, .string ⟨#[]⟩]) (blk_put (cs' := #[.string ky, .int .u64 0, .bool false, .string ⟨#[]⟩]) (blk_put (cs' := #[.string ky, .int .u64 0, .bool false, .string ⟨#[]⟩]) (blk_put (cs' := #[.string ky, .int .u64 0, .bool false, .string ⟨#[]⟩]) BX6.out 0 (.string ky) rfl) 1 (.int .u64 0) rfl) 2 (.bool false) rfl) 3 (.string ⟨#[]⟩) rfl)
  clear HS6 HM6 BR6 BX6 hHeld
  refine hK.out _ _ ((blk_cell HS7.out 2).trans rfl) (fun hHeld => ?_)
  clear hK K
  refine nm_ none ?_
  refine done_ r2_ ?_
  (try clear hHeld)
  clear hHeld e0_ e1_ z0_ z1_
  generalize ((((x6.setCell ⟨gx, 0, none⟩ (.string ky)).setCell ⟨gx, 1, none⟩ (.int .u64 0)).setCell ⟨gx, 2, none⟩ (.bool false)).setCell ⟨gx, 3, none⟩ (.string ⟨#[]⟩)) = x7 at HS7 HM7 BR7 BX7 ⊢
  go_wp2_with (fail)
  refine (qe.numC k g s3 s4 l b3 b4 n4 _ HS7.out HN4.out).mono ?_
  rintro e x8 ⟨rfl, hs, hm⟩
  have HS8 := Aside0.mk hs
  have HM8 := Aside0.mk (HM7.out.trans hm)
  have BR8 := Aside0.mk (hm.blk BR7.out HRR.out.2)
  have BX8 := Aside0.mk (hm.blk BX7.out HGX.out.2.1)
  clear hs hm HS7 HM7 BR7 BX7
  have c_ : x8.cell? ⟨gx, 1, none⟩ = some (.int .u64 0) := (blk_cell BX8.out 1).trans rfl
  have f_ := blk_frozen BX8.out 1
  go_upto_region 7 with (fail)
  clear c_ f_
  have HS9 : Aside0 (qe.RS (x8.setCell ⟨gx, 1, none⟩ (.int .u64 n4)) g _ _ l) := ⟨blk_far (p := ⟨gx, 1, none⟩) HS8.out (Ne.symm HGX.out.2.1) _⟩
  have HM9 := Aside0.mk (HM8.out.new (i := 1) HGX.out.1 (.int .u64 n4))
  have BR9 := Aside0.mk (blk_far (p := ⟨gx, 1, none⟩) BR8.out (Ne.symm HGX.out.2.2) (.int .u64 n4))
  have BX9 := Aside0.mk (blk_put (cs' := #[.string ky, .int .u64 n4, .bool false, .string ⟨#[]⟩]) BX8.out 1 (.int .u64 n4) rfl)
  clear HS8 HM8 BR8 BX8
  generalize (x8.setCell ⟨gx, 1, none⟩ (.int .u64 n4)) = x9 at HS9 HM9 BR9 BX9 ⊢
  go_wp2_with (fail)
  refine (qe.numC k g s4 s5 l b4 b5 n5 _ HS9.out HN5.out).mono ?_
  rintro e y1 ⟨rfl, hs, hm⟩
  have HS10 := Aside0.mk hs
  have HM10 := Aside0.mk (HM9.out.trans hm)
  have BR10 := Aside0.mk (hm.blk BR9.out HRR.out.2)
  have BX10 := Aside0.mk (hm.blk BX9.out HGX.out.2.1)
  clear hs hm HS9 HM9 BR9 BX9
  have c_ : y1.cell? ⟨gx, 2, none⟩ = some (.bool false) := (blk_cell BX10.out 2).trans rfl
  have f_ := blk_frozen BX10.out 2
  go_upto_region 9 with (fail)
  clear c_ f_
  have HS11 : Aside0 (qe.RS (y1.setCell ⟨gx, 2, none⟩ (.bool (n5 == 1))) g _ _ l) := ⟨blk_far (p := ⟨gx, 2, none⟩) HS10.out (Ne.symm HGX.out.2.1) _⟩
  have HM11 := Aside0.mk (HM10.out.new (i := 2) HGX.out.1 (.bool (n5 == 1)))
  have BR11 := Aside0.mk (blk_far (p := ⟨gx, 2, none⟩) BR10.out (Ne.symm HGX.out.2.2) (.bool (n5 == 1)))
  have BX11 := Aside0.mk (blk_put (cs' := #[.string ky, .int .u64 n4, .bool (n5 == 1), .string ⟨#[]⟩]) BX10.out 2 (.bool (n5 == 1)) rfl)
  clear HS10 HM10 BR10 BX10
  generalize (y1.setCell ⟨gx, 2, none⟩ (.bool (n5 == 1))) = y2 at HS11 HM11 BR11 BX11 ⊢
  refine start_ (n := 10) (S := fun w' => w'.cell? ⟨g, 2, none⟩ = some (.string l)) (ds := []) #[N,N,N,N,N,N,N,N,N,N] r2_ rfl rfl ((blk_cell HS11.out 2).trans rfl) (fun hHeld => ?_)
  have HS12 : Aside0 (qe.RS y2.drew g s5 b5 l) := ⟨HS11.out⟩
  have HM12 : Aside0 (qe.Mv g w y2.drew) := ⟨HM11.out.trans (qe.Mv.below (below_drew (Below.refl _ _)))⟩
  have BR12 : Aside0 (y2.drew.heap[rr]? = some (.cells #[.string ⟨#[]⟩, .int .u64 0, .bool false, .string ⟨#[]⟩] 37 (0, 0))) := BR11
  have BX12 : Aside0 (y2.drew.heap[gx]? = some (.cells #[.string ky, .int .u64 n4, .bool (n5 == 1), .string ⟨#[]⟩] 37 (0, 0))) := BX11
  clear HS11 HM11 BR11 BX11
  generalize y2.drew = y3 at HS12 HM12 BR12 BX12 hHeld ⊢
  refine pu_ 0 (some 51) #[Y,N,N,N,N,N,N,N,N,N] r2_ ?_
  refine pu_ 1 (some 52) #[Y,Y,N,N,N,N,N,N,N,N] r2_ ?_
  refine pu_ 2 (some 53) #[Y,Y,Y,N,N,N,N,N,N,N] r2_ ?_
  refine pu_ 3 (some 54) #[Y,Y,Y,Y,N,N,N,N,N,N] r2_ ?_
  refine pu_ 4 (some 55) #[Y,Y,Y,Y,Y,N,N,N,N,N] r2_ ?_
  refine pu_ 5 (some 56) #[Y,Y,Y,Y,Y,Y,N,N,N,N] r2_ ?_
  refine one_ (i := 6) (N := some 57) #[Y,Y,Y,Y,Y,Y,Y,N,N,N] rfl rfl r2_ r24_ (fun K hK => ?_)
  refine goes_ Try.func89 r2_ rfl #[.pointer (some ⟨g, 0, none⟩)] r37_ rfl rfl r9_ ?_
  refine (qe.numC k g s5 s6 l b5 b6 n6 _ HS12.out HN6.out).mono ?_
  rintro e w' ⟨rfl, hs, hm⟩
  refine ⟨_, rfl, ?_⟩
  have HS13 := Aside0.mk hs
  have HM13 := Aside0.mk (HM12.out.trans hm)
  have BR13 := Aside0.mk (hm.blk BR12.out HRR.out.2)
  have BX13 := Aside0.mk (hm.blk BX12.out HGX.out.2.1)
  clear hs hm HS12 HM12 BR12 BX12
  refine hK.out _ _ ((blk_cell HS13.out 2).trans rfl) (fun hHeld => ?_)
  clear hK K
  refine nm_ (some 57) ?_
  refine one_ (i := 7) (N := some 58) #[Y,Y,Y,Y,Y,Y,Y,Y,N,N] rfl rfl r2_ r24_ (fun K hK => ?_)
  refine goes_ Try.func90 r2_ rfl #[.pointer (some ⟨g, 0, none⟩), .int .u64 n6] r37_ rfl rfl r9_ ?_
  refine (qe.texC g s6 s7 l v b6 b7 n6 _ HS13.out HT7.out).mono ?_
  rintro e w' ⟨rfl, hs, hm⟩
  refine ⟨_, rfl, ?_⟩
  have HS14 := Aside0.mk hs
  have HM14 := Aside0.mk (HM13.out.trans hm)
  have BR14 := Aside0.mk (hm.blk BR13.out HRR.out.2)
  have BX14 := Aside0.mk (hm.blk BX13.out HGX.out.2.1)
  clear hs hm HS13 HM13 BR13 BX13
  refine hK.out _ _ ((blk_cell HS14.out 2).trans rfl) (fun hHeld => ?_)
  clear hK K
  refine nm_ (some 58) ?_
  refine pure_ (i := 8) (N := some 59) (v := ?_) (a' := ?_) #[Y,Y,Y,Y,Y,Y,Y,Y,Y,N] rfl rfl r2_ (fun _ _ _ h => h) (Or.inl ⟨r37_, ?_⟩) ?_ ?_
  rotate_left
  ·intro w2
   go_simp
   with_reducible rfl
  rotate_left
  ·simp only [Act.put, sp_, i64_w, i32_w]
   rfl
  have c_ : w'.cell? ⟨gx, 3, none⟩ = some (.string ⟨#[]⟩) := (blk_cell BX14.out 3).trans rfl
  have f_ := blk_frozen BX14.out 3
  refine one_ (i := 9) (N := none) #[Y,Y,Y,Y,Y,Y,Y,Y,Y,Y] rfl rfl r2_ r24_ (fun K hK => ?_)
  refine qe.st_ r37_ (w1 := w'.setCell ⟨gx, 3, none⟩ (.string v)) r25_ ?_
  clear c_ f_
  have HS15 : Aside0 (qe.RS (w'.setCell ⟨gx, 3, none⟩ (.string v)) g _ _ l) := ⟨blk_far (p := ⟨gx, 3, none⟩) HS14.out (Ne.symm HGX.out.2.1) _⟩
  have HM15 := Aside0.mk (HM14.out.new (i := 3) HGX.out.1 (.string v))
  have BR15 := Aside0.mk (blk_far (p := ⟨gx, 3, none⟩) BR14.out (Ne.symm HGX.out.2.2) (.string v))
  have BX15 := Aside0.mk (blk_put (cs' := #[.string ky, .int .u64 n4, .bool (n5 == 1), .string v]) BX14.out 3 (.string v) rfl)
  clear HS14 HM14 BR14 BX14
  generalize (w'.setCell ⟨gx, 3, none⟩ (.string v)) = y4 at HS15 HM15 BR15 BX15 ⊢
  refine hK.out _ _ ((blk_cell HS15.out 2).trans rfl) (fun hHeld => ?_)
  clear hK K
  refine nm_ none ?_
  refine done_ r2_ ?_
  (try clear hHeld)
  clear hHeld
  have c1_ : y4.cell? ⟨g, 1, none⟩ = some (.bool b7) := (blk_cell HS15.out 1).trans rfl
  have f1_ := blk_frozen HS15.out 1
  have tail : ∀ (bz : Bool) (y5 : World), bz = (b7 || decide (n5 > 1)) → y5 = y4.setCell ⟨g, 1, none⟩ (.bool bz) → Aside0 (qe.RS y5 g s7 (b7 || decide (n5 > 1)) l) ∧ Aside0 (qe.Mv g w y5) ∧ Aside0 (y5.heap[rr]? = some (.cells #[.string ⟨#[]⟩, .int .u64 0, .bool false, .string ⟨#[]⟩] 37 (0, 0))) ∧ Aside0 (y5.heap[gx]? = some (.cells #[.string ky, .int .u64 n4, .bool (n5 == 1), .string v] 37 (0, 0))) := by
   rintro bz y5 rfl rfl
   exact ⟨⟨HS15.out.s1⟩, ⟨HM15.out.trans (qe.Mv.set g 1 y4 _)⟩, ⟨blk_far (p := ⟨g, 1, none⟩) BR15.out HRR.out.2 _⟩, ⟨blk_far (p := ⟨g, 1, none⟩) BX15.out HGX.out.2.1 _⟩⟩
  have TL := Lib.hid tail
  clear tail HS15 HM15 BR15 BX15
  cases b7 with
  | true =>
   go_upto_region 11 with (fail)
   clear c1_ f1_
   obtain ⟨HS16, HM16, BR16, BX16⟩ := TL.out true _ rfl rfl
   generalize hy5 : (y4.setCell ⟨g, 1, none⟩ (.bool true)) = y5 at HS16 HM16 BR16 BX16 ⊢
   clear hy5 TL
   have c0_ : y5.cell? ⟨gx, 0, none⟩ = some (.string ky) := (blk_cell BX16.out 0).trans rfl
   have c2_ : y5.cell? ⟨g, 2, none⟩ = some (.string l) := (blk_cell HS16.out 2).trans rfl
   have f2_ := blk_frozen HS16.out 2
   go_upto_region 12 with (fail)
   clear c0_ c2_ f2_
   have HS17 := Aside0.mk (HS16.out.s2 (l' := ky))
   have HM17 := Aside0.mk (HM16.out.trans (qe.Mv.set g 2 y5 (.string ky)))
   have BR17 := Aside0.mk (blk_far (p := ⟨g, 2, none⟩) BR16.out HRR.out.2 (.string ky))
   have BX17 := Aside0.mk (blk_far (p := ⟨g, 2, none⟩) BX16.out HGX.out.2.1 (.string ky))
   clear HS16 HM16 BR16 BX16
   generalize (y5.setCell ⟨g, 2, none⟩ (.string ky)) = y6 at HS17 HM17 BR17 BX17 ⊢
   have k0_ : y6.cell? ⟨gx, 0, none⟩ = some (.string ky) := (blk_cell BX17.out 0).trans rfl
   have k1_ : y6.cell? ⟨gx, 1, none⟩ = some (.int .u64 n4) := (blk_cell BX17.out 1).trans rfl
   have k2_ : y6.cell? ⟨gx, 2, none⟩ = some (.bool (n5 == 1)) := (blk_cell BX17.out 2).trans rfl
   have k3_ : y6.cell? ⟨gx, 3, none⟩ = some (.string v) := (blk_cell BX17.out 3).trans rfl
   have r0_ : y6.cell? ⟨rr, 0, none⟩ = some (.string ⟨#[]⟩) := (blk_cell BR17.out 0).trans rfl
   have r1_ : y6.cell? ⟨rr, 1, none⟩ = some (.int .u64 0) := (blk_cell BR17.out 1).trans rfl
   have r2_ : y6.cell? ⟨rr, 2, none⟩ = some (.bool false) := (blk_cell BR17.out 2).trans rfl
   have r3_ : y6.cell? ⟨rr, 3, none⟩ = some (.string ⟨#[]⟩) := (blk_cell BR17.out 3).trans rfl
   have p0_ := blk_frozen BR17.out 0
   have p1_ := blk_frozen BR17.out 1
   have p2_ := blk_frozen BR17.out 2
   have p3_ := blk_frozen BR17.out 3
   go_wp2
   clear k0_ k1_ k2_ k3_ p0_ p1_ p2_ p3_ r0_ r1_ r2_ r3_
   exact bodyPost_ret (qe.results_c rfl _ _ rr 37 #[.string ky, .int .u64 n4, .bool (n5 == 1), .string v] (0, 0) _ rfl (blk_put (cs' := #[.string ky, .int .u64 n4, .bool (n5 == 1), .string v]) (blk_put (cs' := #[.string ky, .int .u64 n4, .bool (n5 == 1), .string ⟨#[]⟩]) (blk_put (cs' := #[.string ky, .int .u64 n4, .bool false, .string ⟨#[]⟩]) (blk_put (cs' := #[.string ky, .int .u64 0, .bool false, .string ⟨#[]⟩]) BR17.out 0 _ rfl) 1 _ rfl) 2 _ rfl) 3 _ rfl) Try.underlying37 rfl r2_) rfl ⟨by rw [← hky], blk_far (p := ⟨rr, 3, none⟩) (blk_far (p := ⟨rr, 2, none⟩) (blk_far (p := ⟨rr, 1, none⟩) (blk_far (p := ⟨rr, 0, none⟩) HS17.out (Ne.symm HRR.out.2) _) (Ne.symm HRR.out.2) _) (Ne.symm HRR.out.2) _) (Ne.symm HRR.out.2) _, (((HM17.out.new HRR.out.1 _).new HRR.out.1 _).new HRR.out.1 _).new HRR.out.1 _⟩
  | false =>
   go_upto_region 11 with (fail)
   clear c1_ f1_
   obtain ⟨HS16, HM16, BR16, BX16⟩ := TL.out (decide (n5 > 1)) _ rfl rfl
   generalize hy5 : (y4.setCell ⟨g, 1, none⟩ (.bool (decide (n5 > 1)))) = y5 at HS16 HM16 BR16 BX16 ⊢
   clear hy5 TL
   have c0_ : y5.cell? ⟨gx, 0, none⟩ = some (.string ky) := (blk_cell BX16.out 0).trans rfl
   have c2_ : y5.cell? ⟨g, 2, none⟩ = some (.string l) := (blk_cell HS16.out 2).trans rfl
   have f2_ := blk_frozen HS16.out 2
   go_upto_region 12 with (fail)
   clear c0_ c2_ f2_
   have HS17 := Aside0.mk (HS16.out.s2 (l' := ky))
   have HM17 := Aside0.mk (HM16.out.trans (qe.Mv.set g 2 y5 (.string ky)))
   have BR17 := Aside0.mk (blk_far (p := ⟨g, 2, none⟩) BR16.out HRR.out.2 (.string ky))
   have BX17 := Aside0.mk (blk_far (p := ⟨g, 2, none⟩) BX16.out HGX.out.2.1 (.string ky))
   clear HS16 HM16 BR16 BX16
   generalize (y5.setCell ⟨g, 2, none⟩ (.string ky)) = y6 at HS17 HM17 BR17 BX17 ⊢
   have k0_ : y6.cell? ⟨gx, 0, none⟩ = some (.string ky) := (blk_cell BX17.out 0).trans rfl
   have k1_ : y6.cell? ⟨gx, 1, none⟩ = some (.int .u64 n4) := (blk_cell BX17.out 1).trans rfl
   have k2_ : y6.cell? ⟨gx, 2, none⟩ = some (.bool (n5 == 1)) := (blk_cell BX17.out 2).trans rfl
   have k3_ : y6.cell? ⟨gx, 3, none⟩ = some (.string v) := (blk_cell BX17.out 3).trans rfl
   have r0_ : y6.cell? ⟨rr, 0, none⟩ = some (.string ⟨#[]⟩) := (blk_cell BR17.out 0).trans rfl
   have r1_ : y6.cell? ⟨rr, 1, none⟩ = some (.int .u64 0) := (blk_cell BR17.out 1).trans rfl
   have r2_ : y6.cell? ⟨rr, 2, none⟩ = some (.bool false) := (blk_cell BR17.out 2).trans rfl
   have r3_ : y6.cell? ⟨rr, 3, none⟩ = some (.string ⟨#[]⟩) := (blk_cell BR17.out 3).trans rfl
   have p0_ := blk_frozen BR17.out 0
   have p1_ := blk_frozen BR17.out 1
   have p2_ := blk_frozen BR17.out 2
   have p3_ := blk_frozen BR17.out 3
   go_wp2
   clear k0_ k1_ k2_ k3_ p0_ p1_ p2_ p3_ r0_ r1_ r2_ r3_
   exact bodyPost_ret (qe.results_c rfl _ _ rr 37 #[.string ky, .int .u64 n4, .bool (n5 == 1), .string v] (0, 0) _ rfl (blk_put (cs' := #[.string ky, .int .u64 n4, .bool (n5 == 1), .string v]) (blk_put (cs' := #[.string ky, .int .u64 n4, .bool (n5 == 1), .string ⟨#[]⟩]) (blk_put (cs' := #[.string ky, .int .u64 n4, .bool false, .string ⟨#[]⟩]) (blk_put (cs' := #[.string ky, .int .u64 0, .bool false, .string ⟨#[]⟩]) BR17.out 0 _ rfl) 1 _ rfl) 2 _ rfl) 3 _ rfl) Try.underlying37 rfl r2_) rfl ⟨by rw [← hky], blk_far (p := ⟨rr, 3, none⟩) (blk_far (p := ⟨rr, 2, none⟩) (blk_far (p := ⟨rr, 1, none⟩) (blk_far (p := ⟨rr, 0, none⟩) HS17.out (Ne.symm HRR.out.2) _) (Ne.symm HRR.out.2) _) (Ne.symm HRR.out.2) _) (Ne.symm HRR.out.2) _, (((HM17.out.new HRR.out.1 _).new HRR.out.1 _).new HRR.out.1 _).new HRR.out.1 _⟩
def qe.go (k : Nat) : Nat → ByteArray → Bool → ByteArray → List (S37) → Option (Bool × List (S37))
 | 0, _, b, _, l => some (b, l)
 | m + 1, s, b, last, l => (qe.next k s b last).bind fun a => qe.go k m a.2.1 a.2.2.1 a.2.2.2 (l ++ [a.1])
def qe.fin (k : Nat) (s : ByteArray) (b : Bool) (l : List (S37)) : Option (List (S37) × Int) :=
 if b = true then some ([], 2) else (qi.f k l).bind fun e => if e.2 = 0 then (if e.1.toList = s.toList then some (l, 0) else some ([], 2)) else some ([], 2)
/-- Where the entries end. -/
def qe.en (s : ByteArray) (n : Int) : Int := wrap64 ((s.size : Int) - wrap64 (8 * wrap64 (wrap64 ((wrap64 (wrap64 (n + 4) - 1)).tdiv 4) + 1)))
def qe.f (k : Nat) (a0 : ByteArray) : Option (List (S37) × Int) :=
 (qk1.f k a0).bind fun n => if n = 0 then some ([], 2) else (if qe.en a0 n < 0 then some ([], 2) else
  (if qe.en a0 n ≤ (a0.size : Int) then (if 0 ≤ n ∧ n ≤ 1000 then (qe.go k n.toNat (a0.extract 0 (qe.en a0 n).toNat) false ⟨#[]⟩ []).bind fun r => qe.fin k a0 r.1 r.2 else none) else none))
theorem qe.number_mono (k : Nat) (s : ByteArray) (g : Bool) : LeO (qe.number k s g) (qe.number (k + 1) s g) := LeO.bind (qV.mono _ _) (fun _ => LeO.refl _)
theorem qe.next_mono (k : Nat) (s : ByteArray) (b : Bool) (l : ByteArray) : LeO (qe.next k s b l) (qe.next (k + 1) s b l) :=
 LeO.bind (qe.number_mono _ _ _) (fun _ => LeO.ite (LeO.refl _) (LeO.ite (LeO.ite (LeO.bind (qe.number_mono _ _ _) (fun _ => LeO.bind (LeO.refl _) (fun _ => LeO.ite (LeO.bind (qe.number_mono _ _ _) (fun _ => LeO.bind (qe.number_mono _ _ _) (fun _ => LeO.bind (qe.number_mono _ _ _) (fun _ => LeO.refl _)))) (LeO.refl _)))) (LeO.refl _)) (LeO.refl _)))
theorem qe.go_mono (k : Nat) : ∀ m s b last l, LeO (qe.go k m s b last l) (qe.go (k + 1) m s b last l)
 | 0, _, _, _, _ => LeO.refl _
 | m + 1, s, b, last, l => LeO.bind (qe.next_mono _ _ _ _) (fun _ => qe.go_mono k m _ _ _ _)
theorem qe.fin_mono (k : Nat) (s : ByteArray) (b : Bool) (l : List (S37)) : LeO (qe.fin k s b l) (qe.fin (k + 1) s b l) := LeO.ite (LeO.refl _) (LeO.bind (qi.mono _ _) (fun _ => LeO.refl _))
theorem qe.mono : ∀ a0 k, LeO (qe.f k a0) (qe.f (k + 1) a0) := fun a0 k => LeO.bind (qk1.mono _ _) (fun _ => LeO.ite (LeO.refl _) (LeO.ite (LeO.refl _) (LeO.ite (LeO.ite (LeO.bind (qe.go_mono _ _ _ _ _ _) (fun _ => qe.fin_mono _ _ _ _)) (LeO.refl _)) (LeO.refl _))))
set_option maxHeartbeats 3200000 in
set_option maxRecDepth 100000 in
theorem qe.calls (k : Nat) (a0 : ByteArray) (r1 : List (S37)) (r2 : Int) (w : World) (h : qe.f k a0 = some (r1, r2)) :
  Calls Try.prog 70 #[.string a0] w fun e w' => ∃ v0_ : Value, e = .returned (.tuple #[v0_, .int .i64 r2]) ∧ Kd.R k37 37 w' w.heap.size (fun _ => True) v0_ r1 ∧ Below w.heap.size w w' := by
 unfold qe.f at h
 replace h := bs_ h
 obtain ⟨n0, hcnt, h⟩ := h
 have HCNT := Lib.hid hcnt
 have HH := Lib.hid h
 clear hcnt h
 go_enter Try.func70, Try.ntmps70
 go_wp2_with (fail)
 refine (qk1.calls k a0 n0 _ HCNT.out).mono ?_
 rintro e w' ⟨rfl, ⟨nd, rfl⟩⟩
 have HB0 : Aside0 (Below w.heap.size w (w.drewN nd)) := ⟨pw_below_drewN (Below.refl _ _) nd⟩
 generalize w.drewN nd = w1 at HB0 ⊢
 have hh := HH.out
 clear HH HCNT
 by_cases hz : n0 = 0
 ·rw [if_pos hz] at hh
  simp only [Option.some.injEq, Prod.mk.injEq] at hh
  obtain ⟨rfl, rfl⟩ := hh
  subst hz
  go_wp2
  go_ret2
  exact ⟨_, rfl, Kd.R_nil _ _ _ _ _, HB0.out⟩
 rw [if_neg hz] at hh
 have ez_ : (n0 == (0 : Int)) = false := beq_eq_false_iff_ne.mpr hz
 clear hz
 have hd_ : ∀ b, decide (qe.en a0 n0 < 0) = b → decide (wrap64 ((a0.size : Int) - wrap64 (8 * wrap64 (wrap64 ((wrap64 (wrap64 (n0 + 4) - 1)).tdiv 4) + 1))) < 0) = b := fun _ hb => hb
 by_cases he : qe.en a0 n0 < 0
 ·rw [if_pos he] at hh
  simp only [Option.some.injEq, Prod.mk.injEq] at hh
  obtain ⟨rfl, rfl⟩ := hh
  have hcb := hd_ true (decide_eq_true he)
  clear hd_ he
  go_wp2
  go_ret2
  exact ⟨_, rfl, Kd.R_nil _ _ _ _ _, HB0.out⟩
 rw [if_neg he] at hh
 by_cases he2 : qe.en a0 n0 ≤ (a0.size : Int)
 case neg => rw [if_neg he2] at hh; exact absurd hh r17_
 rw [if_pos he2] at hh
 by_cases hn : 0 ≤ n0 ∧ n0 ≤ 1000
 case neg => rw [if_neg hn] at hh; exact absurd hh r17_
 rw [if_pos hn] at hh
 replace hh := bs_ hh
 obtain ⟨⟨b3, l3⟩, hgo, hfin⟩ := hh
 have HGO := Lib.hid hgo
 have HFIN : Hid (qe.fin k a0 b3 l3 = some (r1, r2)) := Lib.hid hfin
 have HNB := Lib.hid hn
 have hcb := hd_ false (decide_eq_false he)
 have hL_ : (0 ≤ wrap64 ((a0.size : Int) - wrap64 (8 * wrap64 (wrap64 ((wrap64 (wrap64 (n0 + 4) - 1)).tdiv 4) + 1)))) = True := eq_true (Int.not_lt.mp he)
 have hR_ : (wrap64 ((a0.size : Int) - wrap64 (8 * wrap64 (wrap64 ((wrap64 (wrap64 (n0 + 4) - 1)).tdiv 4) + 1))) ≤ (a0.size : Int)) = True := eq_true he2
 clear hgo hfin he he2 hn hd_
 go_upto_region 8 with (fail)
 clear hcb hL_ hR_ ez_
 change Hid (qe.go k n0.toNat (a0.extract 0 (wrap64 ((a0.size : Int) - wrap64 (8 * wrap64 (wrap64 ((wrap64 (wrap64 (n0 + 4) - 1)).tdiv 4) + 1)))).toNat) false ⟨#[]⟩ [] = some (b3, l3)) at HGO
 generalize (wrap64 ((a0.size : Int) - wrap64 (8 * wrap64 (wrap64 ((wrap64 (wrap64 (n0 + 4) - 1)).tdiv 4) + 1)))) = en at HGO ⊢
 obtain ⟨n, rfl⟩ := Int.eq_ofNat_of_zero_le HNB.out.1
 rw [Int.toNat_natCast] at HGO
 have hn1000 : n ≤ 1000 := by have := HNB.out.2; omega
 clear HNB
 have HS1_ : Aside0 (qe.RS (w1.alloc (.cells #[.string (a0.extract 0 en.toNat), .bool false, .string ⟨#[]⟩] 128)) w1.heap.size (a0.extract 0 en.toNat) false ⟨#[]⟩) := ⟨blk_new _ _⟩
 have HB1_ := Aside0.mk (below_alloc HB0.out (.cells #[.string (a0.extract 0 en.toNat), .bool false, .string ⟨#[]⟩] 128))
 have HGw : Hid (w.heap.size ≤ w1.heap.size) := Lib.hid HB0.out.size
 clear HB0
 generalize (w1.alloc (.cells #[.string (a0.extract 0 en.toNat), .bool false, .string ⟨#[]⟩] 128)) = w2 at HS1_ HB1_ ⊢
 obtain ⟨g, hg⟩ : ∃ g, w1.heap.size = g := ⟨_, rfl⟩
 rw [hg] at HS1_ HGw ⊢
 clear hg
 generalize a0.extract 0 en.toNat = sE at HS1_ HGO ⊢
 have HO1_ : Aside0 (Kd.R k37 37 w2 w.heap.size (fun k_ => k_ ≠ g) (.slice none 0 0) ([] : List (S37))) := ⟨Kd.R_nil _ _ _ _ _⟩
 go_wp2_with (fail)
 go_loopg [8, 36] n (fun kq v8 v36 w' => ∃ (i : Nat) (s : ByteArray) (b : Bool) (last : ByteArray) (l : List (S37)), v36 = .int .i64 (i : Int) ∧ Aside0 (kq + i = n) ∧ Aside0 (qe.go k (n - i) s b last l = some (b3, l3)) ∧ Aside0 (l.length = i) ∧ Aside0 (qe.RS w' g s b last) ∧ Aside0 (Kd.R k37 37 w' w.heap.size (fun k_ => k_ ≠ g) v8 l) ∧ Aside0 (Below w.heap.size w w'))
 case atStart => exact ⟨0, sE, false, ⟨#[]⟩, [], rfl, ⟨r18_⟩, ⟨HGO.out⟩, ⟨rfl⟩, HS1_, HO1_, HB1_⟩
 case round =>
  clear HS1_ HO1_ HB1_ HGO
  obtain ⟨i, s, b, last, l, rfl, HI, HGI, HL, HS0, HO0, HB0⟩ := hrel
  have hin : i ≤ n := by have := HI.out; omega
  by_cases hlt : i < n
  ·have hkg : ∃ k1, gk = k1 + 1 := ⟨gk - 1, by have := HI.out; omega⟩
   obtain ⟨k1, rfl⟩ := hkg
   obtain ⟨m, hm⟩ : ∃ m, n - i = m + 1 := ⟨n - i - 1, r18_⟩
   have hg := HGI.out
   rw [hm] at hg
   have HMm := Lib.hid hm
   clear HGI hm
   replace hg := bs_ hg
   obtain ⟨⟨x, sA, bA, lA⟩, hnx, hg⟩ := hg
   have HNX := Lib.hid hnx
   have HGf : Hid (qe.go k m sA bA lA (l ++ [x]) = some (b3, l3)) := Lib.hid hg
   clear hnx hg
   go_wp2_with (fail)
   refine (qe.nexC k g s sA last lA b bA x _ HS0.out HNX.out).mono ?_
   rintro e x1 ⟨rfl, hs, hm⟩
   have HS1 := Aside0.mk hs
   have HB1 := Aside0.mk (HB0.out.trans (hm.bel w.heap.size HGw.out HB0.out.size))
   have HO1 := Aside0.mk (Kd.R_step HO0.out (fun k_ hk_ hl_ => hm.keep k_ hl_ hk_))
   clear hs hm HS0 HB0 HO0
   go_wp2_with (first | ((with_reducible refine gate_builtin (b := .append) (xs := #[.tmp 38, .tmp 41]) rfl ?_); at_builtin; refine Kd.R_append k37 (w0 := w) w.heap.size rfl (.tmp 38) (.tmp 41) 22 37 (.agg #[(.string ⟨#[]⟩), (.int .u64 0), (.bool false), (.string ⟨#[]⟩)]) 48 rfl Try.underlying22 info37 rfl r24_ r18_ u8 l x [.string x.f0, .int .u64 x.f1, .bool x.f2, .string x.f3] (fun k_ => k_ ≠ g) (fun _ => False) rfl r25_ ?aP (fun _ hk => hk.elim) ?aF ?aO ?aB ?aS ?aL ?_; (case aP => exact k37_mkM _ _ _ x); (case aB => exact HB1.out); (case aF => exact (fun k_ hk_ e_ => by have := blk_lt HS1.out; omega)); (case aO => exact HO1.out); (case aS => exact HB1.out.size); (case aL => have := HL.out; omega); intro v1 y1 ho hb hg hat; have HOg := Aside0.mk ho; have HBg := Aside0.mk hb; have HSg : Aside0 (qe.RS y1 g sA bA lA) := ⟨blk_grown HS1.out hg (fun e_ => HO1.out.1 g e_.symm rfl)⟩; clear ho hb hg hat HO1 HB1 HS1))
   go_roundg k1
   case measure => omega
   case rel => exact ⟨i + 1, sA, bA, lA, l ++ [x], by go_num, ⟨by have := HI.out; omega⟩, ⟨by rw [show n - (i + 1) = m by have := HMm.out; omega]; exact HGf.out⟩, ⟨by rw [List.length_append, List.length_singleton, HL.out]⟩, HSg, HOg, HBg⟩
  have hie : i = n := by omega
  have hg := HGI.out
  rw [show n - i = 0 by omega] at hg
  clear HGI
  obtain ⟨rfl, rfl⟩ : b = b3 ∧ l = l3 := by simpa [qe.go] using hg
  clear hg
  have c1_ : wr.cell? ⟨g, 1, none⟩ = some (.bool b) := (blk_cell HS0.out 1).trans rfl
  obtain ⟨A, cA, eA⟩ := Kd.R_slice HO0.out
  subst eA
  have hf := HFIN.out
  clear HFIN
  unfold qe.fin at hf
  cases b with
  | true =>
   rw [if_pos rfl] at hf
   simp only [Option.some.injEq, Prod.mk.injEq] at hf
   obtain ⟨rfl, rfl⟩ := hf
   go_wp2
   go_ret2
   exact ⟨_, rfl, Kd.R_nil _ _ _ _ _, HB0.out⟩
  | false =>
   rw [if_neg r24_] at hf
   replace hf := bs_ hf
   obtain ⟨⟨e1, e2⟩, henc, hf⟩ := hf
   have HENC := Lib.hid henc
   clear henc
   dsimp only at hf
   have HR := Aside0.mk (Kd.R_reads' HO0.out)
   go_wp2_with (fail)
   refine (qi.calls k A cA l e1 e2 _ HR.out.2.2 HR.out.2.1 HENC.out).mono ?_
   rintro e x1 ⟨rfl, hb⟩
   have HBx := Aside0.mk (below_step HB0.out hb)
   have HOx := Aside0.mk (Kd.R_below HO0.out hb)
   clear hb HB0 HO0 HR c1_
   by_cases hz : e2 = 0
   rotate_left
   ·rw [if_neg hz] at hf
    have e1_ : (e2 == 0) = false := beq_eq_false_iff_ne.mpr hz
    have e2_ : (e2 != 0) = true := bne_iff_ne.mpr hz
    clear hz
    simp only [Option.some.injEq, Prod.mk.injEq] at hf
    obtain ⟨rfl, rfl⟩ := hf
    go_wp2
    go_ret2
    exact ⟨_, rfl, Kd.R_nil _ _ _ _ _, HBx.out⟩
   rw [if_pos hz] at hf
   subst hz
   by_cases hs : e1.toList = a0.toList
   ·rw [if_pos hs] at hf
    have e1_ : (e1.toList == a0.toList) = true := beq_iff_eq.mpr hs
    have e2_ : (e1.toList != a0.toList) = false := bne_eq_false_iff_eq.mpr hs
    clear hs
    simp only [Option.some.injEq, Prod.mk.injEq] at hf
    obtain ⟨rfl, rfl⟩ := hf
    go_wp2
    go_ret2
    exact ⟨_, rfl, Kd.R_mono HOx.out (fun _ _ => trivial), HBx.out⟩
   rw [if_neg hs] at hf
   have e1_ : (e1.toList == a0.toList) = false := beq_eq_false_iff_ne.mpr hs
   have e2_ : (e1.toList != a0.toList) = true := bne_iff_ne.mpr hs
   clear hs
   simp only [Option.some.injEq, Prod.mk.injEq] at hf
   obtain ⟨rfl, rfl⟩ := hf
   go_wp2
   go_ret2
   exact ⟨_, rfl, Kd.R_nil _ _ _ _ _, HBx.out⟩

end Go.Proofs.Ytgdkikkjaofbfaa.P
