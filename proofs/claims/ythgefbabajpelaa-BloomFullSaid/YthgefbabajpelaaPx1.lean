-- Printed by a program of this session's own (wip/tools/pprint.sh, over the kit's print, with given contracts): not typed by hand.
import Derived.Test.YthgefbabajpelaaPx0
namespace Go.Proofs.Ythgefbabajpelaa.P
open Go.RowKit Go.Proofs.YthgefbabajpelaaW.PrintWords Go.Proofs.YthgefbabajpelaaW.PrintLast Go.Proofs.YthgefbabajpelaaW.PrintMore
attribute [local go_sem] max2_int min2_int max_two min_two max_three min_three max_four min_four   -- for this text's walks alone
set_option linter.unusedVariables false
set_option linter.unusedSimpArgs false

/-! ### bloom_Mix: function 14 -/
def bloom_Mix.l0 : Nat → ByteArray → Int → Int → Int → Option (Int)
  | 0, _, _, _, _ => none
  | k + 1, x0, x3, x6, x7 => if x7 < x6 then (if 0 ≤ x7 then (if x7 < (x0.size : Int) then (bloom_Mix.l0 k x0 (IntKind.u64.wrap ((Go.bits .xor .u64 x3 (IntKind.u64.wrap (bt x0 x7))) * 1099511628211)) x6 (wrap64 (x7 + 1))) else (none)) else (none)) else (some x3)
def bloom_Mix.f (k : Nat) (a0 : ByteArray) : Option (Int) := bloom_Mix.l0 k a0 14695981039346656037 (a0.size : Int) 0
theorem bloom_Mix.mono_l : ∀ k, (∀ y0 y1 y2 y3, LeO (bloom_Mix.l0 k y0 y1 y2 y3) (bloom_Mix.l0 (k + 1) y0 y1 y2 y3))
  | 0 => fun _ _ _ _ r h => by simp [bloom_Mix.l0] at h
  | k + 1 => by
    have ih0 := bloom_Mix.mono_l k
    · intro y0 y1 y2 y3
      unfold bloom_Mix.l0
      repeat' first
      | (with_reducible exact ih0 _ _ _ _)
      | (with_reducible exact LeO.refl _)
      | (with_reducible exact LeO.none _)
      | (with_reducible refine LeO.ite ?_ ?_)
      | (with_reducible refine LeO.bind ?_ (fun _ => ?_))
      | exact ih0 _ _ _ _
      | exact LeO.none _
      | refine LeO.ite ?_ ?_
      | refine LeO.bind ?_ (fun _ => ?_)
theorem bloom_Mix.mono : ∀ a0 k, LeO (bloom_Mix.f k a0) (bloom_Mix.f (k + 1) a0) := by
  intro a0 k
  have ih0 := bloom_Mix.mono_l k
  unfold bloom_Mix.f
  repeat' first
      | (with_reducible exact ih0 _ _ _ _)
      | (with_reducible exact LeO.refl _)
      | (with_reducible exact LeO.none _)
      | (with_reducible refine LeO.ite ?_ ?_)
      | (with_reducible refine LeO.bind ?_ (fun _ => ?_))
      | exact ih0 _ _ _ _
      | exact LeO.none _
      | refine LeO.ite ?_ ?_
      | refine LeO.bind ?_ (fun _ => ?_)
set_option maxHeartbeats 8000000 in
set_option maxRecDepth 100000 in
theorem bloom_Mix.calls (k : Nat) (a0 : ByteArray) (r : Int) (w : World) (h : bloom_Mix.f k a0 = some r) :
    Calls Try.prog 14 #[.string a0] w fun e w' => e = .returned (.int .u64 r) ∧ Drawn0 w w' := by
  have H : (bloom_Mix.l0 k a0 14695981039346656037 (a0.size : Int) 0) = some r := h
  clear h
  have H' := Aside0.mk H
  clear H
  go_enter Try.func14, Try.ntmps14
  go_wp2
  go_loopg [3, 7] k (fun kq v3 v7 w' => ∃ (x3_1 : Int) (x7_1 : Int), v3 = .int .u64 x3_1 ∧ v7 = .int .i64 x7_1 ∧ Aside0 (bloom_Mix.l0 kq a0 x3_1 (a0.size : Int) x7_1 = some r) ∧ Aside0 (kq ≤ k) ∧ Drawn0 w w')
  case atStart => exact ⟨(14695981039346656037), (0), (by first | rfl | (simp; done) | (simp [*]; done)), (by first | rfl | (simp; done) | (simp [*]; done)), H', ⟨Nat.le_refl _⟩, by repeat (first | exact Drawn0.refl _ | apply Drawn0.step)⟩
  case round =>
    clear H'
    try clear c1
    obtain ⟨x3_1, x7_1, rfl, rfl, HA, HK1, ⟨m1, rfl⟩⟩ := hrel
    cases gk with
    | zero => exact absurd HA.out (by simp [bloom_Mix.l0])
    | succ k1 =>
      have H := HA.out
      clear HA
      simp only [bloom_Mix.l0] at H
      by_cases c2 : x7_1 < (a0.size : Int)
      · rw [if_pos c2] at H
        have c2b0 : decide (x7_1 < (a0.size : Int)) = true := decide_eq_true c2
        clear c2
        by_cases c3 : 0 ≤ x7_1
        · rw [if_pos c3] at H
          have c3b0 : decide (0 ≤ x7_1) = true := decide_eq_true c3
          clear c3
          by_cases c4 : x7_1 < (a0.size : Int)
          · rw [if_pos c4] at H
            have c4b0 : decide (x7_1 < (a0.size : Int)) = true := decide_eq_true c4
            clear c4
            have H' := Aside0.mk H
            clear H
            have p5 : 0 ≤ (x7_1 : Int) := of_decide_eq_true (by first | (with_reducible assumption) | assumption)
            have q5 : x7_1 < (a0.size : Int) := of_decide_eq_true (by first | (with_reducible assumption) | assumption)
            have hx5 := bt_at a0 x7_1
            replace p5 := eq_true p5
            replace q5 := eq_true q5
            go_wp2
            go_roundg k1
            case measure => have := HK1.out; omega
            case rel => exact ⟨(IntKind.u64.wrap ((Go.bits .xor .u64 x3_1 (IntKind.u64.wrap (bt a0 x7_1))) * 1099511628211)), (wrap64 (x7_1 + 1)), (by first | rfl | (simp; done) | (simp [*]; done)), (by first | rfl | (simp; done) | (simp [*]; done)), (by first | (with_reducible exact H') | exact H' | (subst_vars; exact H')), ⟨by have := HK1.out; omega⟩, by repeat (first | exact Drawn0.refl _ | apply Drawn0.step)⟩
          · rw [if_neg c4] at H
            exact absurd H (by simp)
        · rw [if_neg c3] at H
          exact absurd H (by simp)
      · rw [if_neg c2] at H
        have c2b0 : decide (x7_1 < (a0.size : Int)) = false := decide_eq_false c2
        clear c2
        obtain rfl := Option.some.inj H
        go_wp2
        go_ret
        exact ⟨by first | rfl | (simp; done) | (simp [*]; done), by repeat (first | exact Drawn0.refl _ | apply Drawn0.step)⟩

/-! ### bloom_probes: function 22 -/
section
theorem bloom_probes.wu (n : Int) : IntKind.u64.wrap n = n % 18446744073709551616 := by simp [IntKind.wrap, IntKind.bits, IntKind.signed]
theorem bloom_probes.setCell_drewN (w : World) (n : Nat) (a : Addr) (v : Value) : (w.drewN n).setCell a v = (w.setCell a v).drewN n := rfl
attribute [local go_sem] bloom_probes.setCell_drewN
def bloom_probes.st (h : Int) : Int := Go.bits .or .u64 (h / 131072) (IntKind.u64.wrap (h * 140737488355328))
def bloom_probes.at_ (h a1 : Int) : Int := wrap64 (Int.tmod h (IntKind.u64.wrap a1))
def bloom_probes.ps (h a1 : Int) : List Int :=
  [bloom_probes.at_ h a1, bloom_probes.at_ (IntKind.u64.wrap (h + bloom_probes.st h)) a1, bloom_probes.at_ (IntKind.u64.wrap (IntKind.u64.wrap (h + bloom_probes.st h) + bloom_probes.st h)) a1, bloom_probes.at_ (IntKind.u64.wrap (IntKind.u64.wrap (IntKind.u64.wrap (h + bloom_probes.st h) + bloom_probes.st h) + bloom_probes.st h)) a1]
set_option maxHeartbeats 400000 in
theorem bloom_probes.any (k : Nat) (a0 : ByteArray) (a1 : Int) (hh : Int) (w : World) (h : bloom_Mix.f k a0 = some hh) (hz : ¬ (IntKind.u64.wrap a1 = 0)) :
    Calls Try.prog 22 #[.string a0, .int .i64 a1] w fun e w' => ∃ p0 p1 p2 p3 : Int, bloom_probes.ps hh a1 = [p0, p1, p2, p3] ∧ e = .returned (.agg #[.int .i64 p0, .int .i64 p1, .int .i64 p2, .int .i64 p3]) ∧ Below w.heap.size w w' := by
  obtain ⟨st, e0⟩ : ∃ st, Go.bits .or .u64 (hh / 131072) (IntKind.u64.wrap (hh * 140737488355328)) = st := ⟨_, rfl⟩
  obtain ⟨h1, e1⟩ : ∃ x, IntKind.u64.wrap (hh + st) = x := ⟨_, rfl⟩
  obtain ⟨h2, e2⟩ : ∃ x, IntKind.u64.wrap (h1 + st) = x := ⟨_, rfl⟩
  obtain ⟨h3, e3⟩ : ∃ x, IntKind.u64.wrap (h2 + st) = x := ⟨_, rfl⟩
  obtain ⟨p0, f0⟩ : ∃ x, wrap64 (Int.tmod hh (IntKind.u64.wrap a1)) = x := ⟨_, rfl⟩
  obtain ⟨p1, f1⟩ : ∃ x, wrap64 (Int.tmod h1 (IntKind.u64.wrap a1)) = x := ⟨_, rfl⟩
  obtain ⟨p2, f2⟩ : ∃ x, wrap64 (Int.tmod h2 (IntKind.u64.wrap a1)) = x := ⟨_, rfl⟩
  obtain ⟨p3, f3⟩ : ∃ x, wrap64 (Int.tmod h3 (IntKind.u64.wrap a1)) = x := ⟨_, rfl⟩
  have hps : Hid (bloom_probes.ps hh a1 = [p0, p1, p2, p3]) := by
    show bloom_probes.ps hh a1 = [p0, p1, p2, p3]
    simp only [bloom_probes.ps, bloom_probes.at_, bloom_probes.st, e0, e1, e2, e3, f0, f1, f2, f3]
  go_enter Try.func22, Try.ntmps22
  go_wp2_with (go_at_call 14; (refine (bloom_Mix.calls k a0 hh _ h).mono ?_); rintro e w1 ⟨rfl, ⟨nd, rfl⟩⟩)
  refine wp_loop_rounds 5 ?_
  iterate 5 (rw [rounds_succ]; go_wp2)
  exact bodyPost_ret (v := .agg #[.int .i64 p0, .int .i64 p1, .int .i64 p2, .int .i64 p3]) (by simp [results, Try.results22, go_sem]) rfl ⟨p0, p1, p2, p3, hps, rfl, pw_below_drewN (below_alloc (below_alloc (Below.refl _ _) _) _) _⟩

theorem bloom_Mix.l0_range : ∀ (k : Nat) (s : ByteArray) (x n i r : Int), 0 ≤ x → x < 18446744073709551616 → bloom_Mix.l0 k s x n i = some r → 0 ≤ r ∧ r < 18446744073709551616
  | 0, _, _, _, _, _, _, _, h => by simp [bloom_Mix.l0] at h
  | k + 1, s, x, n, i, r, h0, h1, h => by
    simp only [bloom_Mix.l0] at h
    split at h
    · split at h
      · split at h
        · exact bloom_Mix.l0_range k s _ n _ r (by simp [IntKind.wrap, IntKind.bits, IntKind.signed]; omega) (by simp [IntKind.wrap, IntKind.bits, IntKind.signed]; omega) h
        · cases h
      · cases h
    · obtain rfl : x = r := by simpa using h
      exact ⟨h0, h1⟩
theorem bloom_Mix.range {k : Nat} {s : ByteArray} {r : Int} (h : bloom_Mix.f k s = some r) : 0 ≤ r ∧ r < 18446744073709551616 :=
  bloom_Mix.l0_range k s _ _ _ r (by decide) (by decide) h
theorem bloom_probes.at_eq (h n : Int) (h0 : 0 ≤ h) (n1 : 1 ≤ n) (n2 : n ≤ 9223372036854775807) : bloom_probes.at_ h n = h % n := by
  unfold bloom_probes.at_
  have hw : IntKind.u64.wrap n = n := by simp [IntKind.wrap, IntKind.bits, IntKind.signed]; omega
  have a1 := Int.emod_nonneg h (show n ≠ 0 by omega)
  have a2 := Int.emod_lt_of_pos h (show 0 < n by omega)
  rw [hw, Int.tmod_eq_emod_of_nonneg h0]
  unfold wrap64
  omega
theorem bloom_probes.in_ (h n : Int) (h0 : 0 ≤ h) (n1 : 1 ≤ n) (n2 : n ≤ 9223372036854775807) : ∀ p ∈ bloom_probes.ps h n, 0 ≤ p ∧ p < n := by
  have g : ∀ x, 0 ≤ x → 0 ≤ bloom_probes.at_ x n ∧ bloom_probes.at_ x n < n := fun x hx => by
    rw [bloom_probes.at_eq x n hx n1 n2]
    exact ⟨Int.emod_nonneg x (by omega), Int.emod_lt_of_pos x (by omega)⟩
  have u : ∀ x : Int, 0 ≤ IntKind.u64.wrap x := fun x => by simp [IntKind.wrap, IntKind.bits, IntKind.signed]; omega
  intro p hp
  simp only [bloom_probes.ps, List.mem_cons, List.not_mem_nil, or_false] at hp
  rcases hp with rfl | rfl | rfl | rfl
  · exact g _ h0
  · exact g _ (u _)
  · exact g _ (u _)
  · exact g _ (u _)
end

/-! ### bloom_Make: function 12 -/
def bloom_Make.put (xs : List Int) (p : Int) : List Int := xs.set (p / 8).toNat (Go.bits .or .u8 (rdOf 0 xs (p / 8)) (2 ^ (p % 8).toNat % 256))
def bloom_Make.go (k : Nat) (n : Int) : List ByteArray → List Int → Option (List Int)
  | [], xs => some xs
  | s :: l, xs => (bloom_Mix.f k s).bind fun h => bloom_Make.go k n l ((bloom_probes.ps h n).foldl bloom_Make.put xs)
def bloom_Make.f (k : Nat) (l0 : List ByteArray) : Option (ByteArray × Int) :=
  if (l0.length : Int) > 1000 then some ((⟨#[]⟩ : ByteArray), 4) else (bloom_Make.go k (8 * ((l0.length : Int) + 1)) l0 (List.replicate (l0.length + 1) 0)).bind fun xs => some (strOfNums xs, 0)
theorem bloom_Make.put_len (xs : List Int) (p : Int) : (bloom_Make.put xs p).length = xs.length := by simp [bloom_Make.put]
theorem bloom_Make.info : (Try.prog.info? 5).map (fun i => (i.zero, i.size, i.bytes)) = some (some (.int .u8 0), 1, 1) := by kernel_rfl
theorem bloom_Make.go_mono (k : Nat) (n : Int) : ∀ l xs, LeO (bloom_Make.go k n l xs) (bloom_Make.go (k + 1) n l xs)
  | [], xs => LeO.refl _
  | s :: l, xs => LeO.bind (bloom_Mix.mono _ _) (fun _ => bloom_Make.go_mono k n l _)
theorem bloom_Make.mono : ∀ l k, LeO (bloom_Make.f k l) (bloom_Make.f (k + 1) l) := by
  intro l k
  unfold bloom_Make.f
  exact LeO.ite (LeO.refl _) (LeO.bind (bloom_Make.go_mono _ _ _ _) (fun _ => LeO.refl _))
set_option maxHeartbeats 800000 in
theorem bloom_Make.calls (k : Nat) (A0 : Option Addr) (c0 : Nat) (l0 : List ByteArray) (r1 : ByteArray) (r2 : Int) (w : World) (hr0 : Kd.C Kd.string w A0 l0.length l0) (hc0 : l0.length ≤ c0) (h : bloom_Make.f k l0 = some (r1, r2)) :
    Calls Try.prog 12 #[.slice A0 l0.length c0] w fun e w' => e = .returned (.tuple #[.string r1, .int .i64 r2]) ∧ Below w.heap.size w w' := by
  have HR0 := Aside0.mk hr0
  clear hr0 hc0
  unfold bloom_Make.f at h
  by_cases hm : (l0.length : Int) > 1000
  · rw [if_pos hm] at h
    simp only [Option.some.injEq, Prod.mk.injEq] at h
    obtain ⟨rfl, rfl⟩ := h
    have hd : decide (1000 < (l0.length : Int)) = true := decide_eq_true hm
    go_enter Try.func12, Try.ntmps12
    go_wp2
    go_ret2
    exact ⟨rfl, Below.refl _ _⟩
  · rw [if_neg hm] at h
    have hd : decide (1000 < (l0.length : Int)) = false := decide_eq_false hm
    replace h := Option.bind_eq_some_iff.mp h
    obtain ⟨xf, hg, h⟩ := h
    simp only [Option.some.injEq, Prod.mk.injEq] at h
    obtain ⟨rfl, rfl⟩ := h
    have HG := Lib.hid hg
    clear hg
    have hlen : l0.length ≤ 1000 := by omega
    clear hm
    go_enter Try.func12, Try.ntmps12
    go_wp2_with (first | ((with_reducible refine gate_dst (N := 15) rfl ?_); (refine Kd.R_make (Kd.int .u8) _ 5 rfl (N := 15) rfl 36 _ _ rfl ((l0.length : Int) + 1) rfl rfl Try.underlying36 (.int .u8 0) 1 bloom_Make.info rfl (by decide) (by omega) 0 (ok := fun _ => True) (okp := fun _ => True) rfl (fun _ hk => hk) trivial (by omega) (by omega) (Below.refl _ _) (Nat.le_refl _) ?_); intro v2 w2 ho2 hb2 hg2 hnew2; have HO : Aside0 (Kd.R (Kd.int .u8) 5 w2 w.heap.size (fun _ => True) v2 (List.replicate (l0.length + 1) 0)) := ⟨ho2⟩; have HB : Aside0 (Below w.heap.size w w2) := ⟨hb2⟩; clear ho2 hb2 hg2 hnew2))
    go_loopg [18] l0.length (fun kq v18 w' => ∃ (i : Nat) (xs : List Int), v18 = .int .i64 (i : Int) ∧ Aside0 (kq + i = l0.length) ∧ Aside0 (bloom_Make.go k (8 * ((l0.length : Int) + 1)) (l0.drop i) xs = some xf) ∧ Aside0 (xs.length = l0.length + 1) ∧ Aside0 (Kd.R (Kd.int .u8) 5 w' w.heap.size (fun _ => True) v2 xs) ∧ Aside0 (Below w.heap.size w w'))
    case atStart => exact ⟨0, _, rfl, ⟨by omega⟩, ⟨HG.out⟩, ⟨by simp⟩, HO, HB⟩
    case round =>
      clear HO HB HG
      obtain ⟨i, xs, rfl, HI, HG, HL, HO, HB⟩ := hrel
      by_cases hlt : i < l0.length
      · have hkg : ∃ k1, gk = k1 + 1 := ⟨gk - 1, by have := HI.out; omega⟩
        obtain ⟨k1, rfl⟩ := hkg
        have hdr : l0.drop i = l0[i] :: l0.drop (i + 1) := List.drop_eq_getElem_cons hlt
        have hg := HG.out
        rw [hdr] at hg
        clear hdr HG
        replace hg := Option.bind_eq_some_iff.mp hg
        obtain ⟨hh, hmix, hg⟩ := hg
        have HG := Lib.hid hg
        clear hg
        have HM := Lib.hid hmix
        clear hmix
        obtain ⟨ad, ead, hcell⟩ := Kd.at_string HR0.out (i : Int) (by omega) (by omega)
        subst ead
        have hrd : rdOf ByteArray.empty l0 (i : Int) = l0[i] := by simp [rdOf, hlt]
        rw [hrd] at hcell
        clear hrd
        replace hcell := (HB.out.cell (World.block_lt_of_cell? w _ hcell)).trans hcell
        have htn : ((i : Int)).toNat = i := by omega
        rw [htn] at hcell
        clear htn
        obtain ⟨A2, c2, e2⟩ := Kd.R_slice HO.out
        subst e2
        have hz : ¬ (IntKind.u64.wrap (8 * (xs.length : Int)) = 0) := by rw [bloom_probes.wu]; have := HL.out; omega
        have hle : xs.length ≤ 1001 := by have := HL.out; omega
        go_wp2_with (go_at_call 22; (refine (bloom_probes.any k l0[i] (8 * (xs.length : Int)) hh _ HM.out hz).mono ?_); rintro e w3 ⟨p0, p1, p2, p3, hps, rfl, hb⟩; have HP := Lib.hid hps; clear hps; have HB3 := Aside0.mk hb; clear hb)
        have hbnd := bloom_probes.in_ hh (8 * (xs.length : Int)) (bloom_Mix.range HM.out).1 (by have := HL.out; omega) (by have := HL.out; omega)
        rw [HP.out] at hbnd
        have g0 := hbnd p0 (by simp)
        have g1 := hbnd p1 (by simp)
        have g2 := hbnd p2 (by simp)
        have g3 := hbnd p3 (by simp)
        clear hbnd
        obtain ⟨gb, cc, ef, gge, glt, cells, hcel⟩ := Kd.R_form HO.out (by have := HL.out; omega)
        have ea : A2 = some ⟨gb, 0, none⟩ := by injection ef with h1 h2 h3
        clear ef hcel
        subst ea
        clear cells cc
        have HO0 := Aside0.mk (Kd.R_below HO.out HB3.out)
        have HBB := Aside0.mk (below_step HB.out HB3.out)
        have GG := Aside0.mk gge
        clear HO HB HB3 gge glt
        refine wp_loop_rounds 5 ?_
        rw [rounds_succ]
        have i0 : ∀ W, (Instr.index 42 (.agg #[.int .i64 p0, .int .i64 p1, .int .i64 p2, .int .i64 p3]) (.int .i64 0)).run Try.prog W = .ok (.int .i64 p0) W := fun _ => by kernel_rfl
        have q0 : 0 ≤ p0 / 8 := by omega
        have t0 : p0 / 8 < (xs.length : Int) := by omega
        obtain ⟨hc0, hf0⟩ := Kd.R_celln 0 HO0.out (p0 / 8) q0 (by omega)
        have HP0 := Lib.hid (Kd.R_putg HO0.out (p0 / 8) (Go.bits .or .u8 (rdOf 0 xs (p0 / 8)) (2 ^ (p0 % 8).toNat % 256))).1
        go_wp2
        go_region
        obtain ⟨xs1, hx1⟩ : ∃ y, bloom_Make.put xs p0 = y := ⟨_, rfl⟩
        have HX1 := Lib.hid hx1
        have HO1 : Aside0 (Kd.R (Kd.int .u8) 5 (w3.setCell ⟨gb, (p0 / 8).toNat, none⟩ (.int .u8 (Go.bits .or .u8 (rdOf 0 xs (p0 / 8)) (2 ^ (p0 % 8).toNat % 256)))).drew w.heap.size (fun _ => True) (.slice (some ⟨gb, 0, none⟩) xs.length c2) xs1) := ⟨hx1 ▸ Kd.R_drew HP0.out⟩
        have HB1 : Aside0 (Below w.heap.size w (w3.setCell ⟨gb, (p0 / 8).toNat, none⟩ (.int .u8 (Go.bits .or .u8 (rdOf 0 xs (p0 / 8)) (2 ^ (p0 % 8).toNat % 256)))).drew) := ⟨below_drew1 (below_set HBB.out GG.out)⟩
        clear hx1 HP0 HO0 hc0 hf0 HBB i0 q0 t0
        have HBB := HB1
        clear HB1
        generalize (w3.setCell ⟨gb, (p0 / 8).toNat, none⟩ (.int .u8 (Go.bits .or .u8 (rdOf 0 xs (p0 / 8)) (2 ^ (p0 % 8).toNat % 256)))).drew = y1 at HO1 HBB ⊢
        go_wp2
        rw [rounds_succ]
        have i1 : ∀ W, (Instr.index 42 (.agg #[.int .i64 p0, .int .i64 p1, .int .i64 p2, .int .i64 p3]) (.int .i64 1)).run Try.prog W = .ok (.int .i64 p1) W := fun _ => by kernel_rfl
        have q1 : 0 ≤ p1 / 8 := by omega
        have t1 : p1 / 8 < (xs.length : Int) := by omega
        obtain ⟨hc1, hf1⟩ := Kd.R_celln 0 HO1.out (p1 / 8) q1 (by omega)
        have HP1 := Lib.hid (Kd.R_putg HO1.out (p1 / 8) (Go.bits .or .u8 (rdOf 0 xs1 (p1 / 8)) (2 ^ (p1 % 8).toNat % 256))).1
        go_wp2
        go_region
        obtain ⟨xs2, hx2⟩ : ∃ y, bloom_Make.put xs1 p1 = y := ⟨_, rfl⟩
        have HX2 := Lib.hid hx2
        have HO2 : Aside0 (Kd.R (Kd.int .u8) 5 (y1.setCell ⟨gb, (p1 / 8).toNat, none⟩ (.int .u8 (Go.bits .or .u8 (rdOf 0 xs1 (p1 / 8)) (2 ^ (p1 % 8).toNat % 256)))).drew w.heap.size (fun _ => True) (.slice (some ⟨gb, 0, none⟩) xs.length c2) xs2) := ⟨hx2 ▸ Kd.R_drew HP1.out⟩
        have HB2 : Aside0 (Below w.heap.size w (y1.setCell ⟨gb, (p1 / 8).toNat, none⟩ (.int .u8 (Go.bits .or .u8 (rdOf 0 xs1 (p1 / 8)) (2 ^ (p1 % 8).toNat % 256)))).drew) := ⟨below_drew1 (below_set HBB.out GG.out)⟩
        clear hx2 HP1 HO1 hc1 hf1 HBB i1 q1 t1
        have HBB := HB2
        clear HB2
        generalize (y1.setCell ⟨gb, (p1 / 8).toNat, none⟩ (.int .u8 (Go.bits .or .u8 (rdOf 0 xs1 (p1 / 8)) (2 ^ (p1 % 8).toNat % 256)))).drew = y2 at HO2 HBB ⊢
        go_wp2
        rw [rounds_succ]
        have i2 : ∀ W, (Instr.index 42 (.agg #[.int .i64 p0, .int .i64 p1, .int .i64 p2, .int .i64 p3]) (.int .i64 2)).run Try.prog W = .ok (.int .i64 p2) W := fun _ => by kernel_rfl
        have q2 : 0 ≤ p2 / 8 := by omega
        have t2 : p2 / 8 < (xs.length : Int) := by omega
        obtain ⟨hc2, hf2⟩ := Kd.R_celln 0 HO2.out (p2 / 8) q2 (by omega)
        have HP2 := Lib.hid (Kd.R_putg HO2.out (p2 / 8) (Go.bits .or .u8 (rdOf 0 xs2 (p2 / 8)) (2 ^ (p2 % 8).toNat % 256))).1
        go_wp2
        go_region
        obtain ⟨xs3, hx3⟩ : ∃ y, bloom_Make.put xs2 p2 = y := ⟨_, rfl⟩
        have HX3 := Lib.hid hx3
        have HO3 : Aside0 (Kd.R (Kd.int .u8) 5 (y2.setCell ⟨gb, (p2 / 8).toNat, none⟩ (.int .u8 (Go.bits .or .u8 (rdOf 0 xs2 (p2 / 8)) (2 ^ (p2 % 8).toNat % 256)))).drew w.heap.size (fun _ => True) (.slice (some ⟨gb, 0, none⟩) xs.length c2) xs3) := ⟨hx3 ▸ Kd.R_drew HP2.out⟩
        have HB3 : Aside0 (Below w.heap.size w (y2.setCell ⟨gb, (p2 / 8).toNat, none⟩ (.int .u8 (Go.bits .or .u8 (rdOf 0 xs2 (p2 / 8)) (2 ^ (p2 % 8).toNat % 256)))).drew) := ⟨below_drew1 (below_set HBB.out GG.out)⟩
        clear hx3 HP2 HO2 hc2 hf2 HBB i2 q2 t2
        have HBB := HB3
        clear HB3
        generalize (y2.setCell ⟨gb, (p2 / 8).toNat, none⟩ (.int .u8 (Go.bits .or .u8 (rdOf 0 xs2 (p2 / 8)) (2 ^ (p2 % 8).toNat % 256)))).drew = y3 at HO3 HBB ⊢
        go_wp2
        rw [rounds_succ]
        have i3 : ∀ W, (Instr.index 42 (.agg #[.int .i64 p0, .int .i64 p1, .int .i64 p2, .int .i64 p3]) (.int .i64 3)).run Try.prog W = .ok (.int .i64 p3) W := fun _ => by kernel_rfl
        have q3 : 0 ≤ p3 / 8 := by omega
        have t3 : p3 / 8 < (xs.length : Int) := by omega
        obtain ⟨hc3, hf3⟩ := Kd.R_celln 0 HO3.out (p3 / 8) q3 (by omega)
        have HP3 := Lib.hid (Kd.R_putg HO3.out (p3 / 8) (Go.bits .or .u8 (rdOf 0 xs3 (p3 / 8)) (2 ^ (p3 % 8).toNat % 256))).1
        go_wp2
        go_region
        obtain ⟨xs4, hx4⟩ : ∃ y, bloom_Make.put xs3 p3 = y := ⟨_, rfl⟩
        have HX4 := Lib.hid hx4
        have HO4 : Aside0 (Kd.R (Kd.int .u8) 5 (y3.setCell ⟨gb, (p3 / 8).toNat, none⟩ (.int .u8 (Go.bits .or .u8 (rdOf 0 xs3 (p3 / 8)) (2 ^ (p3 % 8).toNat % 256)))).drew w.heap.size (fun _ => True) (.slice (some ⟨gb, 0, none⟩) xs.length c2) xs4) := ⟨hx4 ▸ Kd.R_drew HP3.out⟩
        have HB4 : Aside0 (Below w.heap.size w (y3.setCell ⟨gb, (p3 / 8).toNat, none⟩ (.int .u8 (Go.bits .or .u8 (rdOf 0 xs3 (p3 / 8)) (2 ^ (p3 % 8).toNat % 256)))).drew) := ⟨below_drew1 (below_set HBB.out GG.out)⟩
        clear hx4 HP3 HO3 hc3 hf3 HBB i3 q3 t3
        have HBB := HB4
        clear HB4
        generalize (y3.setCell ⟨gb, (p3 / 8).toNat, none⟩ (.int .u8 (Go.bits .or .u8 (rdOf 0 xs3 (p3 / 8)) (2 ^ (p3 % 8).toNat % 256)))).drew = y4 at HO4 HBB ⊢
        go_wp2
        rw [rounds_succ]
        go_wp2
        have HGG : Aside0 (bloom_Make.go k (8 * ((l0.length : Int) + 1)) (l0.drop (i + 1)) xs4 = some xf) := by
          have := HG.out
          rw [show (8 * ((l0.length : Int) + 1)) = 8 * (xs.length : Int) by have := HL.out; omega] at this ⊢
          rw [HP.out] at this
          simp only [List.foldl_cons, List.foldl_nil, HX1.out, HX2.out, HX3.out, HX4.out] at this
          exact ⟨this⟩
        have HLL : Aside0 (xs4.length = l0.length + 1) := ⟨(Kd.R_reads' HO4.out).1.symm.trans HL.out⟩
        go_roundg k1
        case measure => omega
        case rel => exact ⟨i + 1, xs4, by go_num, ⟨by have := HI.out; omega⟩, HGG, HLL, HO4, HBB⟩
      · have hi : i = l0.length := by have := HI.out; omega
        have hge : decide ((i : Int) < (l0.length : Int)) = false := decide_eq_false (by omega)
        have hx : xs = xf := by
          have := HG.out
          rw [List.drop_eq_nil_of_le (by omega)] at this
          simpa [bloom_Make.go] using this
        subst hx
        have hcv := own_string (P := Try.prog) (w := wr) Try.underlying36 Try.underlying5 Try.underlying9 (Kd.own_of_R HO.out)
        clear hi HG
        go_wp2
        go_ret2
        exact ⟨rfl, HB.out⟩

/-! ### bloom_May: function 16 -/
def bloom_May.bit (s : ByteArray) (p : Int) : Int := Go.bits .and .u8 (bt s (p / 8) / 2 ^ (p % 8).toNat) 1
set_option maxHeartbeats 800000 in
theorem bloom_May.calls1 (k : Nat) (a0 a1 : ByteArray) (hh : Int) (w : World) (h : bloom_Mix.f k a1 = some hh) (h0 : a0.size ≤ 140737488351232) (h1 : 1 ≤ a0.size) :
    Calls Try.prog 16 #[.string a0, .string a1] w fun e w' => e = .returned (.bool ((bloom_probes.ps hh (8 * (a0.size : Int))).all fun p => bloom_May.bit a0 p != 0)) ∧ Below w.heap.size w w' := by
  have hz : ¬ (IntKind.u64.wrap (8 * (a0.size : Int)) = 0) := by rw [bloom_probes.wu]; omega
  have hne : (a0.toList == []) = false := by
    rw [beq_eq_false_iff_ne, ByteArray.toList_eq]; intro e
    have := congrArg List.length e; rw [Array.length_toList] at this
    have h2 : a0.data.size = a0.size := rfl
    rw [h2, List.length_nil] at this; omega
  have hin := Aside0.mk (bloom_probes.in_ hh (8 * (a0.size : Int)) (bloom_Mix.range h).1 (by omega) (by omega))
  go_enter Try.func16, Try.ntmps16
  go_wp2_with (go_at_call 22; refine (bloom_probes.any k a1 (8 * (a0.size : Int)) hh _ h hz).mono ?_; rintro e w1 ⟨p0, p1, p2, p3, hps, rfl, hb⟩; have HP := Lib.hid hps; clear hps; have HB := Aside0.mk hb; clear hb)
  have hb_ := hin.out
  rw [HP.out] at hb_
  have g0 := hb_ p0 (by simp)
  have g1 := hb_ p1 (by simp)
  have g2 := hb_ p2 (by simp)
  have g3 := hb_ p3 (by simp)
  clear hb_
  have q0 : 0 ≤ p0 / 8 ∧ p0 / 8 < (a0.size : Int) := by omega
  have hx0 := bt_at a0 (p0 / 8)
  obtain ⟨b0, e0⟩ : ∃ b, Go.bits .and .u8 (bt a0 (p0 / 8) / 2 ^ (p0 % 8).toNat) 1 = b := ⟨_, rfl⟩
  have f0 : Hid (bloom_May.bit a0 p0 = b0) := e0
  have i0 : ∀ W, (Instr.index 42 (.agg #[.int .i64 p0, .int .i64 p1, .int .i64 p2, .int .i64 p3]) (.int .i64 0)).run Try.prog W = .ok (.int .i64 p0) W := fun _ => by kernel_rfl
  have q1 : 0 ≤ p1 / 8 ∧ p1 / 8 < (a0.size : Int) := by omega
  have hx1 := bt_at a0 (p1 / 8)
  obtain ⟨b1, e1⟩ : ∃ b, Go.bits .and .u8 (bt a0 (p1 / 8) / 2 ^ (p1 % 8).toNat) 1 = b := ⟨_, rfl⟩
  have f1 : Hid (bloom_May.bit a0 p1 = b1) := e1
  have i1 : ∀ W, (Instr.index 42 (.agg #[.int .i64 p0, .int .i64 p1, .int .i64 p2, .int .i64 p3]) (.int .i64 1)).run Try.prog W = .ok (.int .i64 p1) W := fun _ => by kernel_rfl
  have q2 : 0 ≤ p2 / 8 ∧ p2 / 8 < (a0.size : Int) := by omega
  have hx2 := bt_at a0 (p2 / 8)
  obtain ⟨b2, e2⟩ : ∃ b, Go.bits .and .u8 (bt a0 (p2 / 8) / 2 ^ (p2 % 8).toNat) 1 = b := ⟨_, rfl⟩
  have f2 : Hid (bloom_May.bit a0 p2 = b2) := e2
  have i2 : ∀ W, (Instr.index 42 (.agg #[.int .i64 p0, .int .i64 p1, .int .i64 p2, .int .i64 p3]) (.int .i64 2)).run Try.prog W = .ok (.int .i64 p2) W := fun _ => by kernel_rfl
  have q3 : 0 ≤ p3 / 8 ∧ p3 / 8 < (a0.size : Int) := by omega
  have hx3 := bt_at a0 (p3 / 8)
  obtain ⟨b3, e3⟩ : ∃ b, Go.bits .and .u8 (bt a0 (p3 / 8) / 2 ^ (p3 % 8).toNat) 1 = b := ⟨_, rfl⟩
  have f3 : Hid (bloom_May.bit a0 p3 = b3) := e3
  have i3 : ∀ W, (Instr.index 42 (.agg #[.int .i64 p0, .int .i64 p1, .int .i64 p2, .int .i64 p3]) (.int .i64 3)).run Try.prog W = .ok (.int .i64 p3) W := fun _ => by kernel_rfl
  refine wp_loop_rounds 5 ?_
  rw [rounds_succ]
  by_cases c0 : b0 = 0
  · have C0 := Lib.hid c0
    have c0' : (b0 == 0) = true := by simp [c0]
    clear c0
    go_wp2
    go_ret
    refine ⟨?_, HB.out⟩
    rw [HP.out]; simp [f0.out, f1.out, f2.out, f3.out, C0.out]
  · have C0 := Lib.hid c0
    have c0' : (b0 == 0) = false := by simp [c0]
    clear c0
    go_wp2
    rw [rounds_succ]
    by_cases c1 : b1 = 0
    · have C1 := Lib.hid c1
      have c1' : (b1 == 0) = true := by simp [c1]
      clear c1
      go_wp2
      go_ret
      refine ⟨?_, HB.out⟩
      rw [HP.out]; simp [f0.out, f1.out, f2.out, f3.out, C0.out, C1.out]
    · have C1 := Lib.hid c1
      have c1' : (b1 == 0) = false := by simp [c1]
      clear c1
      go_wp2
      rw [rounds_succ]
      by_cases c2 : b2 = 0
      · have C2 := Lib.hid c2
        have c2' : (b2 == 0) = true := by simp [c2]
        clear c2
        go_wp2
        go_ret
        refine ⟨?_, HB.out⟩
        rw [HP.out]; simp [f0.out, f1.out, f2.out, f3.out, C0.out, C1.out, C2.out]
      · have C2 := Lib.hid c2
        have c2' : (b2 == 0) = false := by simp [c2]
        clear c2
        go_wp2
        rw [rounds_succ]
        by_cases c3 : b3 = 0
        · have C3 := Lib.hid c3
          have c3' : (b3 == 0) = true := by simp [c3]
          clear c3
          go_wp2
          go_ret
          refine ⟨?_, HB.out⟩
          rw [HP.out]; simp [f0.out, f1.out, f2.out, f3.out, C0.out, C1.out, C2.out, C3.out]
        · have C3 := Lib.hid c3
          have c3' : (b3 == 0) = false := by simp [c3]
          clear c3
          go_wp2
          rw [rounds_succ]; go_wp2
          go_ret
          refine ⟨?_, HB.out⟩
          rw [HP.out]; simp [f0.out, f1.out, f2.out, f3.out, C0.out, C1.out, C2.out, C3.out]
def bloom_May.f (k : Nat) (a0 a1 : ByteArray) : Option Bool :=
  if a0.size = 0 then some true else if a0.size ≤ 140737488351232 then (bloom_Mix.f k a1).bind fun h => some ((bloom_probes.ps h (8 * (a0.size : Int))).all fun p => bloom_May.bit a0 p != 0) else none
theorem bloom_May.mono : ∀ a0 a1 k, LeO (bloom_May.f k a0 a1) (bloom_May.f (k + 1) a0 a1) := by
  intro a0 a1 k
  unfold bloom_May.f
  exact LeO.ite (LeO.refl _) (LeO.ite (LeO.bind (bloom_Mix.mono _ _) (fun _ => LeO.refl _)) (LeO.refl _))
set_option maxHeartbeats 400000 in
theorem bloom_May.calls (k : Nat) (a0 a1 : ByteArray) (r : Bool) (w : World) (h : bloom_May.f k a0 a1 = some r) :
    Calls Try.prog 16 #[.string a0, .string a1] w fun e w' => e = .returned (.bool r) ∧ Below w.heap.size w w' := by
  unfold bloom_May.f at h
  by_cases h1 : a0.size = 0
  · rw [if_pos h1] at h
    obtain rfl := Option.some.inj h
    clear h
    have he : (a0.toList == []) = true := by
      rw [beq_iff_eq, ByteArray.toList_eq]
      apply List.eq_nil_of_length_eq_zero
      rw [Array.length_toList]; exact h1
    clear h1
    go_enter Try.func16, Try.ntmps16
    go_wp2
    go_ret
    exact ⟨rfl, Below.refl _ _⟩
  · rw [if_neg h1] at h
    by_cases h2 : a0.size ≤ 140737488351232
    · rw [if_pos h2] at h
      replace h := Option.bind_eq_some_iff.mp h
      obtain ⟨hh, hm, h⟩ := h
      obtain rfl := Option.some.inj h
      exact bloom_May.calls1 k a0 a1 hh w hm h2 (by omega)
    · rw [if_neg h2] at h
      cases h

/-! ### bloom_Full: function 18 -/
mutual
def bloom_Full.l0 : Nat → ByteArray → Int → Int → Int → Option (Int)
  | 0, _, _, _, _ => none
  | k + 1, x0, x3, x7, x8 => if x8 < x7 then (if 0 ≤ x8 then (if x8 < (x0.size : Int) then (bloom_Full.l1 k x0 x3 (bt x0 x8) x7 x8) else (none)) else (none)) else (some x3)
def bloom_Full.l1 : Nat → ByteArray → Int → Int → Int → Int → Option (Int)
  | 0, _, _, _, _, _ => none
  | k + 1, x0, x3, x5, x7, x8 => if x5 = 0 then (bloom_Full.l0 k x0 x3 x7 (wrap64 (x8 + 1))) else (bloom_Full.l1 k x0 (wrap64 (x3 + 1)) (Go.bits .and .u8 x5 ((x5 - 1) % 256)) x7 x8)
end
def bloom_Full.f (k : Nat) (a0 : ByteArray) : Option (Int) := bloom_Full.l0 k a0 0 (a0.size : Int) 0
theorem bloom_Full.mono_l : ∀ k, (∀ y0 y1 y2 y3, LeO (bloom_Full.l0 k y0 y1 y2 y3) (bloom_Full.l0 (k + 1) y0 y1 y2 y3)) ∧ (∀ y0 y1 y2 y3 y4, LeO (bloom_Full.l1 k y0 y1 y2 y3 y4) (bloom_Full.l1 (k + 1) y0 y1 y2 y3 y4))
  | 0 => ⟨fun _ _ _ _ r h => by simp [bloom_Full.l0] at h, fun _ _ _ _ _ r h => by simp [bloom_Full.l1] at h⟩
  | k + 1 => by
    obtain ⟨ih0, ih1⟩ := bloom_Full.mono_l k
    refine ⟨?_, ?_⟩
    · intro y0 y1 y2 y3
      unfold bloom_Full.l0
      repeat' first
      | (with_reducible exact ih0 _ _ _ _)
      | (with_reducible exact ih1 _ _ _ _ _)
      | (with_reducible exact LeO.refl _)
      | (with_reducible exact LeO.none _)
      | (with_reducible refine LeO.ite ?_ ?_)
      | (with_reducible refine LeO.bind ?_ (fun _ => ?_))
      | exact ih0 _ _ _ _
      | exact ih1 _ _ _ _ _
      | exact LeO.none _
      | refine LeO.ite ?_ ?_
      | refine LeO.bind ?_ (fun _ => ?_)
    · intro y0 y1 y2 y3 y4
      unfold bloom_Full.l1
      repeat' first
      | (with_reducible exact ih0 _ _ _ _)
      | (with_reducible exact ih1 _ _ _ _ _)
      | (with_reducible exact LeO.refl _)
      | (with_reducible exact LeO.none _)
      | (with_reducible refine LeO.ite ?_ ?_)
      | (with_reducible refine LeO.bind ?_ (fun _ => ?_))
      | exact ih0 _ _ _ _
      | exact ih1 _ _ _ _ _
      | exact LeO.none _
      | refine LeO.ite ?_ ?_
      | refine LeO.bind ?_ (fun _ => ?_)
theorem bloom_Full.mono : ∀ a0 k, LeO (bloom_Full.f k a0) (bloom_Full.f (k + 1) a0) := by
  intro a0 k
  obtain ⟨ih0, ih1⟩ := bloom_Full.mono_l k
  unfold bloom_Full.f
  repeat' first
      | (with_reducible exact ih0 _ _ _ _)
      | (with_reducible exact ih1 _ _ _ _ _)
      | (with_reducible exact LeO.refl _)
      | (with_reducible exact LeO.none _)
      | (with_reducible refine LeO.ite ?_ ?_)
      | (with_reducible refine LeO.bind ?_ (fun _ => ?_))
      | exact ih0 _ _ _ _
      | exact ih1 _ _ _ _ _
      | exact LeO.none _
      | refine LeO.ite ?_ ?_
      | refine LeO.bind ?_ (fun _ => ?_)
set_option maxHeartbeats 8000000 in
set_option maxRecDepth 100000 in
theorem bloom_Full.calls (k : Nat) (a0 : ByteArray) (r : Int) (w : World) (h : bloom_Full.f k a0 = some r) :
    Calls Try.prog 18 #[.string a0] w fun e w' => e = .returned (.int .i64 r) ∧ Drawn0 w w' := by
  have H : (bloom_Full.l0 k a0 0 (a0.size : Int) 0) = some r := h
  clear h
  have H' := Aside0.mk H
  clear H
  go_enter Try.func18, Try.ntmps18
  go_wp2
  go_loopg [3, 8] k (fun kq v3 v8 w' => ∃ (x3_1 : Int) (x8_1 : Int), v3 = .int .i64 x3_1 ∧ v8 = .int .i64 x8_1 ∧ Aside0 (bloom_Full.l0 kq a0 x3_1 (a0.size : Int) x8_1 = some r) ∧ Aside0 (kq ≤ k) ∧ Drawn0 w w')
  case atStart => exact ⟨(0), (0), (by first | rfl | (simp; done) | (simp [*]; done)), (by first | rfl | (simp; done) | (simp [*]; done)), H', ⟨Nat.le_refl _⟩, by repeat (first | exact Drawn0.refl _ | apply Drawn0.step)⟩
  case round =>
    clear H'
    try clear c1
    obtain ⟨x3_1, x8_1, rfl, rfl, HA, HK1, ⟨m1, rfl⟩⟩ := hrel
    cases gk with
    | zero => exact absurd HA.out (by simp [bloom_Full.l0])
    | succ k1 =>
      have H := HA.out
      clear HA
      simp only [bloom_Full.l0] at H
      by_cases c2 : x8_1 < (a0.size : Int)
      · rw [if_pos c2] at H
        have c2b0 : decide (x8_1 < (a0.size : Int)) = true := decide_eq_true c2
        clear c2
        by_cases c3 : 0 ≤ x8_1
        · rw [if_pos c3] at H
          have c3b0 : decide (0 ≤ x8_1) = true := decide_eq_true c3
          clear c3
          by_cases c4 : x8_1 < (a0.size : Int)
          · rw [if_pos c4] at H
            have c4b0 : decide (x8_1 < (a0.size : Int)) = true := decide_eq_true c4
            clear c4
            have H' := Aside0.mk H
            clear H
            have p5 : 0 ≤ (x8_1 : Int) := of_decide_eq_true (by first | (with_reducible assumption) | assumption)
            have q5 : x8_1 < (a0.size : Int) := of_decide_eq_true (by first | (with_reducible assumption) | assumption)
            have hx5 := bt_at a0 x8_1
            replace p5 := eq_true p5
            replace q5 := eq_true q5
            go_wp2
            go_loopg [3, 5] k1 (fun kq v3 v5 w' => ∃ (x3_2 : Int) (x5_2 : Int), v3 = .int .i64 x3_2 ∧ v5 = .int .u8 x5_2 ∧ Aside0 (bloom_Full.l1 kq a0 x3_2 x5_2 (a0.size : Int) x8_1 = some r) ∧ Aside0 (kq ≤ k1) ∧ Drawn0 w w')
            case atStart => exact ⟨(x3_1), (bt a0 x8_1), (by first | rfl | (simp; done) | (simp [*]; done)), (by first | rfl | (simp; done) | (simp [*]; done)), H', ⟨Nat.le_refl _⟩, by repeat (first | exact Drawn0.refl _ | apply Drawn0.step)⟩
            case round =>
              clear H'
              try clear c1
              try clear c2
              try clear c2b0
              try clear p2
              try clear c3
              try clear c3b0
              try clear c4
              try clear c4b0
              try clear p5
              try clear q5
              try clear hx5
              try clear p5
              try clear q5
              obtain ⟨x3_2, x5_2, rfl, rfl, HA, HK2, ⟨m2, rfl⟩⟩ := hrel
              cases gk with
              | zero => exact absurd HA.out (by simp [bloom_Full.l1])
              | succ k2 =>
                have H := HA.out
                clear HA
                simp only [bloom_Full.l1] at H
                by_cases c6 : x5_2 = 0
                · rw [if_pos c6] at H
                  have c6b0 : (x5_2 == 0) = true := beq_iff_eq.mpr c6
                  have c6b1 : (x5_2 != 0) = false := bne_eq_false_iff_eq.mpr c6
                  clear c6
                  have H' := Aside0.mk H
                  clear H
                  go_wp2
                  go_roundg k2
                  case measure => have := HK1.out; have := HK2.out; omega
                  case rel => exact ⟨(x3_2), (wrap64 (x8_1 + 1)), (by first | rfl | (simp; done) | (simp [*]; done)), (by first | rfl | (simp; done) | (simp [*]; done)), (by first | (with_reducible exact H') | exact H' | (subst_vars; exact H')), ⟨by have := HK1.out; have := HK2.out; omega⟩, by repeat (first | exact Drawn0.refl _ | apply Drawn0.step)⟩
                · rw [if_neg c6] at H
                  have c6b0 : (x5_2 == 0) = false := beq_eq_false_iff_ne.mpr c6
                  have c6b1 : (x5_2 != 0) = true := bne_iff_ne.mpr c6
                  have H' := Aside0.mk H
                  clear H
                  go_wp2
                  go_roundg k2
                  case measure => have := HK1.out; have := HK2.out; omega
                  case rel => exact ⟨(wrap64 (x3_2 + 1)), (Go.bits .and .u8 x5_2 ((x5_2 - 1) % 256)), (by first | rfl | (simp; done) | (simp [*]; done)), (by first | rfl | (simp; done) | (simp [*]; done)), (by first | (with_reducible exact H') | exact H' | (subst_vars; exact H')), ⟨by have := HK1.out; have := HK2.out; omega⟩, by repeat (first | exact Drawn0.refl _ | apply Drawn0.step)⟩
          · rw [if_neg c4] at H
            exact absurd H (by simp)
        · rw [if_neg c3] at H
          exact absurd H (by simp)
      · rw [if_neg c2] at H
        have c2b0 : decide (x8_1 < (a0.size : Int)) = false := decide_eq_false c2
        clear c2
        obtain rfl := Option.some.inj H
        go_wp2
        go_ret
        exact ⟨by first | rfl | (simp; done) | (simp [*]; done), by repeat (first | exact Drawn0.refl _ | apply Drawn0.step)⟩

/-! ### bloom_Bits: function 20 -/
theorem bloom_Bits.info : (Try.prog.info? 3).map (fun i => (i.zero, i.size, i.bytes)) = some (some (.int .i64 0), 1, 8) := by kernel_rfl
theorem bloom_Bits.cells4 (W : World) (p0 p1 p2 p3 : Int) (w' : World) (hb : Below (W.heap.size + 1) (W.alloc (.cells #[.int .i64 p0, .int .i64 p1, .int .i64 p2, .int .i64 p3] 42)) w') :
    Kd.C (Kd.int .i64) w' (some ⟨W.heap.size, 0, none⟩) 4 [p0, p1, p2, p3] := by
  refine Kd.C_of_reads (d := (0 : Int)) (h1 := fun _ => rfl) ⟨rfl, by decide, fun _ => ⟨_, rfl, fun j hj => ?_⟩⟩
  have hc : ∀ i, w'.cell? ⟨W.heap.size, i, none⟩ = (W.alloc (.cells #[.int .i64 p0, .int .i64 p1, .int .i64 p2, .int .i64 p3] 42)).cell? ⟨W.heap.size, i, none⟩ := fun i => hb.cell (p := ⟨W.heap.size, i, none⟩) (by simp)
  rw [add_plain, hc]
  have h : j = 0 ∨ j = 1 ∨ j = 2 ∨ j = 3 := by omega
  rcases h with rfl | rfl | rfl | rfl <;> (go_simp; try rfl)
set_option maxHeartbeats 400000 in
theorem bloom_Bits.calls1 (k : Nat) (a0 : ByteArray) (a1 : Int) (hh : Int) (w : World) (h : bloom_Mix.f k a0 = some hh) (h1 : 1 ≤ a1) (h2 : a1 ≤ 9223372036854775807) :
    Calls Try.prog 20 #[.string a0, .int .i64 a1] w fun e w' => ∃ v0_ : Value, e = .returned (v0_) ∧ Kd.R (Kd.int .i64) 3 w' w.heap.size (fun _ => True) v0_ (bloom_probes.ps hh a1) ∧ Below w.heap.size w w' := by
  have hz : ¬ (IntKind.u64.wrap a1 = 0) := by simp [IntKind.wrap, IntKind.bits, IntKind.signed]; omega
  go_enter Try.func20, Try.ntmps20
  go_wp2_with fail
  refine (bloom_probes.any k a0 a1 hh _ h hz).mono ?_
  rintro e w1 ⟨p0, p1, p2, p3, hps, rfl, hb⟩
  have HP := Lib.hid hps
  clear hps
  have HB := Aside0.mk hb
  clear hb
  go_wp2_with (first | ((with_reducible refine gate_dst (N := 12) rfl ?_); (refine Kd.R_make (Kd.int .i64) _ 3 rfl (N := 12) rfl 32 _ _ rfl 4 rfl rfl Try.underlying32 (.int .i64 0) 8 bloom_Bits.info rfl (by decide) (by omega) 0 (ok := fun _ => True) (okp := fun _ => True) rfl (fun _ hk => hk) trivial (by omega) (by omega) (Below.refl _ _) (Nat.le_refl _) ?_); intro v2 w2 ho2 hb2 hg2 hnew2; have HO : Aside0 (Kd.R (Kd.int .i64) 3 w2 (w1.heap.size + 1) (fun _ => True) v2 [0, 0, 0, 0]) := ⟨by simpa using ho2⟩; have HB2 : Aside0 (Below (w1.heap.size + 1) (w1.alloc (.cells #[.int .i64 p0, .int .i64 p1, .int .i64 p2, .int .i64 p3] 42)) w2) := ⟨by simpa using hb2⟩; clear ho2 hb2 hg2 hnew2) | ((with_reducible refine gate_dst (N := 15) rfl ?_); (refine Kd.R_copy (enc := Value.int .i64) (h1 := fun _ => rfl) (0 : Int) (w1.heap.size + 1) rfl (.tmp 13) (.tmp 14) 32 32 3 rfl Try.underlying32 (by kernel_rfl) v2 [0, 0, 0, 0] [p0, p1, p2, p3] (some ⟨w1.heap.size, 0, none⟩) 4 4 (fun _ => True) rfl rfl HO.out (bloom_Bits.cells4 w1 p0 p1 p2 p3 w2 HB2.out) (Below.refl _ _) (by have := HB2.out.size; simpa using this) ?_); intro w3 ho3 hb3 _; have HO3 := Aside0.mk ho3; have HB3 := Aside0.mk hb3; clear ho3 hb3))
  go_ret
  have hs := HB.out.size
  have HO4 : Kd.R (Kd.int .i64) 3 w3 (w1.heap.size + 1) (fun _ => True) v2 [p0, p1, p2, p3] := HO3.out
  exact ⟨v2, rfl, by rw [HP.out]; exact Kd.R_lower HO4 (by omega), ((below_alloc HB.out _).trans (HB2.out.mono (by omega))).trans (HB3.out.mono (by omega))⟩
def bloom_Bits.f (k : Nat) (a0 : ByteArray) (a1 : Int) : Option (List Int) :=
  if a1 < 1 then some [] else if a1 ≤ 9223372036854775807 then (bloom_Mix.f k a0).bind fun h => some (bloom_probes.ps h a1) else none
theorem bloom_Bits.mono : ∀ a0 a1 k, LeO (bloom_Bits.f k a0 a1) (bloom_Bits.f (k + 1) a0 a1) := by
  intro a0 a1 k
  unfold bloom_Bits.f
  exact LeO.ite (LeO.refl _) (LeO.ite (LeO.bind (bloom_Mix.mono _ _) (fun _ => LeO.refl _)) (LeO.refl _))
set_option maxHeartbeats 400000 in
theorem bloom_Bits.calls (k : Nat) (a0 : ByteArray) (a1 : Int) (r : List Int) (w : World) (h : bloom_Bits.f k a0 a1 = some r) :
    Calls Try.prog 20 #[.string a0, .int .i64 a1] w fun e w' => ∃ v0_ : Value, e = .returned (v0_) ∧ Kd.R (Kd.int .i64) 3 w' w.heap.size (fun _ => True) v0_ r ∧ Below w.heap.size w w' := by
  unfold bloom_Bits.f at h
  by_cases h1 : a1 < 1
  · rw [if_pos h1] at h
    obtain rfl := Option.some.inj h
    clear h
    go_enter Try.func20, Try.ntmps20
    go_wp2
    go_ret
    exact ⟨_, rfl, Kd.R_nil _ _ _ _ _, Below.refl _ _⟩
  · rw [if_neg h1] at h
    by_cases h2 : a1 ≤ 9223372036854775807
    · rw [if_pos h2] at h
      replace h := Option.bind_eq_some_iff.mp h
      obtain ⟨hh, hm, h⟩ := h
      obtain rfl := Option.some.inj h
      exact bloom_Bits.calls1 k a0 a1 hh w hm (by omega) h2
    · rw [if_neg h2] at h
      cases h

/-! ### screelaw10_awake: function 10 -/
def screelaw10_awake.f (k : Nat)  : Option (Bool) := (bloom_Make.f k (([(⟨#[97]⟩ : ByteArray), (⟨#[98]⟩ : ByteArray)] : List ByteArray))).bind fun bt104 => ((bloom_Make.f k ([] : List ByteArray)).bind fun bt106 => (if 1001 ≤ 17592186044416 then ((bloom_Make.f k (List.replicate 1001 (⟨#[]⟩ : ByteArray))).bind fun bt111 => ((bloom_Mix.f k (⟨#[]⟩ : ByteArray)).bind fun t113 => (if t113 = 14695981039346656037 then ((bloom_Mix.f k (⟨#[97]⟩ : ByteArray)).bind fun t114 => (if t114 = 12638187200555641996 then (if (bt104.1.size : Int) = 3 then (if bt104.2 = 0 then ((bloom_May.f k bt104.1 (⟨#[97]⟩ : ByteArray)).bind fun t115 => (if t115 = true then ((bloom_May.f k bt104.1 (⟨#[98]⟩ : ByteArray)).bind fun t116 => (if t116 = true then (if bt106.1.toList = ([0] : List UInt8) then ((bloom_May.f k bt106.1 (⟨#[97]⟩ : ByteArray)).bind fun t117 => (if t117 = true then (none) else ((bloom_May.f k (⟨#[]⟩ : ByteArray) (⟨#[97]⟩ : ByteArray)).bind fun t118 => (if t118 = true then (if bt111.2 = 4 then ((bloom_Bits.f k (⟨#[97]⟩ : ByteArray) 10).bind fun t119 => (if (t119.length : Int) = 4 then ((bloom_Full.f k (⟨#[7, 128]⟩ : ByteArray)).bind fun t122 => (if t122 = 4 then (some true) else (none))) else (none))) else (none)) else (none))))) else (none)) else (none))) else (none))) else (none)) else (none)) else (none))) else (none)))) else (none)))
theorem screelaw10_awake.mono : ∀ k, LeO (screelaw10_awake.f k ) (screelaw10_awake.f (k + 1) ) := by
  intro  k
  unfold screelaw10_awake.f
  repeat' first
      | (with_reducible exact bloom_Bits.mono _ _ _)
      | (with_reducible exact bloom_Full.mono _ _)
      | (with_reducible exact bloom_Make.mono _ _)
      | (with_reducible exact bloom_May.mono _ _ _)
      | (with_reducible exact bloom_Mix.mono _ _)
      | (with_reducible exact LeO.refl _)
      | (with_reducible exact LeO.none _)
      | (with_reducible refine LeO.ite ?_ ?_)
      | (with_reducible refine LeO.bind ?_ (fun _ => ?_))
      | exact bloom_Bits.mono _ _ _
      | exact bloom_Full.mono _ _
      | exact bloom_Make.mono _ _
      | exact bloom_May.mono _ _ _
      | exact bloom_Mix.mono _ _
      | exact LeO.none _
      | refine LeO.ite ?_ ?_
      | refine LeO.bind ?_ (fun _ => ?_)
set_option maxHeartbeats 8000000 in
set_option maxRecDepth 100000 in
theorem screelaw10_awake.calls (k : Nat)  (r : Bool) (w : World) (h : screelaw10_awake.f k  = some r) :
    Calls Try.prog 10 #[] w fun e w' => e = .returned (.bool r) ∧ Below w.heap.size w w' := by
  have HB := Aside0.mk (Below.refl w.heap.size w)
  have H : ((bloom_Make.f k (([(⟨#[97]⟩ : ByteArray), (⟨#[98]⟩ : ByteArray)] : List ByteArray))).bind fun bt104 => ((bloom_Make.f k ([] : List ByteArray)).bind fun bt106 => (if 1001 ≤ 17592186044416 then ((bloom_Make.f k (List.replicate 1001 (⟨#[]⟩ : ByteArray))).bind fun bt111 => ((bloom_Mix.f k (⟨#[]⟩ : ByteArray)).bind fun t113 => (if t113 = 14695981039346656037 then ((bloom_Mix.f k (⟨#[97]⟩ : ByteArray)).bind fun t114 => (if t114 = 12638187200555641996 then (if (bt104.1.size : Int) = 3 then (if bt104.2 = 0 then ((bloom_May.f k bt104.1 (⟨#[97]⟩ : ByteArray)).bind fun t115 => (if t115 = true then ((bloom_May.f k bt104.1 (⟨#[98]⟩ : ByteArray)).bind fun t116 => (if t116 = true then (if bt106.1.toList = ([0] : List UInt8) then ((bloom_May.f k bt106.1 (⟨#[97]⟩ : ByteArray)).bind fun t117 => (if t117 = true then (none) else ((bloom_May.f k (⟨#[]⟩ : ByteArray) (⟨#[97]⟩ : ByteArray)).bind fun t118 => (if t118 = true then (if bt111.2 = 4 then ((bloom_Bits.f k (⟨#[97]⟩ : ByteArray) 10).bind fun t119 => (if (t119.length : Int) = 4 then ((bloom_Full.f k (⟨#[7, 128]⟩ : ByteArray)).bind fun t122 => (if t122 = 4 then (some true) else (none))) else (none))) else (none)) else (none))))) else (none)) else (none))) else (none))) else (none)) else (none)) else (none))) else (none)))) else (none)))) = some r := h
  clear h
  obtain ⟨y101, hy101⟩ : ∃ y_ : List ByteArray, y_ = (([(⟨#[97]⟩ : ByteArray), (⟨#[98]⟩ : ByteArray)] : List ByteArray)) := ⟨_, rfl⟩
  replace H : ((bloom_Make.f k y101).bind fun bt104 => ((bloom_Make.f k ([] : List ByteArray)).bind fun bt106 => (if 1001 ≤ 17592186044416 then ((bloom_Make.f k (List.replicate 1001 (⟨#[]⟩ : ByteArray))).bind fun bt111 => ((bloom_Mix.f k (⟨#[]⟩ : ByteArray)).bind fun t113 => (if t113 = 14695981039346656037 then ((bloom_Mix.f k (⟨#[97]⟩ : ByteArray)).bind fun t114 => (if t114 = 12638187200555641996 then (if (bt104.1.size : Int) = 3 then (if bt104.2 = 0 then ((bloom_May.f k bt104.1 (⟨#[97]⟩ : ByteArray)).bind fun t115 => (if t115 = true then ((bloom_May.f k bt104.1 (⟨#[98]⟩ : ByteArray)).bind fun t116 => (if t116 = true then (if bt106.1.toList = ([0] : List UInt8) then ((bloom_May.f k bt106.1 (⟨#[97]⟩ : ByteArray)).bind fun t117 => (if t117 = true then (none) else ((bloom_May.f k (⟨#[]⟩ : ByteArray) (⟨#[97]⟩ : ByteArray)).bind fun t118 => (if t118 = true then (if bt111.2 = 4 then ((bloom_Bits.f k (⟨#[97]⟩ : ByteArray) 10).bind fun t119 => (if (t119.length : Int) = 4 then ((bloom_Full.f k (⟨#[7, 128]⟩ : ByteArray)).bind fun t122 => (if t122 = 4 then (some true) else (none))) else (none))) else (none)) else (none))))) else (none)) else (none))) else (none))) else (none)) else (none)) else (none))) else (none)))) else (none)))) = some r := by first | (rw [hy101]; with_reducible exact H) | (have H2_ := (Option.bind_some _ _).symm.trans H; rw [hy101]; with_reducible exact H2_) | (have H2_ := (Option.bind_some _ _).symm.trans H; with_reducible exact H2_) | with_reducible exact H | (rw [hy101]; exact H) | exact H
  have Ny101 := Aside0.mk hy101
  clear hy101
  replace H := Option.bind_eq_some_iff.mp H
  obtain ⟨⟨t104, t105⟩, A10, H⟩ := H
  replace H : ((bloom_Make.f k ([] : List ByteArray)).bind fun bt106 => (if 1001 ≤ 17592186044416 then ((bloom_Make.f k (List.replicate 1001 (⟨#[]⟩ : ByteArray))).bind fun bt111 => ((bloom_Mix.f k (⟨#[]⟩ : ByteArray)).bind fun t113 => (if t113 = 14695981039346656037 then ((bloom_Mix.f k (⟨#[97]⟩ : ByteArray)).bind fun t114 => (if t114 = 12638187200555641996 then (if (t104.size : Int) = 3 then (if t105 = 0 then ((bloom_May.f k t104 (⟨#[97]⟩ : ByteArray)).bind fun t115 => (if t115 = true then ((bloom_May.f k t104 (⟨#[98]⟩ : ByteArray)).bind fun t116 => (if t116 = true then (if bt106.1.toList = ([0] : List UInt8) then ((bloom_May.f k bt106.1 (⟨#[97]⟩ : ByteArray)).bind fun t117 => (if t117 = true then (none) else ((bloom_May.f k (⟨#[]⟩ : ByteArray) (⟨#[97]⟩ : ByteArray)).bind fun t118 => (if t118 = true then (if bt111.2 = 4 then ((bloom_Bits.f k (⟨#[97]⟩ : ByteArray) 10).bind fun t119 => (if (t119.length : Int) = 4 then ((bloom_Full.f k (⟨#[7, 128]⟩ : ByteArray)).bind fun t122 => (if t122 = 4 then (some true) else (none))) else (none))) else (none)) else (none))))) else (none)) else (none))) else (none))) else (none)) else (none)) else (none))) else (none)))) else (none))) = some r := H
  have A1 := Aside0.mk A10
  clear A10
  replace H := Option.bind_eq_some_iff.mp H
  obtain ⟨⟨t106, t107⟩, A20, H⟩ := H
  replace H : (if 1001 ≤ 17592186044416 then ((bloom_Make.f k (List.replicate 1001 (⟨#[]⟩ : ByteArray))).bind fun bt111 => ((bloom_Mix.f k (⟨#[]⟩ : ByteArray)).bind fun t113 => (if t113 = 14695981039346656037 then ((bloom_Mix.f k (⟨#[97]⟩ : ByteArray)).bind fun t114 => (if t114 = 12638187200555641996 then (if (t104.size : Int) = 3 then (if t105 = 0 then ((bloom_May.f k t104 (⟨#[97]⟩ : ByteArray)).bind fun t115 => (if t115 = true then ((bloom_May.f k t104 (⟨#[98]⟩ : ByteArray)).bind fun t116 => (if t116 = true then (if t106.toList = ([0] : List UInt8) then ((bloom_May.f k t106 (⟨#[97]⟩ : ByteArray)).bind fun t117 => (if t117 = true then (none) else ((bloom_May.f k (⟨#[]⟩ : ByteArray) (⟨#[97]⟩ : ByteArray)).bind fun t118 => (if t118 = true then (if bt111.2 = 4 then ((bloom_Bits.f k (⟨#[97]⟩ : ByteArray) 10).bind fun t119 => (if (t119.length : Int) = 4 then ((bloom_Full.f k (⟨#[7, 128]⟩ : ByteArray)).bind fun t122 => (if t122 = 4 then (some true) else (none))) else (none))) else (none)) else (none))))) else (none)) else (none))) else (none))) else (none)) else (none)) else (none))) else (none)))) else (none)) = some r := H
  have A2 := Aside0.mk A20
  clear A20
  by_cases c3 : 1001 ≤ 17592186044416
  · rw [if_pos c3] at H
    have c3b0 := eq_true c3
    have c3b1 : decide (1001 ≤ 17592186044416) = true := decide_eq_true c3
    clear c3
    obtain ⟨y108, hy108⟩ : ∃ y_ : List ByteArray, y_ = (List.replicate 1001 (⟨#[]⟩ : ByteArray)) := ⟨_, rfl⟩
    replace H : ((bloom_Make.f k y108).bind fun bt111 => ((bloom_Mix.f k (⟨#[]⟩ : ByteArray)).bind fun t113 => (if t113 = 14695981039346656037 then ((bloom_Mix.f k (⟨#[97]⟩ : ByteArray)).bind fun t114 => (if t114 = 12638187200555641996 then (if (t104.size : Int) = 3 then (if t105 = 0 then ((bloom_May.f k t104 (⟨#[97]⟩ : ByteArray)).bind fun t115 => (if t115 = true then ((bloom_May.f k t104 (⟨#[98]⟩ : ByteArray)).bind fun t116 => (if t116 = true then (if t106.toList = ([0] : List UInt8) then ((bloom_May.f k t106 (⟨#[97]⟩ : ByteArray)).bind fun t117 => (if t117 = true then (none) else ((bloom_May.f k (⟨#[]⟩ : ByteArray) (⟨#[97]⟩ : ByteArray)).bind fun t118 => (if t118 = true then (if bt111.2 = 4 then ((bloom_Bits.f k (⟨#[97]⟩ : ByteArray) 10).bind fun t119 => (if (t119.length : Int) = 4 then ((bloom_Full.f k (⟨#[7, 128]⟩ : ByteArray)).bind fun t122 => (if t122 = 4 then (some true) else (none))) else (none))) else (none)) else (none))))) else (none)) else (none))) else (none))) else (none)) else (none)) else (none))) else (none)))) = some r := by first | (rw [hy108]; with_reducible exact H) | (have H2_ := (Option.bind_some _ _).symm.trans H; rw [hy108]; with_reducible exact H2_) | (have H2_ := (Option.bind_some _ _).symm.trans H; with_reducible exact H2_) | with_reducible exact H | (rw [hy108]; exact H) | exact H
    have Ny108 := Aside0.mk hy108
    clear hy108
    replace H := Option.bind_eq_some_iff.mp H
    obtain ⟨⟨t111, t112⟩, A40, H⟩ := H
    replace H : ((bloom_Mix.f k (⟨#[]⟩ : ByteArray)).bind fun t113 => (if t113 = 14695981039346656037 then ((bloom_Mix.f k (⟨#[97]⟩ : ByteArray)).bind fun t114 => (if t114 = 12638187200555641996 then (if (t104.size : Int) = 3 then (if t105 = 0 then ((bloom_May.f k t104 (⟨#[97]⟩ : ByteArray)).bind fun t115 => (if t115 = true then ((bloom_May.f k t104 (⟨#[98]⟩ : ByteArray)).bind fun t116 => (if t116 = true then (if t106.toList = ([0] : List UInt8) then ((bloom_May.f k t106 (⟨#[97]⟩ : ByteArray)).bind fun t117 => (if t117 = true then (none) else ((bloom_May.f k (⟨#[]⟩ : ByteArray) (⟨#[97]⟩ : ByteArray)).bind fun t118 => (if t118 = true then (if t112 = 4 then ((bloom_Bits.f k (⟨#[97]⟩ : ByteArray) 10).bind fun t119 => (if (t119.length : Int) = 4 then ((bloom_Full.f k (⟨#[7, 128]⟩ : ByteArray)).bind fun t122 => (if t122 = 4 then (some true) else (none))) else (none))) else (none)) else (none))))) else (none)) else (none))) else (none))) else (none)) else (none)) else (none))) else (none))) = some r := H
    have A4 := Aside0.mk A40
    clear A40
    replace H := Option.bind_eq_some_iff.mp H
    obtain ⟨t113, A50, H⟩ := H
    replace H : (if t113 = 14695981039346656037 then ((bloom_Mix.f k (⟨#[97]⟩ : ByteArray)).bind fun t114 => (if t114 = 12638187200555641996 then (if (t104.size : Int) = 3 then (if t105 = 0 then ((bloom_May.f k t104 (⟨#[97]⟩ : ByteArray)).bind fun t115 => (if t115 = true then ((bloom_May.f k t104 (⟨#[98]⟩ : ByteArray)).bind fun t116 => (if t116 = true then (if t106.toList = ([0] : List UInt8) then ((bloom_May.f k t106 (⟨#[97]⟩ : ByteArray)).bind fun t117 => (if t117 = true then (none) else ((bloom_May.f k (⟨#[]⟩ : ByteArray) (⟨#[97]⟩ : ByteArray)).bind fun t118 => (if t118 = true then (if t112 = 4 then ((bloom_Bits.f k (⟨#[97]⟩ : ByteArray) 10).bind fun t119 => (if (t119.length : Int) = 4 then ((bloom_Full.f k (⟨#[7, 128]⟩ : ByteArray)).bind fun t122 => (if t122 = 4 then (some true) else (none))) else (none))) else (none)) else (none))))) else (none)) else (none))) else (none))) else (none)) else (none)) else (none))) else (none)) = some r := H
    have A5 := Aside0.mk A50
    clear A50
    by_cases c6 : t113 = 14695981039346656037
    · rw [if_pos c6] at H
      have c6b0 : (t113 == 14695981039346656037) = true := beq_iff_eq.mpr c6
      have c6b1 : (t113 != 14695981039346656037) = false := bne_eq_false_iff_eq.mpr c6
      clear c6
      replace H := Option.bind_eq_some_iff.mp H
      obtain ⟨t114, A70, H⟩ := H
      replace H : (if t114 = 12638187200555641996 then (if (t104.size : Int) = 3 then (if t105 = 0 then ((bloom_May.f k t104 (⟨#[97]⟩ : ByteArray)).bind fun t115 => (if t115 = true then ((bloom_May.f k t104 (⟨#[98]⟩ : ByteArray)).bind fun t116 => (if t116 = true then (if t106.toList = ([0] : List UInt8) then ((bloom_May.f k t106 (⟨#[97]⟩ : ByteArray)).bind fun t117 => (if t117 = true then (none) else ((bloom_May.f k (⟨#[]⟩ : ByteArray) (⟨#[97]⟩ : ByteArray)).bind fun t118 => (if t118 = true then (if t112 = 4 then ((bloom_Bits.f k (⟨#[97]⟩ : ByteArray) 10).bind fun t119 => (if (t119.length : Int) = 4 then ((bloom_Full.f k (⟨#[7, 128]⟩ : ByteArray)).bind fun t122 => (if t122 = 4 then (some true) else (none))) else (none))) else (none)) else (none))))) else (none)) else (none))) else (none))) else (none)) else (none)) else (none)) = some r := H
      have A7 := Aside0.mk A70
      clear A70
      by_cases c8 : t114 = 12638187200555641996
      · rw [if_pos c8] at H
        have c8b0 : (t114 == 12638187200555641996) = true := beq_iff_eq.mpr c8
        have c8b1 : (t114 != 12638187200555641996) = false := bne_eq_false_iff_eq.mpr c8
        clear c8
        by_cases c9 : (t104.size : Int) = 3
        · rw [if_pos c9] at H
          have c9b0 : ((t104.size : Int) == 3) = true := beq_iff_eq.mpr c9
          have c9b1 : ((t104.size : Int) != 3) = false := bne_eq_false_iff_eq.mpr c9
          clear c9
          by_cases c10 : t105 = 0
          · rw [if_pos c10] at H
            have c10b0 : (t105 == 0) = true := beq_iff_eq.mpr c10
            have c10b1 : (t105 != 0) = false := bne_eq_false_iff_eq.mpr c10
            clear c10
            replace H := Option.bind_eq_some_iff.mp H
            obtain ⟨t115, A110, H⟩ := H
            replace H : (if t115 = true then ((bloom_May.f k t104 (⟨#[98]⟩ : ByteArray)).bind fun t116 => (if t116 = true then (if t106.toList = ([0] : List UInt8) then ((bloom_May.f k t106 (⟨#[97]⟩ : ByteArray)).bind fun t117 => (if t117 = true then (none) else ((bloom_May.f k (⟨#[]⟩ : ByteArray) (⟨#[97]⟩ : ByteArray)).bind fun t118 => (if t118 = true then (if t112 = 4 then ((bloom_Bits.f k (⟨#[97]⟩ : ByteArray) 10).bind fun t119 => (if (t119.length : Int) = 4 then ((bloom_Full.f k (⟨#[7, 128]⟩ : ByteArray)).bind fun t122 => (if t122 = 4 then (some true) else (none))) else (none))) else (none)) else (none))))) else (none)) else (none))) else (none)) = some r := H
            have A11 := Aside0.mk A110
            clear A110
            by_cases c12 : t115 = true
            · subst c12
              have H1 : ((bloom_May.f k t104 (⟨#[98]⟩ : ByteArray)).bind fun t116 => (if t116 = true then (if t106.toList = ([0] : List UInt8) then ((bloom_May.f k t106 (⟨#[97]⟩ : ByteArray)).bind fun t117 => (if t117 = true then (none) else ((bloom_May.f k (⟨#[]⟩ : ByteArray) (⟨#[97]⟩ : ByteArray)).bind fun t118 => (if t118 = true then (if t112 = 4 then ((bloom_Bits.f k (⟨#[97]⟩ : ByteArray) 10).bind fun t119 => (if (t119.length : Int) = 4 then ((bloom_Full.f k (⟨#[7, 128]⟩ : ByteArray)).bind fun t122 => (if t122 = 4 then (some true) else (none))) else (none))) else (none)) else (none))))) else (none)) else (none))) = some r := by rw [if_pos rfl] at H; exact H
              clear H
              have H := H1
              clear H1
              replace H := Option.bind_eq_some_iff.mp H
              obtain ⟨t116, A130, H⟩ := H
              replace H : (if t116 = true then (if t106.toList = ([0] : List UInt8) then ((bloom_May.f k t106 (⟨#[97]⟩ : ByteArray)).bind fun t117 => (if t117 = true then (none) else ((bloom_May.f k (⟨#[]⟩ : ByteArray) (⟨#[97]⟩ : ByteArray)).bind fun t118 => (if t118 = true then (if t112 = 4 then ((bloom_Bits.f k (⟨#[97]⟩ : ByteArray) 10).bind fun t119 => (if (t119.length : Int) = 4 then ((bloom_Full.f k (⟨#[7, 128]⟩ : ByteArray)).bind fun t122 => (if t122 = 4 then (some true) else (none))) else (none))) else (none)) else (none))))) else (none)) else (none)) = some r := H
              have A13 := Aside0.mk A130
              clear A130
              by_cases c14 : t116 = true
              · subst c14
                have H1 : (if t106.toList = ([0] : List UInt8) then ((bloom_May.f k t106 (⟨#[97]⟩ : ByteArray)).bind fun t117 => (if t117 = true then (none) else ((bloom_May.f k (⟨#[]⟩ : ByteArray) (⟨#[97]⟩ : ByteArray)).bind fun t118 => (if t118 = true then (if t112 = 4 then ((bloom_Bits.f k (⟨#[97]⟩ : ByteArray) 10).bind fun t119 => (if (t119.length : Int) = 4 then ((bloom_Full.f k (⟨#[7, 128]⟩ : ByteArray)).bind fun t122 => (if t122 = 4 then (some true) else (none))) else (none))) else (none)) else (none))))) else (none)) = some r := by rw [if_pos rfl] at H; exact H
                clear H
                have H := H1
                clear H1
                by_cases c15 : t106.toList = ([0] : List UInt8)
                · rw [if_pos c15] at H
                  have c15b0 : (t106.toList == ([0] : List UInt8)) = true := beq_iff_eq.mpr c15
                  have c15b1 : (t106.toList != ([0] : List UInt8)) = false := bne_eq_false_iff_eq.mpr c15
                  clear c15
                  replace H := Option.bind_eq_some_iff.mp H
                  obtain ⟨t117, A160, H⟩ := H
                  replace H : (if t117 = true then (none) else ((bloom_May.f k (⟨#[]⟩ : ByteArray) (⟨#[97]⟩ : ByteArray)).bind fun t118 => (if t118 = true then (if t112 = 4 then ((bloom_Bits.f k (⟨#[97]⟩ : ByteArray) 10).bind fun t119 => (if (t119.length : Int) = 4 then ((bloom_Full.f k (⟨#[7, 128]⟩ : ByteArray)).bind fun t122 => (if t122 = 4 then (some true) else (none))) else (none))) else (none)) else (none)))) = some r := H
                  have A16 := Aside0.mk A160
                  clear A160
                  by_cases c17 : t117 = true
                  · subst c17
                    have H1 : (none) = some r := by rw [if_pos rfl] at H; exact H
                    clear H
                    have H := H1
                    clear H1
                    exact absurd H (by simp)
                  · replace c17 := Bool.eq_false_iff.mpr c17
                    subst c17
                    have H1 : ((bloom_May.f k (⟨#[]⟩ : ByteArray) (⟨#[97]⟩ : ByteArray)).bind fun t118 => (if t118 = true then (if t112 = 4 then ((bloom_Bits.f k (⟨#[97]⟩ : ByteArray) 10).bind fun t119 => (if (t119.length : Int) = 4 then ((bloom_Full.f k (⟨#[7, 128]⟩ : ByteArray)).bind fun t122 => (if t122 = 4 then (some true) else (none))) else (none))) else (none)) else (none))) = some r := by rw [if_neg (show ¬ (false = true) by decide)] at H; exact H
                    clear H
                    have H := H1
                    clear H1
                    replace H := Option.bind_eq_some_iff.mp H
                    obtain ⟨t118, A180, H⟩ := H
                    replace H : (if t118 = true then (if t112 = 4 then ((bloom_Bits.f k (⟨#[97]⟩ : ByteArray) 10).bind fun t119 => (if (t119.length : Int) = 4 then ((bloom_Full.f k (⟨#[7, 128]⟩ : ByteArray)).bind fun t122 => (if t122 = 4 then (some true) else (none))) else (none))) else (none)) else (none)) = some r := H
                    have A18 := Aside0.mk A180
                    clear A180
                    by_cases c19 : t118 = true
                    · subst c19
                      have H1 : (if t112 = 4 then ((bloom_Bits.f k (⟨#[97]⟩ : ByteArray) 10).bind fun t119 => (if (t119.length : Int) = 4 then ((bloom_Full.f k (⟨#[7, 128]⟩ : ByteArray)).bind fun t122 => (if t122 = 4 then (some true) else (none))) else (none))) else (none)) = some r := by rw [if_pos rfl] at H; exact H
                      clear H
                      have H := H1
                      clear H1
                      by_cases c20 : t112 = 4
                      · rw [if_pos c20] at H
                        have c20b0 : (t112 == 4) = true := beq_iff_eq.mpr c20
                        have c20b1 : (t112 != 4) = false := bne_eq_false_iff_eq.mpr c20
                        clear c20
                        replace H := Option.bind_eq_some_iff.mp H
                        obtain ⟨t119, A210, H⟩ := H
                        replace H : (if (t119.length : Int) = 4 then ((bloom_Full.f k (⟨#[7, 128]⟩ : ByteArray)).bind fun t122 => (if t122 = 4 then (some true) else (none))) else (none)) = some r := H
                        have A21 := Aside0.mk A210
                        clear A210
                        by_cases c22 : (t119.length : Int) = 4
                        · rw [if_pos c22] at H
                          have c22b0 : ((t119.length : Int) == 4) = true := beq_iff_eq.mpr c22
                          have c22b1 : ((t119.length : Int) != 4) = false := bne_eq_false_iff_eq.mpr c22
                          clear c22
                          replace H := Option.bind_eq_some_iff.mp H
                          obtain ⟨t122, A230, H⟩ := H
                          replace H : (if t122 = 4 then (some true) else (none)) = some r := H
                          have A23 := Aside0.mk A230
                          clear A230
                          by_cases c24 : t122 = 4
                          · rw [if_pos c24] at H
                            have c24b0 : (t122 == 4) = true := beq_iff_eq.mpr c24
                            have c24b1 : (t122 != 4) = false := bne_eq_false_iff_eq.mpr c24
                            clear c24
                            obtain rfl := Option.some.inj H
                            go_enter Try.func10, Try.ntmps10
                            go_wp2_with (first | ((with_reducible refine gate_dst (N := 8) rfl ?_); (try (refine gate_guard (by rfl) ?_; dsimp only)); refine Kd.R_lit Kd.string _ 9 ?hg (N := 8) ?hd (xs := ([(⟨#[97]⟩ : ByteArray), (⟨#[98]⟩ : ByteArray)] : List ByteArray)) (inner := [.string (⟨#[97]⟩ : ByteArray), .string (⟨#[98]⟩ : ByteArray)]) (ok := fun _ => True) (okp := fun _ => True) ?hr ?hp (fun _ hk => hk) trivial (Below.refl _ _) (Nat.le_refl _) (by simp) ?_; (case hd => rfl); (case hg => rfl); (case hr => first | (go_simp; done) | (go_simp; rfl)); (case hp => exact (Reps.one (show Kd.M Kd.string _ _ _ (⟨#[97]⟩ : ByteArray) [.string (⟨#[97]⟩ : ByteArray)] from rfl) (Reps.one (show Kd.M Kd.string _ _ _ (⟨#[98]⟩ : ByteArray) [.string (⟨#[98]⟩ : ByteArray)] from rfl) (Reps.none _ _)))); intro v102 w25 ho26 hb hg_ hnew_; clear hg_ hnew_; (first | rw [← Ny101.out] at ho26 | (simp only [Int.reduceToNat] at ho26; rw [← Ny101.out] at ho26)); have n0_ := Aside0.mk (Kd.R_lower ho26 (below_size (by repeat (first | (with_reducible first | exact HB.out | apply below_alloc | apply pw_below_drewN | apply below_drew1) | exact HB.out)))); have n1_ := Aside0.mk (below_step (by repeat (first | (with_reducible first | exact HB.out | apply below_alloc | apply pw_below_drewN | apply below_drew1) | exact HB.out)) hb); clear HB; have HO103 := n0_; have HB := n1_; clear n0_ n1_; clear hb ho26; obtain ⟨Ao27, co27, eo27⟩ := Kd.R_slice HO103.out; subst eo27) | ((with_reducible refine gate_callee (f := 12) rfl ?_); refine goesL_ (some 9) rfl rfl Try.func12 (by kernel_rfl) rfl #[.slice Ao27 y101.length co27] rfl (by (try simp only [List.map_toArray, List.map_cons, List.map_nil]); first | done | rfl | (simp only [List.length_drop, List.length_take]; rfl) | (simp (disch := omega) only [IntWalk.u64_in, IntWalk.i64_in, IntWalk.u8_in]; rfl)) ?_; (with_reducible refine (bloom_Make.calls k _ _ y101 t104 t105 _ ?side1 ?side2 A1.out).mono ?_); (case side1 => repeat (first | exact (Kd.R_reads' HO103.out).2.2 | (with_reducible refine Kd.C_alloc ?_ _) | (with_reducible refine Kd.C_drewN ?_ _) | (with_reducible refine Kd.C_drew ?_))); (case side2 => exact (Kd.R_reads' HO103.out).2.1); rintro e w28 ⟨rfl, hb⟩; refine ⟨_, rfl, ?_⟩; have n0_ := Aside0.mk (Kd.R_below (by (with_reducible repeat (first | apply Kd.R_alloc | apply Kd.R_drewN | apply Kd.R_drew)); exact HO103.out) hb); have n1_ := Aside0.mk (below_step (by repeat (first | (with_reducible first | exact HB.out | apply below_alloc | apply pw_below_drewN | apply below_drew1) | exact HB.out)) hb); clear HO103; clear HB; have HO103 := n0_; have HB := n1_; clear n0_ n1_; (try clear hb); (try clear hb2); (try clear hk); (try clear hi); (try clear A1)) | ((with_reducible refine gate_callee (f := 12) rfl ?_); refine goesL_ (some 13) rfl rfl Try.func12 (by kernel_rfl) rfl #[.slice none 0 0] rfl (by (try simp only [List.map_toArray, List.map_cons, List.map_nil]); first | done | rfl | (simp only [List.length_drop, List.length_take]; rfl) | (simp (disch := omega) only [IntWalk.u64_in, IntWalk.i64_in, IntWalk.u8_in]; rfl)) ?_; (refine (bloom_Make.calls k _ _ ([] : List ByteArray) t106 t107 _ ?side1 ?side2 A2.out).mono ?_); (case side1 => exact Kd.C_nil _ _); (case side2 => exact Nat.le_refl _); rintro e w29 ⟨rfl, hb⟩; refine ⟨_, rfl, ?_⟩; have n0_ := Aside0.mk (Kd.R_below (by (with_reducible repeat (first | apply Kd.R_alloc | apply Kd.R_drewN | apply Kd.R_drew)); exact HO103.out) hb); have n1_ := Aside0.mk (below_step (by repeat (first | (with_reducible first | exact HB.out | apply below_alloc | apply pw_below_drewN | apply below_drew1) | exact HB.out)) hb); clear HO103; clear HB; have HO103 := n0_; have HB := n1_; clear n0_ n1_; (try clear hb); (try clear hb2); (try clear hk); (try clear hi); (try clear A2)) | ((with_reducible refine gate_dst (N := 17) rfl ?_); (try (refine gate_guard (by rfl) ?_; dsimp only)); refine Kd.R_make Kd.string _ 9 rfl (N := 17) rfl 22 _ _ rfl 1001 rfl rfl Try.underlying22 (.string ⟨#[]⟩) 16 info9 rfl (by decide) (by omega) (⟨#[]⟩ : ByteArray) (ok := fun _ => True) (okp := fun _ => True) rfl (fun _ hk => hk) trivial (by omega) (by omega) (Below.refl _ _) (Nat.le_refl _) ?_; intro v109 w30 ho31 hb hg_ hnew_; clear hg_ hnew_; (first | rw [← Ny108.out] at ho31 | (simp only [Int.reduceToNat] at ho31; rw [← Ny108.out] at ho31)); have n0_ := Aside0.mk (Kd.R_elder' (by (with_reducible repeat (first | apply Kd.R_alloc | apply Kd.R_drewN | apply Kd.R_drew)); exact HO103.out) (Kd.R_base ho31) hb); have n1_ := Aside0.mk (Kd.R_lower (Kd.R_new' ho31 (Kd.R_lt (by (with_reducible repeat (first | apply Kd.R_alloc | apply Kd.R_drewN | apply Kd.R_drew)); exact HO103.out))) (below_size (by repeat (first | (with_reducible first | exact HB.out | apply below_alloc | apply pw_below_drewN | apply below_drew1) | exact HB.out)))); have n2_ := Aside0.mk (below_step (by repeat (first | (with_reducible first | exact HB.out | apply below_alloc | apply pw_below_drewN | apply below_drew1) | exact HB.out)) hb); clear HO103; clear HB; have HO103 := n0_; have HO110 := n1_; have HB := n2_; clear n0_ n1_ n2_; clear hb ho31; obtain ⟨Ao32, co32, eo32⟩ := Kd.R_slice HO110.out; subst eo32) | ((with_reducible refine gate_callee (f := 12) rfl ?_); refine goesL_ (some 18) rfl rfl Try.func12 (by kernel_rfl) rfl #[.slice Ao32 y108.length co32] rfl (by (try simp only [List.map_toArray, List.map_cons, List.map_nil]); first | done | rfl | (simp only [List.length_drop, List.length_take]; rfl) | (simp (disch := omega) only [IntWalk.u64_in, IntWalk.i64_in, IntWalk.u8_in]; rfl)) ?_; (with_reducible refine (bloom_Make.calls k _ _ y108 t111 t112 _ ?side1 ?side2 A4.out).mono ?_); (case side1 => repeat (first | exact (Kd.R_reads' HO110.out).2.2 | (with_reducible refine Kd.C_alloc ?_ _) | (with_reducible refine Kd.C_drewN ?_ _) | (with_reducible refine Kd.C_drew ?_))); (case side2 => exact (Kd.R_reads' HO110.out).2.1); rintro e w33 ⟨rfl, hb⟩; refine ⟨_, rfl, ?_⟩; have n0_ := Aside0.mk (Kd.R_below (by (with_reducible repeat (first | apply Kd.R_alloc | apply Kd.R_drewN | apply Kd.R_drew)); exact HO103.out) hb); have n1_ := Aside0.mk (Kd.R_below (by (with_reducible repeat (first | apply Kd.R_alloc | apply Kd.R_drewN | apply Kd.R_drew)); exact HO110.out) hb); have n2_ := Aside0.mk (below_step (by repeat (first | (with_reducible first | exact HB.out | apply below_alloc | apply pw_below_drewN | apply below_drew1) | exact HB.out)) hb); clear HO103; clear HO110; clear HB; have HO103 := n0_; have HO110 := n1_; have HB := n2_; clear n0_ n1_ n2_; (try clear hb); (try clear hb2); (try clear hk); (try clear hi); (try clear A4)) | ((with_reducible refine gate_callee (f := 14) rfl ?_); refine goesL_ (some 21) rfl rfl Try.func14 (by kernel_rfl) rfl #[.string (⟨#[]⟩ : ByteArray)] rfl (by (try simp only [List.map_toArray, List.map_cons, List.map_nil]); first | done | rfl | (simp only [List.length_drop, List.length_take]; rfl) | (simp (disch := omega) only [IntWalk.u64_in, IntWalk.i64_in, IntWalk.u8_in]; rfl)) ?_; (with_reducible refine (bloom_Mix.calls k (⟨#[]⟩ : ByteArray) t113 _ A5.out).mono ?_); rintro e w' ⟨rfl, ⟨nd, rfl⟩⟩; refine ⟨_, rfl, ?_⟩) | (go_at_call 14; (with_reducible refine (bloom_Mix.calls k (⟨#[97]⟩ : ByteArray) t114 _ A7.out).mono ?_); rintro e w' ⟨rfl, ⟨nd, rfl⟩⟩) | (go_at_call 16; (with_reducible refine (bloom_May.calls k t104 (⟨#[97]⟩ : ByteArray) true _ A11.out).mono ?_); rintro e w34 ⟨rfl, hb⟩; have n0_ := Aside0.mk (Kd.R_below (by (with_reducible repeat (first | apply Kd.R_alloc | apply Kd.R_drewN | apply Kd.R_drew)); exact HO103.out) hb); have n1_ := Aside0.mk (Kd.R_below (by (with_reducible repeat (first | apply Kd.R_alloc | apply Kd.R_drewN | apply Kd.R_drew)); exact HO110.out) hb); have n2_ := Aside0.mk (below_step (by repeat (first | (with_reducible first | exact HB.out | apply below_alloc | apply pw_below_drewN | apply below_drew1) | exact HB.out)) hb); clear HO103; clear HO110; clear HB; have HO103 := n0_; have HO110 := n1_; have HB := n2_; clear n0_ n1_ n2_; (try clear hb); (try clear hb2); (try clear hk); (try clear hi); (try clear A11)) | (go_at_call 16; (with_reducible refine (bloom_May.calls k t104 (⟨#[98]⟩ : ByteArray) true _ A13.out).mono ?_); rintro e w35 ⟨rfl, hb⟩; have n0_ := Aside0.mk (Kd.R_below (by (with_reducible repeat (first | apply Kd.R_alloc | apply Kd.R_drewN | apply Kd.R_drew)); exact HO103.out) hb); have n1_ := Aside0.mk (Kd.R_below (by (with_reducible repeat (first | apply Kd.R_alloc | apply Kd.R_drewN | apply Kd.R_drew)); exact HO110.out) hb); have n2_ := Aside0.mk (below_step (by repeat (first | (with_reducible first | exact HB.out | apply below_alloc | apply pw_below_drewN | apply below_drew1) | exact HB.out)) hb); clear HO103; clear HO110; clear HB; have HO103 := n0_; have HO110 := n1_; have HB := n2_; clear n0_ n1_ n2_; (try clear hb); (try clear hb2); (try clear hk); (try clear hi); (try clear A13)) | (go_at_call 16; (with_reducible refine (bloom_May.calls k t106 (⟨#[97]⟩ : ByteArray) false _ A16.out).mono ?_); rintro e w36 ⟨rfl, hb⟩; have n0_ := Aside0.mk (Kd.R_below (by (with_reducible repeat (first | apply Kd.R_alloc | apply Kd.R_drewN | apply Kd.R_drew)); exact HO103.out) hb); have n1_ := Aside0.mk (Kd.R_below (by (with_reducible repeat (first | apply Kd.R_alloc | apply Kd.R_drewN | apply Kd.R_drew)); exact HO110.out) hb); have n2_ := Aside0.mk (below_step (by repeat (first | (with_reducible first | exact HB.out | apply below_alloc | apply pw_below_drewN | apply below_drew1) | exact HB.out)) hb); clear HO103; clear HO110; clear HB; have HO103 := n0_; have HO110 := n1_; have HB := n2_; clear n0_ n1_ n2_; (try clear hb); (try clear hb2); (try clear hk); (try clear hi); (try clear A16)) | (go_at_call 16; (with_reducible refine (bloom_May.calls k (⟨#[]⟩ : ByteArray) (⟨#[97]⟩ : ByteArray) true _ A18.out).mono ?_); rintro e w37 ⟨rfl, hb⟩; have n0_ := Aside0.mk (Kd.R_below (by (with_reducible repeat (first | apply Kd.R_alloc | apply Kd.R_drewN | apply Kd.R_drew)); exact HO103.out) hb); have n1_ := Aside0.mk (Kd.R_below (by (with_reducible repeat (first | apply Kd.R_alloc | apply Kd.R_drewN | apply Kd.R_drew)); exact HO110.out) hb); have n2_ := Aside0.mk (below_step (by repeat (first | (with_reducible first | exact HB.out | apply below_alloc | apply pw_below_drewN | apply below_drew1) | exact HB.out)) hb); clear HO103; clear HO110; clear HB; have HO103 := n0_; have HO110 := n1_; have HB := n2_; clear n0_ n1_ n2_; (try clear hb); (try clear hb2); (try clear hk); (try clear hi); (try clear A18)) | (go_at_call 20; (with_reducible refine (bloom_Bits.calls k (⟨#[97]⟩ : ByteArray) 10 t119 _ A21.out).mono ?_); rintro e w38 ⟨v120, rfl, ho0, hb⟩; have n0_ := Aside0.mk (Kd.R_below (by (with_reducible repeat (first | apply Kd.R_alloc | apply Kd.R_drewN | apply Kd.R_drew)); exact HO103.out) hb); have n1_ := Aside0.mk (Kd.R_below (by (with_reducible repeat (first | apply Kd.R_alloc | apply Kd.R_drewN | apply Kd.R_drew)); exact HO110.out) hb); have n2_ := Aside0.mk (Kd.R_lower ho0 (below_size (by repeat (first | (with_reducible first | exact HB.out | apply below_alloc | apply pw_below_drewN | apply below_drew1) | exact HB.out)))); have n3_ := Aside0.mk (below_step (by repeat (first | (with_reducible first | exact HB.out | apply below_alloc | apply pw_below_drewN | apply below_drew1) | exact HB.out)) hb); clear HO103; clear HO110; clear HB; have HO103 := n0_; have HO110 := n1_; have HO121 := n2_; have HB := n3_; clear n0_ n1_ n2_ n3_; (try clear hb); (try clear hb2); (try clear hk); (try clear hi); (try clear ho0); (try clear A21); obtain ⟨Ao39, co39, eo39⟩ := Kd.R_slice HO121.out; subst eo39) | (go_at_call 18; (with_reducible refine (bloom_Full.calls k (⟨#[7, 128]⟩ : ByteArray) t122 _ A23.out).mono ?_); rintro e w' ⟨rfl, ⟨nd, rfl⟩⟩))
                            go_ret
                            exact ⟨by first | rfl | (simp [errW_none, errW_some] <;> rfl) | (simp (disch := omega) only [← i64_w, IntWalk.i64_in]; rfl) | (simp [*, errW_none, errW_some] <;> rfl), by repeat (first | (with_reducible first | exact HB.out | apply below_alloc | apply pw_below_drewN | apply below_drew1) | exact HB.out)⟩
                          · rw [if_neg c24] at H
                            exact absurd H (by simp)
                        · rw [if_neg c22] at H
                          exact absurd H (by simp)
                      · rw [if_neg c20] at H
                        exact absurd H (by simp)
                    · replace c19 := Bool.eq_false_iff.mpr c19
                      subst c19
                      have H1 : (none) = some r := by rw [if_neg (show ¬ (false = true) by decide)] at H; exact H
                      clear H
                      have H := H1
                      clear H1
                      exact absurd H (by simp)
                · rw [if_neg c15] at H
                  exact absurd H (by simp)
              · replace c14 := Bool.eq_false_iff.mpr c14
                subst c14
                have H1 : (none) = some r := by rw [if_neg (show ¬ (false = true) by decide)] at H; exact H
                clear H
                have H := H1
                clear H1
                exact absurd H (by simp)
            · replace c12 := Bool.eq_false_iff.mpr c12
              subst c12
              have H1 : (none) = some r := by rw [if_neg (show ¬ (false = true) by decide)] at H; exact H
              clear H
              have H := H1
              clear H1
              exact absurd H (by simp)
          · rw [if_neg c10] at H
            exact absurd H (by simp)
        · rw [if_neg c9] at H
          exact absurd H (by simp)
      · rw [if_neg c8] at H
        exact absurd H (by simp)
    · rw [if_neg c6] at H
      exact absurd H (by simp)
  · rw [if_neg c3] at H
    exact absurd H (by simp)

end Go.Proofs.Ythgefbabajpelaa.P
