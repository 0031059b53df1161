-- Printed by a program of this session's own (wip/tools/pprint.sh, over the kit's print, with given contracts): not typed by hand.
import Derived.Test.YteijlcnjnooiiaaWKept
import Derived.Test.YteijlcnjnooiiaaPx0
import Derived.Test.YteijlcnjnooiiaaPx11
import Derived.Test.YteijlcnjnooiiaaPx12
namespace Go.Proofs.Yteijlcnjnooiiaa.P
open Go.RowKit Go.Proofs.YteijlcnjnooiiaaW.PrintWords Go.Proofs.YteijlcnjnooiiaaW.PrintLast Go.Proofs.YteijlcnjnooiiaaW.PrintMore
set_option linter.unusedVariables false
set_option linter.unusedSimpArgs false
-- SQUEEZED

/-! ### screeref01_Take: function 37 -/
mutual
def screeref01_Take.l0 : Nat → ByteArray → Int → Int → Int → Option (Int × ByteArray × Bool)
 | 0, _, _, _, _ => none
 | k + 1, x0, x5, x6, x7 => if x7 < (x0.size : Int) then (screeref01_Take.j1 k x0 x5 x6 x7 (decide (x7 < 10))) else (screeref01_Take.j1 k x0 x5 x6 x7 false)
def screeref01_Take.j1 : Nat → ByteArray → Int → Int → Int → Bool → Option (Int × ByteArray × Bool)
 | 0, _, _, _, _, _ => none
 | k + 1, x0, x5, x6, x7, x16 => if x16 = true then (if 0 ≤ x7 then (if x7 < (x0.size : Int) then (if (IntKind.u64.wrap (bt x0 x7)) < 128 then ((screeref01_Short.f k (IntKind.u64.wrap (x5 + (IntKind.u64.wrap ((Int.tmod (IntKind.u64.wrap (bt x0 x7)) 128) * x6))))).bind fun t216 => (if 0 ≤ (wrap64 (x7 + 1)) then (if (wrap64 (x7 + 1)) ≤ (x0.size : Int) then (if t216.toList = (x0.extract 0 ((wrap64 (x7 + 1)) : Int).toNat).toList then (some (IntKind.u64.wrap (x5 + (IntKind.u64.wrap ((Int.tmod (IntKind.u64.wrap (bt x0 x7)) 128) * x6))), x0.extract ((wrap64 (x7 + 1)) : Int).toNat x0.size, true)) else (some (0, (⟨#[]⟩ : ByteArray), false))) else (none)) else (none))) else (screeref01_Take.l0 k x0 (IntKind.u64.wrap (x5 + (IntKind.u64.wrap ((Int.tmod (IntKind.u64.wrap (bt x0 x7)) 128) * x6)))) (IntKind.u64.wrap (x6 * 128)) (wrap64 (x7 + 1)))) else (none)) else (none)) else (some (0, (⟨#[]⟩ : ByteArray), false))
end
def screeref01_Take.f (k : Nat) (a0 : ByteArray) : Option (Int × ByteArray × Bool) := screeref01_Take.l0 k a0 0 1 0
theorem screeref01_Take.mono_l : ∀ k, (∀ y0 y1 y2 y3, LeO (screeref01_Take.l0 k y0 y1 y2 y3) (screeref01_Take.l0 (k + 1) y0 y1 y2 y3)) ∧ (∀ y0 y1 y2 y3 y4, LeO (screeref01_Take.j1 k y0 y1 y2 y3 y4) (screeref01_Take.j1 (k + 1) y0 y1 y2 y3 y4))
 | 0 => ⟨fun _ _ _ _ r h => by simp [screeref01_Take.l0] at h, fun _ _ _ _ _ r h => by simp [screeref01_Take.j1] at h⟩
 | k + 1 => by
  obtain ⟨ih0, ih1⟩ := screeref01_Take.mono_l k
  refine ⟨?_, ?_⟩
  ·intro y0 y1 y2 y3
   unfold screeref01_Take.l0
   repeat' first
   | (with_reducible exact ih0 _ _ _ _)
   | (with_reducible exact ih1 _ _ _ _ _)
   | (with_reducible exact screeref01_Short.mono _ _)
   | (with_reducible exact LeO.refl _)
   | (with_reducible exact LeO.none _)
   | (with_reducible refine LeO.ite ?_ ?_)
   | (with_reducible refine LeO.bind ?_ (fun _ => ?_))
   | exact ih0 _ _ _ _
   | exact ih1 _ _ _ _ _
   | exact screeref01_Short.mono _ _
   | exact LeO.none _
   | refine LeO.ite ?_ ?_
   | refine LeO.bind ?_ (fun _ => ?_)
  ·intro y0 y1 y2 y3 y4
   unfold screeref01_Take.j1
   repeat' first
   | (with_reducible exact ih0 _ _ _ _)
   | (with_reducible exact ih1 _ _ _ _ _)
   | (with_reducible exact screeref01_Short.mono _ _)
   | (with_reducible exact LeO.refl _)
   | (with_reducible exact LeO.none _)
   | (with_reducible refine LeO.ite ?_ ?_)
   | (with_reducible refine LeO.bind ?_ (fun _ => ?_))
   | exact ih0 _ _ _ _
   | exact ih1 _ _ _ _ _
   | exact screeref01_Short.mono _ _
   | exact LeO.none _
   | refine LeO.ite ?_ ?_
   | refine LeO.bind ?_ (fun _ => ?_)
theorem screeref01_Take.mono : ∀ a0 k, LeO (screeref01_Take.f k a0) (screeref01_Take.f (k + 1) a0) := by
 intro a0 k
 obtain ⟨ih0, ih1⟩ := screeref01_Take.mono_l k
 unfold screeref01_Take.f
 repeat' first
   | (with_reducible exact ih0 _ _ _ _)
   | (with_reducible exact ih1 _ _ _ _ _)
   | (with_reducible exact screeref01_Short.mono _ _)
   | (with_reducible exact LeO.refl _)
   | (with_reducible exact LeO.none _)
   | (with_reducible refine LeO.ite ?_ ?_)
   | (with_reducible refine LeO.bind ?_ (fun _ => ?_))
   | exact ih0 _ _ _ _
   | exact ih1 _ _ _ _ _
   | exact screeref01_Short.mono _ _
   | exact LeO.none _
   | refine LeO.ite ?_ ?_
   | refine LeO.bind ?_ (fun _ => ?_)
def screeref01_Take.T12 : Bool × List (List Nat × List Nat) := (true, [([], []), ([], []), ([], []), ([2], [2]), ([1, 3], [1, 3]), ([0, 0], [0]), ([4, 5, 0, 1, 2, 3, 4, 5], [4]), ([6, 0, 1, 2, 3, 4, 5, 6], [])])
def screeref01_Take.B12 : List Nat := [0, 0, 0, 4, 14, 1, 63, 127]
theorem screeref01_Take.tab12 : rtab .any (opsOf Try.f37 12) = screeref01_Take.T12 := by kernel_rfl
theorem screeref01_Take.bits12 : waitsOk screeref01_Take.T12.2 screeref01_Take.B12 = true := by kernel_rfl
set_option maxHeartbeats 8000000 in
set_option maxRecDepth 100000 in
theorem screeref01_Take.calls (k : Nat) (a0 : ByteArray) (r1 : Int) (r2 : ByteArray) (r3 : Bool) (w : World) (h : screeref01_Take.f k a0 = some (r1, r2, r3)) :
  Calls Try.prog 37 #[.string a0] w fun e w' => e = .returned (.tuple #[.int .u64 r1, .string r2, .bool r3]) ∧ Below w.heap.size w w' := by
 have HB := Aside0.mk (Below.refl w.heap.size w)
 have H : (screeref01_Take.l0 k a0 0 1 0) = some (r1, r2, r3) := h
 clear h
 have H' := Aside0.mk H
 clear H
 go_enter Try.func37, Try.ntmps37
 go_wp2
 go_loopg [5, 6, 7] k (fun kq v5 v6 v7 w' => ∃ (x5_1 : Int) (x6_1 : Int) (x7_1 : Int), v5 = .int .u64 x5_1 ∧ v6 = .int .u64 x6_1 ∧ v7 = .int .i64 x7_1 ∧ Aside0 (screeref01_Take.l0 kq a0 x5_1 x6_1 x7_1 = some (r1, r2, r3)) ∧ Aside0 (kq ≤ k) ∧ Aside0 (Below w.heap.size w w'))
 case atStart => exact ⟨(0), (1), (0), rs_, rs_, rs_, H', ⟨Nat.le_refl _⟩, ⟨hB_⟩⟩
 case round =>
  clear H'
  obtain ⟨x5_1, x6_1, x7_1, rfl, rfl, rfl, HA, HK1, HB⟩ := hrel
  cases gk with
  | zero => exact absurd HA.out (by simp [screeref01_Take.l0])
  | succ k1 =>
   have H := HA.out
   clear HA
   simp only [screeref01_Take.l0] at H
   have HC2 := Aside0.mk H
   clear H
   go_upto_region 4 with (fail)
   go_cut [16] (fun v16 wc => ∃ (kq : Nat) (x16_1 : Bool), v16 = .bool x16_1 ∧ Aside0 (screeref01_Take.j1 kq a0 x5_1 x6_1 x7_1 x16_1 = some (r1, r2, r3)) ∧ Aside0 (kq ≤ k1) ∧ Aside0 (Below w.heap.size w wc))
   case first =>
    have H := HC2.out
    clear HC2
    by_cases c3 : x7_1 < (a0.size : Int)
    ·rw [if_pos c3] at H
     have c3b0 : decide (x7_1 < (a0.size : Int)) = true := decide_eq_true c3
     clear c3
     (first | rw [c3b0] | (simp only [i64_w, i32_w]; rw [c3b0]) | skip)
     have H' := Aside0.mk H
     clear H
     go_wp2
     go_meet
     case rel => exact ⟨_, (decide (x7_1 < 10)), rs_, hH_, ⟨by have := HK1.out; first | omega | exact Nat.le_refl _⟩, ⟨hB_⟩⟩
    ·rw [if_neg c3] at H
     have c3b0 : decide (x7_1 < (a0.size : Int)) = false := decide_eq_false c3
     clear c3
     (first | rw [c3b0] | (simp only [i64_w, i32_w]; rw [c3b0]) | skip)
     have H' := Aside0.mk H
     clear H
     go_wp2
     go_meet
     case rel => exact ⟨_, (false), rs_, hH_, ⟨by have := HK1.out; first | omega | exact Nat.le_refl _⟩, ⟨hB_⟩⟩
   case rest =>
    clear HC2
    try clear p2
    try clear c3
    try clear c3b0
    obtain ⟨kq, x16_1, rfl, HA, HJ1, HB⟩ := hcut
    cases kq with
    | zero => exact absurd HA.out (by simp [screeref01_Take.j1])
    | succ kj1 =>
     have H := HA.out
     clear HA
     simp only [screeref01_Take.j1] at H
     by_cases c4 : x16_1 = true
     ·subst c4
      have H1 : (if 0 ≤ x7_1 then (if x7_1 < (a0.size : Int) then (if (IntKind.u64.wrap (bt a0 x7_1)) < 128 then ((screeref01_Short.f kj1 (IntKind.u64.wrap (x5_1 + (IntKind.u64.wrap ((Int.tmod (IntKind.u64.wrap (bt a0 x7_1)) 128) * x6_1))))).bind fun t216 => (if 0 ≤ (wrap64 (x7_1 + 1)) then (if (wrap64 (x7_1 + 1)) ≤ (a0.size : Int) then (if t216.toList = (a0.extract 0 ((wrap64 (x7_1 + 1)) : Int).toNat).toList then (some (IntKind.u64.wrap (x5_1 + (IntKind.u64.wrap ((Int.tmod (IntKind.u64.wrap (bt a0 x7_1)) 128) * x6_1))), a0.extract ((wrap64 (x7_1 + 1)) : Int).toNat a0.size, true)) else (some (0, (⟨#[]⟩ : ByteArray), false))) else (none)) else (none))) else (screeref01_Take.l0 kj1 a0 (IntKind.u64.wrap (x5_1 + (IntKind.u64.wrap ((Int.tmod (IntKind.u64.wrap (bt a0 x7_1)) 128) * x6_1)))) (IntKind.u64.wrap (x6_1 * 128)) (wrap64 (x7_1 + 1)))) else (none)) else (none)) = some (r1, r2, r3) := by rw [if_pos rfl] at H; exact H
      clear H
      have H := H1
      clear H1
      by_cases c5 : 0 ≤ x7_1
      ·rw [if_pos c5] at H
       have c5b0 : decide (0 ≤ x7_1) = true := decide_eq_true c5
       clear c5
       by_cases c6 : x7_1 < (a0.size : Int)
       ·rw [if_pos c6] at H
        have c6b0 : decide (x7_1 < (a0.size : Int)) = true := decide_eq_true c6
        clear c6
        by_cases c8 : (IntKind.u64.wrap (bt a0 x7_1)) < 128
        ·rw [if_pos c8] at H
         have c8b0 : decide ((IntKind.u64.wrap (bt a0 x7_1)) < 128) = true := decide_eq_true c8
         clear c8
         replace H := Option.bind_eq_some_iff.mp H
         obtain ⟨t216, A90, H⟩ := H
         try dsimp only at H
         have A9 := Aside0.mk A90
         clear A90
         obtain ⟨ji10, hji10⟩ : ∃ j_ : Int, (wrap64 (x7_1 + 1)) = j_ := ⟨_, rfl⟩
         replace H : (if 0 ≤ (ji10) then (if (ji10) ≤ (a0.size : Int) then (if t216.toList = (a0.extract 0 ((ji10) : Int).toNat).toList then (some (IntKind.u64.wrap (x5_1 + (IntKind.u64.wrap ((Int.tmod (IntKind.u64.wrap (bt a0 x7_1)) 128) * x6_1))), a0.extract ((ji10) : Int).toNat a0.size, true)) else (some (0, (⟨#[]⟩ : ByteArray), false))) else (none)) else (none)) = some (r1, r2, r3) := by first | (rw [hji10] at H; exact H) | (simp only [hji10] at H ⊢; exact H)
         (try rw [hji10])
         (try rw [hji10] at A9)
         have hji10w : (IntKind.i64.wrap (x7_1 + 1)) = ji10 := (i64_w _).trans hji10
         by_cases c11 : 0 ≤ (ji10)
         ·rw [if_pos c11] at H
          have c11b0 := eq_true c11
          have c11b1 : decide (0 ≤ (ji10)) = true := decide_eq_true c11
          clear c11
          by_cases c12 : (ji10) ≤ (a0.size : Int)
          ·rw [if_pos c12] at H
           have c12b0 := eq_true c12
           have c12b1 : decide ((ji10) ≤ (a0.size : Int)) = true := decide_eq_true c12
           clear c12
           by_cases c13 : t216.toList = (a0.extract 0 ((ji10) : Int).toNat).toList
           ·rw [if_pos c13] at H
            have c13b0 : (t216.toList == (a0.extract 0 ((ji10) : Int).toNat).toList) = true := beq_iff_eq.mpr c13
            have c13b1 : (t216.toList != (a0.extract 0 ((ji10) : Int).toNat).toList) = false := bne_eq_false_iff_eq.mpr c13
            clear c13
            have c14b0 := eq_true (of_decide_eq_true as_ : 0 ≤ (ji10))
            have c15b0 := eq_true (of_decide_eq_true as_ : (ji10) ≤ (a0.size : Int))
            simp only [Option.some.injEq, Prod.mk.injEq] at H
            obtain ⟨rfl, rfl, rfl⟩ := H
            have p7 : 0 ≤ (x7_1 : Int) := of_decide_eq_true as_
            have q7 : x7_1 < (a0.size : Int) := of_decide_eq_true as_
            have hx7 := bt_at a0 x7_1
            replace p7 := eq_true p7
            replace q7 := eq_true q7
            try go_wp2
            have n0_ := Aside0.mk (below_drew1 HB.out)
            clear HB
            have HB := n0_
            clear n0_
            refine start_ (n := 7) (S := fun w' => True) (ds := []) #[N,N,N,N,N,N,N] (by kernel_rfl) rfl rfl trivial (fun hHeld => ?_)
            generalize wc.drew = w16 at HB hHeld ⊢
            refine pure_ (i := 0) (N := some 33) (v := ?_) (a' := ?_) #[Y,N,N,N,N,N,N] rfl rfl (by kernel_rfl) (fun _ _ _ h => h) (Or.inl ⟨by rfl, ?_⟩) ?_ ?_
            rotate_left
            ·intro w'
             go_simp
             with_reducible rfl
            rotate_left
            ·simp only [Act.put, List.setIfInBounds_toArray, List.set_cons_zero, List.set_cons_succ, i64_w, i32_w]
             rfl
            refine pure_ (i := 2) (N := some 35) (v := ?_) (a' := ?_) #[Y,N,Y,N,N,N,N] rfl rfl (by kernel_rfl) (fun _ _ _ h => h) (Or.inl ⟨by rfl, ?_⟩) ?_ ?_
            rotate_left
            ·intro w'
             go_simp
             with_reducible rfl
            rotate_left
            ·simp only [Act.put, List.setIfInBounds_toArray, List.set_cons_zero, List.set_cons_succ, i64_w, i32_w]
             rfl
            refine pure_ (i := 3) (N := some 36) (v := ?_) (a' := ?_) #[Y,N,Y,Y,N,N,N] rfl rfl (by kernel_rfl) (fun _ _ _ h => h) (Or.inl ⟨by rfl, ?_⟩) ?_ ?_
            rotate_left
            ·intro w'
             go_simp
             with_reducible rfl
            rotate_left
            ·simp only [Act.put, List.setIfInBounds_toArray, List.set_cons_zero, List.set_cons_succ, i64_w, i32_w]
             rfl
            refine pure_ (i := 4) (N := some 37) (v := ?_) (a' := ?_) #[Y,N,Y,Y,Y,N,N] rfl rfl (by kernel_rfl) (fun _ _ _ h => h) (Or.inl ⟨by rfl, ?_⟩) ?_ ?_
            rotate_left
            ·intro w'
             go_simp
             with_reducible rfl
            rotate_left
            ·simp only [Act.put, List.setIfInBounds_toArray, List.set_cons_zero, List.set_cons_succ, i64_w, i32_w]
             rfl
            refine pure_ (i := 5) (N := some 38) (v := ?_) (a' := ?_) #[Y,N,Y,Y,Y,Y,N] rfl rfl (by kernel_rfl) (fun _ _ _ h => h) (Or.inl ⟨by rfl, ?_⟩) ?_ ?_
            rotate_left
            ·intro w'
             go_simp
             with_reducible rfl
            rotate_left
            ·simp only [Act.put, List.setIfInBounds_toArray, List.set_cons_zero, List.set_cons_succ, i64_w, i32_w]
             rfl
            refine one_ (i := 1) (N := some 34) #[Y,Y,Y,Y,Y,Y,N] rfl rfl (by kernel_rfl) (by decide) (fun K hK => ?_)
            refine goes_ Try.func30 (by kernel_rfl) rfl #[.int .u64 (IntKind.u64.wrap (x5_1 + (IntKind.u64.wrap ((Int.tmod (IntKind.u64.wrap (bt a0 x7_1)) 128) * x6_1))))] (by rfl) rfl rfl hA_ ?_
            with_reducible refine (screeref01_Short.calls kj1 (IntKind.u64.wrap (x5_1 + (IntKind.u64.wrap ((Int.tmod (IntKind.u64.wrap (bt a0 x7_1)) 128) * x6_1)))) t216 _ A9.out).mono ?_
            rintro e w17 ⟨rfl, hb⟩
            refine ⟨_, rfl, ?_⟩
            have n0_ := Aside0.mk (below_step hB_ hb)
            clear HB
            have HB := n0_
            clear n0_
            (try clear hb)
            (try clear hb2)
            (try clear hk)
            (try clear hi)
            (try clear A9)
            refine hK.out _ _ trivial (fun hHeld => ?_)
            clear hK K
            refine norm_ (a' := ?_) ?_ ?_
            rotate_left
            ·show Act.put _ (some 34) _ = _
             simp only [Act.put, List.setIfInBounds_toArray, List.set_cons_zero, List.set_cons_succ, i64_w, i32_w]
             rfl
            refine pure_ (i := 6) (N := some 39) (v := ?_) (a' := ?_) #[Y,Y,Y,Y,Y,Y,Y] rfl rfl (by kernel_rfl) (fun _ _ _ h => h) (Or.inl ⟨by rfl, ?_⟩) ?_ ?_
            rotate_left
            ·intro w'
             go_simp
             with_reducible rfl
            rotate_left
            ·simp only [Act.put, List.setIfInBounds_toArray, List.set_cons_zero, List.set_cons_succ, i64_w, i32_w]
             rfl
            refine done_ (by kernel_rfl) ?_
            (try clear hHeld)
            (try clear c11b0); (try clear c11b1); (try clear c11b2); (try clear c11b3); (try clear c11b4); (try clear c11b5); (try clear c11b6); (try clear c12b0); (try clear c12b1); (try clear c12b2); (try clear c12b3); (try clear c12b4); (try clear c12b5); (try clear c12b6)
            try go_wp2
            have n0_ := Aside0.mk (below_drew1 HB.out)
            clear HB
            have HB := n0_
            clear n0_
            refine start_ (n := 8) (S := fun w' => True) (ds := []) #[N,N,N,N,N,N,N,N] (by kernel_rfl) rfl rfl trivial (fun hHeld => ?_); refine with_tabW screeref01_Take.tab12 screeref01_Take.bits12 (fun HT_ HW_ => ?_)
            generalize w17.drew = w18 at HB hHeld ⊢
            refine pure_ (i := 0) (N := some 40) (v := ?_) (a' := ?_) #[Y,N,N,N,N,N,N,N] rfl rfl (any_of HT_.out (by kernel_rfl)) (fun _ _ _ h => h) (Or.inl ⟨by rfl, ?_⟩) ?_ ?_
            rotate_left
            ·intro w'
             go_simp
             with_reducible rfl
            rotate_left
            ·simp only [Act.put, List.setIfInBounds_toArray, List.set_cons_zero, List.set_cons_succ, i64_w, i32_w]
             rfl
            refine pure_ (i := 1) (N := some 41) (v := ?_) (a' := ?_) #[Y,Y,N,N,N,N,N,N] rfl rfl (any_of HT_.out (by kernel_rfl)) (fun _ _ _ h => h) (Or.inl ⟨by rfl, ?_⟩) ?_ ?_
            rotate_left
            ·intro w'
             go_simp
             with_reducible rfl
            rotate_left
            ·simp only [Act.put, List.setIfInBounds_toArray, List.set_cons_zero, List.set_cons_succ, i64_w, i32_w]
             rfl
            refine pure_ (i := 2) (N := some 42) (v := ?_) (a' := ?_) #[Y,Y,Y,N,N,N,N,N] rfl rfl (any_of HT_.out (by kernel_rfl)) (fun _ _ _ h => h) (Or.inl ⟨by rfl, ?_⟩) ?_ ?_
            rotate_left
            ·intro w'
             go_simp
             with_reducible rfl
            rotate_left
            ·simp only [Act.put, List.setIfInBounds_toArray, List.set_cons_zero, List.set_cons_succ, i64_w, i32_w]
             rfl
            refine pure_ (i := 3) (N := some 43) (v := ?_) (a' := ?_) #[Y,Y,Y,Y,N,N,N,N] rfl rfl (any_of HT_.out (by kernel_rfl)) (fun _ _ _ h => h) (Or.inl ⟨by rfl, ?_⟩) ?_ ?_
            rotate_left
            ·intro w'
             go_simp
             with_reducible rfl
            rotate_left
            ·simp only [Act.put, List.setIfInBounds_toArray, List.set_cons_zero, List.set_cons_succ, i64_w, i32_w]
             rfl
            refine pure_ (i := 4) (N := some 44) (v := ?_) (a' := ?_) #[Y,Y,Y,Y,Y,N,N,N] rfl rfl (any_of HT_.out (by kernel_rfl)) (fun _ _ _ h => h) (Or.inl ⟨by rfl, ?_⟩) ?_ ?_
            rotate_left
            ·intro w'
             go_simp
             with_reducible rfl
            rotate_left
            ·simp only [Act.put, List.setIfInBounds_toArray, List.set_cons_zero, List.set_cons_succ, i64_w, i32_w]
             rfl
            refine pure_ (i := 5) (N := some 2) (v := ?_) (a' := ?_) #[Y,Y,Y,Y,Y,Y,N,N] rfl rfl (any_of HT_.out (by kernel_rfl)) (fun _ _ _ h => h) (Or.inl ⟨by rfl, ?_⟩) ?_ ?_
            rotate_left
            ·intro w'
             go_simp
             with_reducible rfl
            rotate_left
            ·simp only [Act.put, List.setIfInBounds_toArray, List.set_cons_zero, List.set_cons_succ, i64_w, i32_w]
             rfl
            refine pure_ (i := 6) (N := some 3) (v := ?_) (a' := ?_) #[Y,Y,Y,Y,Y,Y,Y,N] rfl rfl (any_of HT_.out (by kernel_rfl)) (fun _ _ _ h => h) (Or.inl ⟨by rfl, ?_⟩) ?_ ?_
            rotate_left
            ·intro w'
             go_simp
             with_reducible rfl
            rotate_left
            ·simp only [Act.put, List.setIfInBounds_toArray, List.set_cons_zero, List.set_cons_succ, i64_w, i32_w]
             rfl
            refine pure_ (i := 7) (N := some 4) (v := ?_) (a' := ?_) #[Y,Y,Y,Y,Y,Y,Y,Y] rfl rfl (any_of HT_.out (by kernel_rfl)) (fun _ _ _ h => h) (Or.inl ⟨by rfl, ?_⟩) ?_ ?_
            rotate_left
            ·intro w'
             go_simp
             with_reducible rfl
            rotate_left
            ·simp only [Act.put, List.setIfInBounds_toArray, List.set_cons_zero, List.set_cons_succ, i64_w, i32_w]
             rfl
            refine done_ (done_of HT_.out (by kernel_rfl)) ?_
            (try clear hHeld)
            (try clear c11b0); (try clear c11b1); (try clear c11b2); (try clear c11b3); (try clear c11b4); (try clear c11b5); (try clear c11b6); (try clear c12b0); (try clear c12b1); (try clear c12b2); (try clear c12b3); (try clear c12b4); (try clear c12b5); (try clear c12b6)
            try go_wp2
            go_ret3
            exact ⟨by first | rfl | (simp [errW_none, errW_some] <;> rfl) | (simp (disch := omega) only [← i64_w, IntWalk.i64_in]; rfl) | (simp only [← hji10]; first | rfl | (simp [errW_none, errW_some] <;> rfl)) | (simp [*, errW_none, errW_some] <;> rfl), hB_⟩
           ·rw [if_neg c13] at H
            have c13b0 : (t216.toList == (a0.extract 0 ((ji10) : Int).toNat).toList) = false := beq_eq_false_iff_ne.mpr c13
            have c13b1 : (t216.toList != (a0.extract 0 ((ji10) : Int).toNat).toList) = true := bne_iff_ne.mpr c13
            simp only [Option.some.injEq, Prod.mk.injEq] at H
            obtain ⟨rfl, rfl, rfl⟩ := H
            have p7 : 0 ≤ (x7_1 : Int) := of_decide_eq_true as_
            have q7 : x7_1 < (a0.size : Int) := of_decide_eq_true as_
            have hx7 := bt_at a0 x7_1
            replace p7 := eq_true p7
            replace q7 := eq_true q7
            try go_wp2
            have n0_ := Aside0.mk (below_drew1 HB.out)
            clear HB
            have HB := n0_
            clear n0_
            refine start_ (n := 7) (S := fun w' => True) (ds := []) #[N,N,N,N,N,N,N] (by kernel_rfl) rfl rfl trivial (fun hHeld => ?_)
            generalize wc.drew = w19 at HB hHeld ⊢
            refine pure_ (i := 0) (N := some 33) (v := ?_) (a' := ?_) #[Y,N,N,N,N,N,N] rfl rfl (by kernel_rfl) (fun _ _ _ h => h) (Or.inl ⟨by rfl, ?_⟩) ?_ ?_
            rotate_left
            ·intro w'
             go_simp
             with_reducible rfl
            rotate_left
            ·simp only [Act.put, List.setIfInBounds_toArray, List.set_cons_zero, List.set_cons_succ, i64_w, i32_w]
             rfl
            refine pure_ (i := 2) (N := some 35) (v := ?_) (a' := ?_) #[Y,N,Y,N,N,N,N] rfl rfl (by kernel_rfl) (fun _ _ _ h => h) (Or.inl ⟨by rfl, ?_⟩) ?_ ?_
            rotate_left
            ·intro w'
             go_simp
             with_reducible rfl
            rotate_left
            ·simp only [Act.put, List.setIfInBounds_toArray, List.set_cons_zero, List.set_cons_succ, i64_w, i32_w]
             rfl
            refine pure_ (i := 3) (N := some 36) (v := ?_) (a' := ?_) #[Y,N,Y,Y,N,N,N] rfl rfl (by kernel_rfl) (fun _ _ _ h => h) (Or.inl ⟨by rfl, ?_⟩) ?_ ?_
            rotate_left
            ·intro w'
             go_simp
             with_reducible rfl
            rotate_left
            ·simp only [Act.put, List.setIfInBounds_toArray, List.set_cons_zero, List.set_cons_succ, i64_w, i32_w]
             rfl
            refine pure_ (i := 4) (N := some 37) (v := ?_) (a' := ?_) #[Y,N,Y,Y,Y,N,N] rfl rfl (by kernel_rfl) (fun _ _ _ h => h) (Or.inl ⟨by rfl, ?_⟩) ?_ ?_
            rotate_left
            ·intro w'
             go_simp
             with_reducible rfl
            rotate_left
            ·simp only [Act.put, List.setIfInBounds_toArray, List.set_cons_zero, List.set_cons_succ, i64_w, i32_w]
             rfl
            refine pure_ (i := 5) (N := some 38) (v := ?_) (a' := ?_) #[Y,N,Y,Y,Y,Y,N] rfl rfl (by kernel_rfl) (fun _ _ _ h => h) (Or.inl ⟨by rfl, ?_⟩) ?_ ?_
            rotate_left
            ·intro w'
             go_simp
             with_reducible rfl
            rotate_left
            ·simp only [Act.put, List.setIfInBounds_toArray, List.set_cons_zero, List.set_cons_succ, i64_w, i32_w]
             rfl
            refine one_ (i := 1) (N := some 34) #[Y,Y,Y,Y,Y,Y,N] rfl rfl (by kernel_rfl) (by decide) (fun K hK => ?_)
            refine goes_ Try.func30 (by kernel_rfl) rfl #[.int .u64 (IntKind.u64.wrap (x5_1 + (IntKind.u64.wrap ((Int.tmod (IntKind.u64.wrap (bt a0 x7_1)) 128) * x6_1))))] (by rfl) rfl rfl hA_ ?_
            with_reducible refine (screeref01_Short.calls kj1 (IntKind.u64.wrap (x5_1 + (IntKind.u64.wrap ((Int.tmod (IntKind.u64.wrap (bt a0 x7_1)) 128) * x6_1)))) t216 _ A9.out).mono ?_
            rintro e w20 ⟨rfl, hb⟩
            refine ⟨_, rfl, ?_⟩
            have n0_ := Aside0.mk (below_step hB_ hb)
            clear HB
            have HB := n0_
            clear n0_
            (try clear hb)
            (try clear hb2)
            (try clear hk)
            (try clear hi)
            (try clear A9)
            refine hK.out _ _ trivial (fun hHeld => ?_)
            clear hK K
            refine norm_ (a' := ?_) ?_ ?_
            rotate_left
            ·show Act.put _ (some 34) _ = _
             simp only [Act.put, List.setIfInBounds_toArray, List.set_cons_zero, List.set_cons_succ, i64_w, i32_w]
             rfl
            refine pure_ (i := 6) (N := some 39) (v := ?_) (a' := ?_) #[Y,Y,Y,Y,Y,Y,Y] rfl rfl (by kernel_rfl) (fun _ _ _ h => h) (Or.inl ⟨by rfl, ?_⟩) ?_ ?_
            rotate_left
            ·intro w'
             go_simp
             with_reducible rfl
            rotate_left
            ·simp only [Act.put, List.setIfInBounds_toArray, List.set_cons_zero, List.set_cons_succ, i64_w, i32_w]
             rfl
            refine done_ (by kernel_rfl) ?_
            (try clear hHeld)
            (try clear c11b0); (try clear c11b1); (try clear c11b2); (try clear c11b3); (try clear c11b4); (try clear c11b5); (try clear c11b6); (try clear c12b0); (try clear c12b1); (try clear c12b2); (try clear c12b3); (try clear c12b4); (try clear c12b5); (try clear c12b6)
            try go_wp2
            go_ret3
            exact ⟨by first | rfl | (simp [errW_none, errW_some] <;> rfl) | (simp (disch := omega) only [← i64_w, IntWalk.i64_in]; rfl) | (simp only [← hji10]; first | rfl | (simp [errW_none, errW_some] <;> rfl)) | (simp [*, errW_none, errW_some] <;> rfl), hB_⟩
          ·rw [if_neg c12] at H
           exact absurd H (by simp)
         ·rw [if_neg c11] at H
          exact absurd H (by simp)
        ·rw [if_neg c8] at H
         have c8b0 : decide ((IntKind.u64.wrap (bt a0 x7_1)) < 128) = false := decide_eq_false c8
         clear c8
         have H' := Aside0.mk H
         clear H
         have p7 : 0 ≤ (x7_1 : Int) := of_decide_eq_true as_
         have q7 : x7_1 < (a0.size : Int) := of_decide_eq_true as_
         have hx7 := bt_at a0 x7_1
         replace p7 := eq_true p7
         replace q7 := eq_true q7
         go_wp2
         go_roundg kj1
         case measure => have := HK1.out; have := HJ1.out; omega
         case rel => exact ⟨(IntKind.u64.wrap (x5_1 + (IntKind.u64.wrap ((Int.tmod (IntKind.u64.wrap (bt a0 x7_1)) 128) * x6_1)))), (IntKind.u64.wrap (x6_1 * 128)), (wrap64 (x7_1 + 1)), rs_, rs_, rs_, hH_, ⟨by have := HK1.out; have := HJ1.out; omega⟩, ⟨hB_⟩⟩
       ·rw [if_neg c6] at H
        exact absurd H (by simp)
      ·rw [if_neg c5] at H
       exact absurd H (by simp)
     ·replace c4 := Bool.eq_false_iff.mpr c4
      subst c4
      have H1 : (some (0, (⟨#[]⟩ : ByteArray), false)) = some (r1, r2, r3) := by rw [if_neg (show ¬ (false = true) by decide)] at H; exact H
      clear H
      have H := H1
      clear H1
      simp only [Option.some.injEq, Prod.mk.injEq] at H
      obtain ⟨rfl, rfl, rfl⟩ := H
      go_wp2
      go_ret3
      exact ⟨rf_, hB_⟩

/-- A state of type 63 at block g of W; what its slices lead to came in by w0. -/
def IsS63 (w0 W : World) (g : Nat) (f0 : ByteArray) (f1 : Bool) : Prop := W.heap[g]? = some (.cells #[.string f0, .bool f1] 63 (0, 0)) ∧ w0.heap.size ≤ g
theorem IsS63.grown {w0 W : World} {g : Nat} {f0 : ByteArray} {f1 : Bool} {W1 : World} {row : Option Nat} (h : IsS63 w0 W g f0 f1) (hw : W.grownBy W1 row) (hne : some g ≠ row) : IsS63 w0 W1 g f0 f1 := by
 obtain ⟨hb, hg⟩ := h
 exact ⟨blk_grown hb hw hne, hg⟩
theorem IsS63.below {w0 W : World} {g : Nat} {f0 : ByteArray} {f1 : Bool} {W1 : World} (h : IsS63 w0 W g f0 f1) (hw : Below W.heap.size W W1) : IsS63 w0 W1 g f0 f1 := h.grown (grown_of_below hw none) (by simp)
theorem IsS63.alloc {w0 W : World} {g : Nat} {f0 : ByteArray} {f1 : Bool} (h : IsS63 w0 W g f0 f1) (o : Obj) : IsS63 w0 (W.alloc o) g f0 f1 := h.below (below_alloc (Below.refl _ _) o)
theorem IsS63.drewN {w0 W : World} {g : Nat} {f0 : ByteArray} {f1 : Bool} (h : IsS63 w0 W g f0 f1) (m : Nat) : IsS63 w0 (W.drewN m) g f0 f1 := h
theorem IsS63.drew {w0 W : World} {g : Nat} {f0 : ByteArray} {f1 : Bool} (h : IsS63 w0 W g f0 f1) : IsS63 w0 W.drew g f0 f1 := h
theorem IsS63.ge {w0 W : World} {g : Nat} {f0 : ByteArray} {f1 : Bool} (h : IsS63 w0 W g f0 f1) : w0.heap.size ≤ g := by
 obtain ⟨hb, hg⟩ := h
 exact hg
theorem IsS63.far {w0 W : World} {g : Nat} {f0 : ByteArray} {f1 : Bool} {p : Addr} (h : IsS63 w0 W g f0 f1) (hne : g ≠ p.block) (u : Value) : IsS63 w0 (W.setCell p u) g f0 f1 := by
 obtain ⟨hb, hg⟩ := h
 exact ⟨blk_far hb hne u, hg⟩
theorem cellS63_0 {W : World} {g : Nat} {f0 : ByteArray} {f1 : Bool} (h : W.heap[g]? = some (.cells #[.string f0, .bool f1] 63 (0, 0))) : W.cell? ⟨g, 0, none⟩ = some (.string f0) := (blk_cell h 0).trans rfl
theorem IsS63.set_0 {w0 W : World} {g : Nat} {f0 : ByteArray} {f1 : Bool} (h : IsS63 w0 W g f0 f1) (x : ByteArray) : IsS63 w0 (W.setCell ⟨g, 0, none⟩ (.string x)) g x f1 := by
 obtain ⟨hb, hg⟩ := h
 exact ⟨by simpa using blk_set hb 0 (.string x), hg⟩
theorem cellS63_1 {W : World} {g : Nat} {f0 : ByteArray} {f1 : Bool} (h : W.heap[g]? = some (.cells #[.string f0, .bool f1] 63 (0, 0))) : W.cell? ⟨g, 1, none⟩ = some (.bool f1) := (blk_cell h 1).trans rfl
theorem IsS63.set_1 {w0 W : World} {g : Nat} {f0 : ByteArray} {f1 : Bool} (h : IsS63 w0 W g f0 f1) (x : Bool) : IsS63 w0 (W.setCell ⟨g, 1, none⟩ (.bool x)) g f0 x := by
 obtain ⟨hb, hg⟩ := h
 exact ⟨by simpa using blk_set hb 1 (.bool x), hg⟩

/-! ### screeref12_In_Num: function 33 -/
def screeref12_In_Num.f (k : Nat) (s0_0 : ByteArray) (s0_1 : Bool) : Option (Int × ByteArray × Bool) := (screeref01_Take.f k s0_0).bind fun bt217 => (if bt217.2.2 = true then (if s0_1 = true then (some (0, s0_0, true)) else (some (bt217.1, bt217.2.1, s0_1))) else (some (0, s0_0, true)))
theorem screeref12_In_Num.mono : ∀ a0 a1 k, LeO (screeref12_In_Num.f k a0 a1) (screeref12_In_Num.f (k + 1) a0 a1) := by
 intro a0 a1 k
 unfold screeref12_In_Num.f
 repeat' first
   | (with_reducible exact screeref01_Take.mono _ _)
   | (with_reducible exact LeO.refl _)
   | (with_reducible exact LeO.none _)
   | (with_reducible refine LeO.ite ?_ ?_)
   | (with_reducible refine LeO.bind ?_ (fun _ => ?_))
   | exact screeref01_Take.mono _ _
   | exact LeO.none _
   | refine LeO.ite ?_ ?_
   | refine LeO.bind ?_ (fun _ => ?_)
set_option maxHeartbeats 8000000 in
set_option maxRecDepth 100000 in
theorem screeref12_In_Num.calls (k : Nat) (g : Nat) (s0_0 : ByteArray) (s0_1 : Bool) (r1 : Int) (r2 : ByteArray) (r3 : Bool) (w0 w : World) (hI : IsS63 w0 w g s0_0 s0_1) (hB : Below w0.heap.size w0 w) (h : screeref12_In_Num.f k s0_0 s0_1 = some (r1, r2, r3)) :
  Calls Try.prog 33 #[.pointer (some ⟨g, 0, none⟩)] w fun e w' => e = .returned (.int .u64 r1) ∧ IsS63 w0 w' g r2 r3 ∧ Below w0.heap.size w0 w' ∧ KeepBut w w' g none := by
 have HI0 := Aside0.mk hI
 have HK := Aside0.mk (KeepBut.refl w g none)
 have HL := Aside0.mk hB.size
 clear hI
 have HW0 := Aside0.mk hB.size
 have HB := Aside0.mk hB
 clear hB
 have H : ((screeref01_Take.f k s0_0).bind fun bt217 => (if bt217.2.2 = true then (if s0_1 = true then (some (0, s0_0, true)) else (some (bt217.1, bt217.2.1, s0_1))) else (some (0, s0_0, true)))) = some (r1, r2, r3) := h
 clear h
 replace H := Option.bind_eq_some_iff.mp H
 obtain ⟨⟨t217, t218, t219⟩, A20, H⟩ := H
 try dsimp only at H
 have A2 := Aside0.mk A20
 clear A20
 by_cases c3 : t219 = true
 ·subst c3
  have H1 : (if s0_1 = true then (some (0, s0_0, true)) else (some (t217, t218, s0_1))) = some (r1, r2, r3) := by rw [if_pos rfl] at H; exact H
  clear H
  have H := H1
  clear H1
  by_cases c4 : s0_1 = true
  ·subst c4
   have H1 : (some (0, s0_0, true)) = some (r1, r2, r3) := by rw [if_pos rfl] at H; exact H
   clear H
   have H := H1
   clear H1
   simp only [Option.some.injEq, Prod.mk.injEq] at H
   obtain ⟨rfl, rfl, rfl⟩ := H
   obtain ⟨HGz5, hgz5⟩ := HI0.out
   have hcz5_0 := cellS63_0 HGz5
   have hcz5_1 := cellS63_1 HGz5
   have hfz5_0 := blk_frozen HGz5 0
   have hfz5_1 := blk_frozen HGz5 1
   clear HGz5 hgz5
   go_enter Try.func33, Try.ntmps33
   go_wp2_with (first | ((with_reducible refine gate_callee (f := 37) rfl ?_); refine goesL_ (some 11) rfl rfl Try.func37 (by kernel_rfl) rfl #[.string s0_0] rfl hA_ ?_; (with_reducible refine (screeref01_Take.calls k s0_0 t217 t218 true _ A2.out).mono ?_); rintro e w6 ⟨rfl, hb⟩; refine ⟨_, rfl, ?_⟩; have n0_ := Aside0.mk (IsS63.below (by repeat (first | (with_reducible first | exact HI0.out | apply IsS63.alloc | apply IsS63.drewN | apply IsS63.drew | apply IsS63.set_0 | apply IsS63.set_1) | exact HI0.out)) hb); have n1_ := Aside0.mk (KeepBut.trans (by repeat (first | (with_reducible first | exact HK.out | apply KeepBut.set_ | apply keep_drewN | apply keep_drew | apply keep_alloc) | exact HK.out)) (KeepBut.of_below hb g none) (.inl rfl)); have n2_ := Aside0.mk (below_step (by repeat (first | (with_reducible first | exact HB.out | apply below_alloc | apply pw_below_drewN | apply below_drew1 | refine below_set ?_ (IsS63.ge HI0.out)) | exact HB.out)) hb); clear HI0; clear HK; clear HB; have HI0 := n0_; have HK := n1_; have HB := n2_; clear n0_ n1_ n2_; (try clear hb); (try clear hb2); (try clear hk); (try clear hi); (try clear A2); obtain ⟨HGz7, hgz7⟩ := HI0.out; have hcz7_0 := cellS63_0 HGz7; have hcz7_1 := cellS63_1 HGz7; have hfz7_0 := blk_frozen HGz7 0; have hfz7_1 := blk_frozen HGz7 1; clear HGz7 hgz7))
   go_ret
   exact ⟨rf_, by repeat (first | (with_reducible first | exact HI0.out | apply IsS63.alloc | apply IsS63.drewN | apply IsS63.drew | apply IsS63.set_0 | apply IsS63.set_1) | exact HI0.out), by repeat (first | (with_reducible first | exact HB.out | apply below_alloc | apply pw_below_drewN | apply below_drew1 | refine below_set ?_ (IsS63.ge HI0.out)) | exact HB.out), by repeat (first | (with_reducible first | exact HK.out | apply KeepBut.set_ | apply keep_drewN | apply keep_drew | apply keep_alloc) | exact HK.out)⟩
  ·replace c4 := Bool.eq_false_iff.mpr c4
   subst c4
   have H1 : (some (t217, t218, false)) = some (r1, r2, r3) := by rw [if_neg (show ¬ (false = true) by decide)] at H; exact H
   clear H
   have H := H1
   clear H1
   simp only [Option.some.injEq, Prod.mk.injEq] at H
   obtain ⟨rfl, rfl, rfl⟩ := H
   obtain ⟨HGz8, hgz8⟩ := HI0.out
   have hcz8_0 := cellS63_0 HGz8
   have hcz8_1 := cellS63_1 HGz8
   have hfz8_0 := blk_frozen HGz8 0
   have hfz8_1 := blk_frozen HGz8 1
   clear HGz8 hgz8
   go_enter Try.func33, Try.ntmps33
   go_wp2_with (first | ((with_reducible refine gate_callee (f := 37) rfl ?_); refine goesL_ (some 11) rfl rfl Try.func37 (by kernel_rfl) rfl #[.string s0_0] rfl hA_ ?_; (with_reducible refine (screeref01_Take.calls k s0_0 t217 t218 true _ A2.out).mono ?_); rintro e w9 ⟨rfl, hb⟩; refine ⟨_, rfl, ?_⟩; have n0_ := Aside0.mk (IsS63.below (by repeat (first | (with_reducible first | exact HI0.out | apply IsS63.alloc | apply IsS63.drewN | apply IsS63.drew | apply IsS63.set_0 | apply IsS63.set_1) | exact HI0.out)) hb); have n1_ := Aside0.mk (KeepBut.trans (by repeat (first | (with_reducible first | exact HK.out | apply KeepBut.set_ | apply keep_drewN | apply keep_drew | apply keep_alloc) | exact HK.out)) (KeepBut.of_below hb g none) (.inl rfl)); have n2_ := Aside0.mk (below_step (by repeat (first | (with_reducible first | exact HB.out | apply below_alloc | apply pw_below_drewN | apply below_drew1 | refine below_set ?_ (IsS63.ge HI0.out)) | exact HB.out)) hb); clear HI0; clear HK; clear HB; have HI0 := n0_; have HK := n1_; have HB := n2_; clear n0_ n1_ n2_; (try clear hb); (try clear hb2); (try clear hk); (try clear hi); (try clear A2); obtain ⟨HGz10, hgz10⟩ := HI0.out; have hcz10_0 := cellS63_0 HGz10; have hcz10_1 := cellS63_1 HGz10; have hfz10_0 := blk_frozen HGz10 0; have hfz10_1 := blk_frozen HGz10 1; clear HGz10 hgz10))
   go_ret
   exact ⟨rf_, by repeat (first | (with_reducible first | exact HI0.out | apply IsS63.alloc | apply IsS63.drewN | apply IsS63.drew | apply IsS63.set_0 | apply IsS63.set_1) | exact HI0.out), by repeat (first | (with_reducible first | exact HB.out | apply below_alloc | apply pw_below_drewN | apply below_drew1 | refine below_set ?_ (IsS63.ge HI0.out)) | exact HB.out), by repeat (first | (with_reducible first | exact HK.out | apply KeepBut.set_ | apply keep_drewN | apply keep_drew | apply keep_alloc) | exact HK.out)⟩
 ·replace c3 := Bool.eq_false_iff.mpr c3
  subst c3
  have H1 : (some (0, s0_0, true)) = some (r1, r2, r3) := by rw [if_neg (show ¬ (false = true) by decide)] at H; exact H
  clear H
  have H := H1
  clear H1
  simp only [Option.some.injEq, Prod.mk.injEq] at H
  obtain ⟨rfl, rfl, rfl⟩ := H
  obtain ⟨HGz11, hgz11⟩ := HI0.out
  have hcz11_0 := cellS63_0 HGz11
  have hcz11_1 := cellS63_1 HGz11
  have hfz11_0 := blk_frozen HGz11 0
  have hfz11_1 := blk_frozen HGz11 1
  clear HGz11 hgz11
  go_enter Try.func33, Try.ntmps33
  go_wp2_with (first | ((with_reducible refine gate_callee (f := 37) rfl ?_); refine goesL_ (some 11) rfl rfl Try.func37 (by kernel_rfl) rfl #[.string s0_0] rfl hA_ ?_; (with_reducible refine (screeref01_Take.calls k s0_0 t217 t218 false _ A2.out).mono ?_); rintro e w12 ⟨rfl, hb⟩; refine ⟨_, rfl, ?_⟩; have n0_ := Aside0.mk (IsS63.below (by repeat (first | (with_reducible first | exact HI0.out | apply IsS63.alloc | apply IsS63.drewN | apply IsS63.drew | apply IsS63.set_0 | apply IsS63.set_1) | exact HI0.out)) hb); have n1_ := Aside0.mk (KeepBut.trans (by repeat (first | (with_reducible first | exact HK.out | apply KeepBut.set_ | apply keep_drewN | apply keep_drew | apply keep_alloc) | exact HK.out)) (KeepBut.of_below hb g none) (.inl rfl)); have n2_ := Aside0.mk (below_step (by repeat (first | (with_reducible first | exact HB.out | apply below_alloc | apply pw_below_drewN | apply below_drew1 | refine below_set ?_ (IsS63.ge HI0.out)) | exact HB.out)) hb); clear HI0; clear HK; clear HB; have HI0 := n0_; have HK := n1_; have HB := n2_; clear n0_ n1_ n2_; (try clear hb); (try clear hb2); (try clear hk); (try clear hi); (try clear A2); obtain ⟨HGz13, hgz13⟩ := HI0.out; have hcz13_0 := cellS63_0 HGz13; have hcz13_1 := cellS63_1 HGz13; have hfz13_0 := blk_frozen HGz13 0; have hfz13_1 := blk_frozen HGz13 1; clear HGz13 hgz13))
  go_ret
  exact ⟨rf_, by repeat (first | (with_reducible first | exact HI0.out | apply IsS63.alloc | apply IsS63.drewN | apply IsS63.drew | apply IsS63.set_0 | apply IsS63.set_1) | exact HI0.out), by repeat (first | (with_reducible first | exact HB.out | apply below_alloc | apply pw_below_drewN | apply below_drew1 | refine below_set ?_ (IsS63.ge HI0.out)) | exact HB.out), by repeat (first | (with_reducible first | exact HK.out | apply KeepBut.set_ | apply keep_drewN | apply keep_drew | apply keep_alloc) | exact HK.out)⟩

/-! ### screeref15_Unlock: function 19 -/
def screeref15_Unlock.f (k : Nat) (a0 : ByteArray) : Option (ByteArray × Int × Int × Int × Int) :=
 if a0.size = 0 then some (⟨#[]⟩, 0, 0, 0, 2) else
 (screeref12_In_Num.f k (a0.extract 1 a0.size) false).bind fun a => (screeref12_In_Num.f k a.2.1 a.2.2).bind fun b =>
 (screeref15_Lock.f k b.2.1 a.1 (bt a0 0) b.1).bind fun c => if b.2.2 = true ∨ c.2 ≠ 0 ∨ c.1.toList ≠ a0.toList then some (⟨#[]⟩, 0, 0, 0, 2) else some (b.2.1, a.1, bt a0 0, b.1, 0)
theorem screeref15_Unlock.mono : ∀ a0 k, LeO (screeref15_Unlock.f k a0) (screeref15_Unlock.f (k + 1) a0) := by
 intro a0 k
 unfold screeref15_Unlock.f
 exact LeO.ite (LeO.refl _) (LeO.bind (screeref12_In_Num.mono _ _ _) (fun _ => LeO.bind (screeref12_In_Num.mono _ _ _) (fun _ => LeO.bind (screeref15_Lock.mono _ _ _ _ _) (fun _ => LeO.refl _))))
set_option maxHeartbeats 3200000 in
set_option maxRecDepth 100000 in
theorem screeref15_Unlock.calls (k : Nat) (a0 : ByteArray) (r1 : ByteArray) (r2 r3 r4 r5 : Int) (w : World) (h : screeref15_Unlock.f k a0 = some (r1, r2, r3, r4, r5)) :
  Calls Try.prog 19 #[.string a0] w fun e w' => e = .returned (.tuple #[.agg #[.string r1, .int .u64 r2, .int .i64 r3, .int .u64 r4], .int .i64 r5]) ∧ Below w.heap.size w w' := by
 have hu24 := Try.underlying24
 have hfin : ∀ (tmps : Array Value) (W : World) (g : Nat) (c0 c1 c2 c3 : Value), tmps.getD 2 undef = .pointer (some ⟨g, 0, none⟩) → W.heap[g]? = some (.cells #[c0, c1, c2, c3] 24 (0, 0)) → (results Try.f19 tmps).run Try.prog W = .ok (.tuple #[.agg #[c0, c1, c2, c3], tmps.getD 3 undef]) W :=
  fun tmps W g c0 c1 c2 c3 hp hg => results_ct rfl tmps W g _ #[c0, c1, c2, c3] (0, 0) _ hp hg hu24 rfl (by kernel_rfl)
 unfold screeref15_Unlock.f at h
 by_cases hz : a0.size = 0
 ·rw [if_pos hz] at h
  simp only [Option.some.injEq, Prod.mk.injEq] at h
  obtain ⟨rfl, rfl, rfl, rfl, rfl⟩ := h
  have d1 : ((a0.size : Int) == 0) = true := by rw [hz]; rfl
  clear hz
  go_enter Try.func19, Try.ntmps19
  go_wp2
  exact bodyPost_ret (v := .tuple #[.agg #[.string ⟨#[]⟩, .int .u64 0, .int .i64 0, .int .u64 0], .int .i64 2]) (by simp [results, Try.results19, go_sem]) rfl ⟨rfl, below_alloc (Below.refl _ _) _⟩
 ·rw [if_neg hz] at h
  have d1 : ((a0.size : Int) == 0) = false := beq_eq_false_iff_ne.mpr (by omega)
  have hpos : 0 < a0.size := by omega
  clear hz
  replace h := Option.bind_eq_some_iff.mp h
  obtain ⟨⟨n1, s1, q1⟩, hA, h⟩ := h
  replace h := Option.bind_eq_some_iff.mp h
  obtain ⟨⟨n2, s2, q2⟩, hB, h⟩ := h
  replace h := Option.bind_eq_some_iff.mp h
  obtain ⟨⟨is, e3⟩, hC, h⟩ := h
  have HA := Lib.hid hA
  have HB0 := Lib.hid hB
  have HC := Lib.hid hC
  have HH := Lib.hid h
  clear hA hB hC h
  go_enter Try.func19, Try.ntmps19
  obtain ⟨kd, hkd⟩ : ∃ kd, wrap64 ((a0[0].toNat : Nat) : Int) = kd := ⟨_, rfl⟩
  have hkb : bt a0 0 = kd := by
   rw [← hkd]
   unfold bt
   have h0 : ((0 : Int)).toNat < a0.size := by simpa using hpos
   rw [dif_pos h0]
   have := a0[0].toNat_lt
   have e : wrap64 ((a0[0].toNat : Nat) : Int) = ((a0[0].toNat : Nat) : Int) := by unfold wrap64; omega
   rw [e]; rfl
  rw [hkb] at HC HH
  clear hkb
  have HP := Lib.hid hpos
  go_wp2_with (fail)
  have HKD := Lib.hid hkd
  clear hkd
  have hIc : (((w.alloc (.cells #[.string ⟨#[]⟩, .int .u64 0, .int .i64 0, .int .u64 0] 24)).alloc (.cells #[.string (a0.extract 1 a0.size), .bool false] 63)).alloc (.cells #[.string ⟨#[]⟩, .int .u64 0, .int .i64 kd, .int .u64 0] 24)).heap[w.heap.size + 1]? = some (.cells #[.string (a0.extract 1 a0.size), .bool false] 63 (0, 0)) := by
   refine blk_alloc ?_ _
   have := blk_new (w.alloc (.cells #[.string ⟨#[]⟩, .int .u64 0, .int .i64 0, .int .u64 0] 24)) (.cells #[.string (a0.extract 1 a0.size), .bool false] 63)
   rwa [World.size_alloc] at this
  have hLc : (((w.alloc (.cells #[.string ⟨#[]⟩, .int .u64 0, .int .i64 0, .int .u64 0] 24)).alloc (.cells #[.string (a0.extract 1 a0.size), .bool false] 63)).alloc (.cells #[.string ⟨#[]⟩, .int .u64 0, .int .i64 kd, .int .u64 0] 24)).heap[w.heap.size + 1 + 1]? = some (.cells #[.string ⟨#[]⟩, .int .u64 0, .int .i64 kd, .int .u64 0] 24 (0, 0)) := by
   have := blk_new ((w.alloc (.cells #[.string ⟨#[]⟩, .int .u64 0, .int .i64 0, .int .u64 0] 24)).alloc (.cells #[.string (a0.extract 1 a0.size), .bool false] 63)) (.cells #[.string ⟨#[]⟩, .int .u64 0, .int .i64 kd, .int .u64 0] 24)
   rwa [World.size_alloc, World.size_alloc] at this
  have HI1 : Aside0 (IsS63 w _ (w.heap.size + 1) (a0.extract 1 a0.size) false) := ⟨⟨hIc, Nat.le_succ _⟩⟩
  have BL1 := Aside0.mk hLc
  have HB1 : Aside0 (Below w.heap.size w (((w.alloc (.cells #[.string ⟨#[]⟩, .int .u64 0, .int .i64 0, .int .u64 0] 24)).alloc (.cells #[.string (a0.extract 1 a0.size), .bool false] 63)).alloc (.cells #[.string ⟨#[]⟩, .int .u64 0, .int .i64 kd, .int .u64 0] 24))) := ⟨below_alloc (below_alloc (below_alloc (Below.refl _ _) _) _) _⟩
  have hRc : (((w.alloc (.cells #[.string ⟨#[]⟩, .int .u64 0, .int .i64 0, .int .u64 0] 24)).alloc (.cells #[.string (a0.extract 1 a0.size), .bool false] 63)).alloc (.cells #[.string ⟨#[]⟩, .int .u64 0, .int .i64 kd, .int .u64 0] 24)).heap[w.heap.size]? = some (.cells #[.string ⟨#[]⟩, .int .u64 0, .int .i64 0, .int .u64 0] 24 (0, 0)) := blk_alloc (blk_alloc (blk_new _ _) _) _
  have BR1 := Aside0.mk hRc
  clear hIc hLc hRc
  generalize (((w.alloc (.cells #[.string ⟨#[]⟩, .int .u64 0, .int .i64 0, .int .u64 0] 24)).alloc (.cells #[.string (a0.extract 1 a0.size), .bool false] 63)).alloc (.cells #[.string ⟨#[]⟩, .int .u64 0, .int .i64 kd, .int .u64 0] 24)) = W1 at HI1 BL1 HB1 BR1 ⊢
  obtain ⟨g1, hg1⟩ : ∃ g, w.heap.size = g := ⟨_, rfl⟩
  obtain ⟨g2, hg2⟩ : ∃ g, w.heap.size + 1 = g := ⟨_, rfl⟩
  obtain ⟨g3, hg3⟩ : ∃ g, w.heap.size + 1 + 1 = g := ⟨_, rfl⟩
  have HG1 : Hid (w.heap.size ≤ g1 ∧ w.heap.size ≤ g2 ∧ w.heap.size ≤ g3 ∧ g1 ≠ g2 ∧ g1 ≠ g3 ∧ g2 ≠ g3) := Lib.hid ⟨by omega, by omega, by omega, by omega, by omega, by omega⟩
  rw [hg3] at BL1
  rw [hg2] at HI1
  have BR1b : Aside0 (W1.heap[g1]? = some (.cells #[.string ⟨#[]⟩, .int .u64 0, .int .i64 0, .int .u64 0] 24 (0, 0))) := by rw [← hg1]; exact BR1
  clear BR1
  rw [hg3, hg2]
  refine (screeref12_In_Num.calls k g2 (a0.extract 1 a0.size) false n1 s1 q1 w W1 HI1.out HB1.out HA.out).mono ?_
  rintro e w2 ⟨rfl, hi, hb, hk⟩
  have HI2 := Aside0.mk hi
  have HB2 := Aside0.mk hb
  have BL2 := Aside0.mk (hk.blk BL1.out (Ne.symm HG1.out.2.2.2.2.2) (by simp))
  have BR2 := Aside0.mk (hk.blk BR1b.out HG1.out.2.2.2.1 (by simp))
  clear hi hb hk HI1 HB1 BL1 BR1b
  have c_ : w2.cell? ⟨g3, 1, none⟩ = some (.int .u64 0) := (blk_cell BL2.out 1).trans rfl
  have f_ := blk_frozen BL2.out 1
  rw [hg1]
  clear hg1 hg2 hg3
  go_upto_region 6 with (fail)
  clear c_ f_
  have HI3 := Aside0.mk (IsS63.far (p := ⟨g3, 1, none⟩) HI2.out HG1.out.2.2.2.2.2 (.int .u64 n1))
  have BL3 := Aside0.mk (blk_put (cs' := #[.string ⟨#[]⟩, .int .u64 n1, .int .i64 kd, .int .u64 0]) BL2.out 1 (.int .u64 n1) rfl)
  have BR3 := Aside0.mk (blk_far (p := ⟨g3, 1, none⟩) BR2.out HG1.out.2.2.2.2.1 (.int .u64 n1))
  have HB3 := Aside0.mk (HB2.out.setCell (p := ⟨g3, 1, none⟩) HG1.out.2.2.1 (.int .u64 n1))
  clear HI2 BL2 BR2 HB2
  generalize (w2.setCell ⟨g3, 1, none⟩ (.int .u64 n1)) = w3 at HI3 BL3 BR3 HB3 ⊢
  go_wp2_with (fail)
  refine (screeref12_In_Num.calls k g2 s1 q1 n2 s2 q2 w w3 HI3.out HB3.out HB0.out).mono ?_
  rintro e w4 ⟨rfl, hi, hb, hk⟩
  have HI4 := Aside0.mk hi
  have HB4 := Aside0.mk hb
  have BL4 := Aside0.mk (hk.blk BL3.out (Ne.symm HG1.out.2.2.2.2.2) (by simp))
  have BR4 := Aside0.mk (hk.blk BR3.out HG1.out.2.2.2.1 (by simp))
  clear hi hb hk HI3 HB3 BL3 BR3
  have c_ : w4.cell? ⟨g3, 3, none⟩ = some (.int .u64 0) := (blk_cell BL4.out 3).trans rfl
  have f_ := blk_frozen BL4.out 3
  go_upto_region 7 with (fail)
  clear c_ f_
  have HI5 := Aside0.mk (IsS63.far (p := ⟨g3, 3, none⟩) HI4.out HG1.out.2.2.2.2.2 (.int .u64 n2))
  have BL5 := Aside0.mk (blk_put (cs' := #[.string ⟨#[]⟩, .int .u64 n1, .int .i64 kd, .int .u64 n2]) BL4.out 3 (.int .u64 n2) rfl)
  have BR5 := Aside0.mk (blk_far (p := ⟨g3, 3, none⟩) BR4.out HG1.out.2.2.2.2.1 (.int .u64 n2))
  have HB5 := Aside0.mk (HB4.out.setCell (p := ⟨g3, 3, none⟩) HG1.out.2.2.1 (.int .u64 n2))
  clear HI4 BL4 BR4 HB4
  generalize (w4.setCell ⟨g3, 3, none⟩ (.int .u64 n2)) = w5 at HI5 BL5 BR5 HB5 ⊢
  have c_ : w5.cell? ⟨g3, 0, none⟩ = some (.string ⟨#[]⟩) := (blk_cell BL5.out 0).trans rfl
  have c2_ : w5.cell? ⟨g2, 0, none⟩ = some (.string s2) := (blk_cell HI5.out.1 0).trans rfl
  have f_ := blk_frozen BL5.out 0
  go_upto_region 8 with (fail)
  clear c2_
  clear c_ f_
  have HI6 := Aside0.mk (IsS63.far (p := ⟨g3, 0, none⟩) HI5.out HG1.out.2.2.2.2.2 (.string s2))
  have BL6 := Aside0.mk (blk_put (cs' := #[.string s2, .int .u64 n1, .int .i64 kd, .int .u64 n2]) BL5.out 0 (.string s2) rfl)
  have BR6 := Aside0.mk (blk_far (p := ⟨g3, 0, none⟩) BR5.out HG1.out.2.2.2.2.1 (.string s2))
  have HB6 := Aside0.mk (HB5.out.setCell (p := ⟨g3, 0, none⟩) HG1.out.2.2.1 (.string s2))
  clear HI5 BL5 BR5 HB5
  generalize (w5.setCell ⟨g3, 0, none⟩ (.string s2)) = w6 at HI6 BL6 BR6 HB6 ⊢
  have c0_ : w6.cell? ⟨g3, 0, none⟩ = some (.string s2) := (blk_cell BL6.out 0).trans rfl
  have c1_ : w6.cell? ⟨g3, 1, none⟩ = some (.int .u64 n1) := (blk_cell BL6.out 1).trans rfl
  have c2_ : w6.cell? ⟨g3, 2, none⟩ = some (.int .i64 kd) := (blk_cell BL6.out 2).trans rfl
  have c3_ : w6.cell? ⟨g3, 3, none⟩ = some (.int .u64 n2) := (blk_cell BL6.out 3).trans rfl
  go_wp2_with (fail)
  refine (screeref15_Lock.calls k s2 n1 kd n2 is e3 w6 HC.out).mono ?_
  rintro e w7 ⟨rfl, hb⟩
  have HI7 := Aside0.mk (HI6.out.below hb)
  have BL7 := Aside0.mk (blk_below BL6.out hb)
  have BR7 := Aside0.mk (blk_below BR6.out hb)
  have HB7 := Aside0.mk (below_step HB6.out hb)
  clear c0_ c1_ c2_ c3_ hb HI6 BL6 BR6 HB6
  have i1_ : w7.cell? ⟨g2, 1, none⟩ = some (.bool q2) := (blk_cell HI7.out.1 1).trans rfl
  have r0_ : w7.cell? ⟨g1, 0, none⟩ = some (.string ⟨#[]⟩) := (blk_cell BR7.out 0).trans rfl
  have r1_ : w7.cell? ⟨g1, 1, none⟩ = some (.int .u64 0) := (blk_cell BR7.out 1).trans rfl
  have r2_ : w7.cell? ⟨g1, 2, none⟩ = some (.int .i64 0) := (blk_cell BR7.out 2).trans rfl
  have r3_ : w7.cell? ⟨g1, 3, none⟩ = some (.int .u64 0) := (blk_cell BR7.out 3).trans rfl
  have p0_ := blk_frozen BR7.out 0
  have p1_ := blk_frozen BR7.out 1
  have p2_ := blk_frozen BR7.out 2
  have p3_ := blk_frozen BR7.out 3
  have l0_ : w7.cell? ⟨g3, 0, none⟩ = some (.string s2) := (blk_cell BL7.out 0).trans rfl
  have l1_ : w7.cell? ⟨g3, 1, none⟩ = some (.int .u64 n1) := (blk_cell BL7.out 1).trans rfl
  have l2_ : w7.cell? ⟨g3, 2, none⟩ = some (.int .i64 kd) := (blk_cell BL7.out 2).trans rfl
  have l3_ : w7.cell? ⟨g3, 3, none⟩ = some (.int .u64 n2) := (blk_cell BL7.out 3).trans rfl
  have hh : (if q2 = true ∨ e3 ≠ 0 ∨ is.toList ≠ a0.toList then some ((⟨#[]⟩ : ByteArray), (0 : Int), (0 : Int), (0 : Int), (2 : Int)) else some (s2, n1, kd, n2, 0)) = some (r1, r2, r3, r4, r5) := HH.out
  clear HH
  have zero : (q2 = true ∨ e3 ≠ 0 ∨ is.toList ≠ a0.toList) → (⟨#[]⟩, 0, 0, 0, 2) = (r1, r2, r3, r4, r5) := by
   intro hbad
   rw [if_pos hbad] at hh
   exact Option.some.inj hh
  cases q2 with
  | true =>
   have hh2 := zero (Or.inl rfl)
   simp only [Prod.mk.injEq] at hh2
   obtain ⟨rfl, rfl, rfl, rfl, rfl⟩ := hh2
   clear hh zero
   go_wp2
   exact bodyPost_ret (hfin _ _ g1 _ _ _ _ rfl (blk_put (cs' := #[.string ⟨#[]⟩, .int .u64 0, .int .i64 0, .int .u64 0]) (blk_put (cs' := #[.string ⟨#[]⟩, .int .u64 0, .int .i64 0, .int .u64 0]) (blk_put (cs' := #[.string ⟨#[]⟩, .int .u64 0, .int .i64 0, .int .u64 0]) (blk_put (cs' := #[.string ⟨#[]⟩, .int .u64 0, .int .i64 0, .int .u64 0]) BR7.out 0 _ rfl) 1 _ rfl) 2 _ rfl) 3 _ rfl)) rfl ⟨rfl, (((HB7.out.setCell (p := ⟨g1, 0, none⟩) HG1.out.1 _).setCell (p := ⟨g1, 1, none⟩) HG1.out.1 _).setCell (p := ⟨g1, 2, none⟩) HG1.out.1 _).setCell (p := ⟨g1, 3, none⟩) HG1.out.1 _⟩
  | false =>
  by_cases he3 : e3 = 0
  case neg =>
   have hh2 := zero (Or.inr (Or.inl he3))
   simp only [Prod.mk.injEq] at hh2
   obtain ⟨rfl, rfl, rfl, rfl, rfl⟩ := hh2
   have e1_ : (e3 == 0) = false := beq_eq_false_iff_ne.mpr he3
   have e2_ : (e3 != 0) = true := bne_iff_ne.mpr he3
   clear hh zero
   go_wp2
   exact bodyPost_ret (hfin _ _ g1 _ _ _ _ rfl (blk_put (cs' := #[.string ⟨#[]⟩, .int .u64 0, .int .i64 0, .int .u64 0]) (blk_put (cs' := #[.string ⟨#[]⟩, .int .u64 0, .int .i64 0, .int .u64 0]) (blk_put (cs' := #[.string ⟨#[]⟩, .int .u64 0, .int .i64 0, .int .u64 0]) (blk_put (cs' := #[.string ⟨#[]⟩, .int .u64 0, .int .i64 0, .int .u64 0]) BR7.out 0 _ rfl) 1 _ rfl) 2 _ rfl) 3 _ rfl)) rfl ⟨rfl, (((HB7.out.setCell (p := ⟨g1, 0, none⟩) HG1.out.1 _).setCell (p := ⟨g1, 1, none⟩) HG1.out.1 _).setCell (p := ⟨g1, 2, none⟩) HG1.out.1 _).setCell (p := ⟨g1, 3, none⟩) HG1.out.1 _⟩
  subst he3
  by_cases hs : is.toList = a0.toList
  ·have s1_ : (is.toList == a0.toList) = true := beq_iff_eq.mpr hs
   have s2_ : (is.toList != a0.toList) = false := bne_eq_false_iff_eq.mpr hs
   rw [if_neg (by simpa using hs)] at hh
   simp only [Option.some.injEq, Prod.mk.injEq] at hh
   obtain ⟨rfl, rfl, rfl, rfl, rfl⟩ := hh
   clear hs zero
   go_wp2
   exact bodyPost_ret (hfin _ _ g1 _ _ _ _ rfl (blk_put (cs' := #[.string s2, .int .u64 n1, .int .i64 kd, .int .u64 n2]) (blk_put (cs' := #[.string s2, .int .u64 n1, .int .i64 kd, .int .u64 0]) (blk_put (cs' := #[.string s2, .int .u64 n1, .int .i64 0, .int .u64 0]) (blk_put (cs' := #[.string s2, .int .u64 0, .int .i64 0, .int .u64 0]) BR7.out 0 _ rfl) 1 _ rfl) 2 _ rfl) 3 _ rfl)) rfl ⟨rfl, (((HB7.out.setCell (p := ⟨g1, 0, none⟩) HG1.out.1 _).setCell (p := ⟨g1, 1, none⟩) HG1.out.1 _).setCell (p := ⟨g1, 2, none⟩) HG1.out.1 _).setCell (p := ⟨g1, 3, none⟩) HG1.out.1 _⟩
  ·have s1_ : (is.toList == a0.toList) = false := beq_eq_false_iff_ne.mpr hs
   have s2_ : (is.toList != a0.toList) = true := bne_iff_ne.mpr hs
   have hh2 := zero (Or.inr (Or.inr hs))
   simp only [Prod.mk.injEq] at hh2
   obtain ⟨rfl, rfl, rfl, rfl, rfl⟩ := hh2
   clear hh zero hs
   go_wp2
   exact bodyPost_ret (hfin _ _ g1 _ _ _ _ rfl (blk_put (cs' := #[.string ⟨#[]⟩, .int .u64 0, .int .i64 0, .int .u64 0]) (blk_put (cs' := #[.string ⟨#[]⟩, .int .u64 0, .int .i64 0, .int .u64 0]) (blk_put (cs' := #[.string ⟨#[]⟩, .int .u64 0, .int .i64 0, .int .u64 0]) (blk_put (cs' := #[.string ⟨#[]⟩, .int .u64 0, .int .i64 0, .int .u64 0]) BR7.out 0 _ rfl) 1 _ rfl) 2 _ rfl) 3 _ rfl)) rfl ⟨rfl, (((HB7.out.setCell (p := ⟨g1, 0, none⟩) HG1.out.1 _).setCell (p := ⟨g1, 1, none⟩) HG1.out.1 _).setCell (p := ⟨g1, 2, none⟩) HG1.out.1 _).setCell (p := ⟨g1, 3, none⟩) HG1.out.1 _⟩

end Go.Proofs.Yteijlcnjnooiiaa.P
