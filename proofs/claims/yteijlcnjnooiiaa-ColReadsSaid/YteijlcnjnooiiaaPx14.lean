-- Printed by a program of this session's own (wip/tools/pprint.sh, over the kit's print, with given contracts): not typed by hand.
import Derived.Test.YteijlcnjnooiiaaPx0
import Derived.Test.YteijlcnjnooiiaaPx11
import Derived.Test.YteijlcnjnooiiaaPx13
namespace Go.Proofs.Yteijlcnjnooiiaa.P
open Go.RowKit Go.Proofs.YteijlcnjnooiiaaW.PrintWords Go.Proofs.YteijlcnjnooiiaaW.PrintLast Go.Proofs.YteijlcnjnooiiaaW.PrintMore
set_option linter.unusedVariables false
set_option linter.unusedSimpArgs false
-- SQUEEZED

/-! ### screeref15_Write: function 14 -/
def screeref15_Write.f (k : Nat) (a0_0 : Int) (a0_1 : Int) : Option (ByteArray × Int) := (screeref15_time.f a0_0).bind fun t221 => (if t221 = true then (if a0_1 < 1 then (some ((⟨#[]⟩ : ByteArray), 2)) else (if a0_1 > 3 then (some ((⟨#[]⟩ : ByteArray), 2)) else ((some (([(a0_1) % 256] : List Int) : List Int)).bind fun y222 => ((screeref01_Short.f k a0_0).bind fun t225 => (if (strOfNums y222).size + t225.size ≤ 9223372036854775807 then (some ((strOfNums y222) ++ t225, 0)) else (none)))))) else (some ((⟨#[]⟩ : ByteArray), 2)))
theorem screeref15_Write.mono : ∀ a0 a1 k, LeO (screeref15_Write.f k a0 a1) (screeref15_Write.f (k + 1) a0 a1) := by
 intro a0 a1 k
 unfold screeref15_Write.f
 repeat' first
   | (with_reducible exact screeref01_Short.mono _ _)
   | (with_reducible exact LeO.refl _)
   | (with_reducible exact LeO.none _)
   | (with_reducible refine LeO.ite ?_ ?_)
   | (with_reducible refine LeO.bind ?_ (fun _ => ?_))
   | exact screeref01_Short.mono _ _
   | exact LeO.none _
   | refine LeO.ite ?_ ?_
   | refine LeO.bind ?_ (fun _ => ?_)
def screeref15_Write.T3 : Bool × List (List Nat × List Nat) := (true, [([], []), ([0], [0]), ([1], [1]), ([2], [2]), ([3], [3]), ([], []), ([5], [5]), ([6], [6]), ([4, 7], [4, 7]), ([8, 7, 0, 1, 2, 3, 4, 5, 6, 7, 8], [8]), ([9, 0, 1, 2, 3, 4, 5, 6, 7, 8, 9], [])])
def screeref15_Write.B3 : List Nat := [0, 1, 3, 7, 15, 0, 32, 96, 255, 511, 1023]
theorem screeref15_Write.tab3 : rtab .any (opsOf Try.f14 3) = screeref15_Write.T3 := by kernel_rfl
theorem screeref15_Write.bits3 : waitsOk screeref15_Write.T3.2 screeref15_Write.B3 = true := by kernel_rfl
set_option maxHeartbeats 8000000 in
set_option maxRecDepth 100000 in
theorem screeref15_Write.calls (k : Nat) (a0_0 : Int) (a0_1 : Int) (r1 : ByteArray) (r2 : Int) (w : World) (h : screeref15_Write.f k a0_0 a0_1 = some (r1, r2)) :
  Calls Try.prog 14 #[.agg #[.int .u64 a0_0, .int .i64 a0_1]] w fun e w' => e = .returned (.tuple #[.string r1, .int .i64 r2]) ∧ Below w.heap.size w w' := by
 have hu26 := Try.underlying26
 have HB := Aside0.mk (Below.refl w.heap.size w)
 have H : ((screeref15_time.f a0_0).bind fun t221 => (if t221 = true then (if a0_1 < 1 then (some ((⟨#[]⟩ : ByteArray), 2)) else (if a0_1 > 3 then (some ((⟨#[]⟩ : ByteArray), 2)) else ((some (([(a0_1) % 256] : List Int) : List Int)).bind fun y222 => ((screeref01_Short.f k a0_0).bind fun t225 => (if (strOfNums y222).size + t225.size ≤ 9223372036854775807 then (some ((strOfNums y222) ++ t225, 0)) else (none)))))) else (some ((⟨#[]⟩ : ByteArray), 2)))) = some (r1, r2) := h
 clear h
 replace H := Option.bind_eq_some_iff.mp H
 obtain ⟨t221, A20, H⟩ := H
 try dsimp only at H
 have A2 := Aside0.mk A20
 clear A20
 by_cases c3 : t221 = true
 ·subst c3
  have H1 : (if a0_1 < 1 then (some ((⟨#[]⟩ : ByteArray), 2)) else (if a0_1 > 3 then (some ((⟨#[]⟩ : ByteArray), 2)) else ((some (([(a0_1) % 256] : List Int) : List Int)).bind fun y222 => ((screeref01_Short.f k a0_0).bind fun t225 => (if (strOfNums y222).size + t225.size ≤ 9223372036854775807 then (some ((strOfNums y222) ++ t225, 0)) else (none)))))) = some (r1, r2) := by rw [if_pos rfl] at H; exact H
  clear H
  have H := H1
  clear H1
  by_cases c4 : a0_1 < 1
  ·rw [if_pos c4] at H
   have c4b0 : decide (a0_1 < 1) = true := decide_eq_true c4
   clear c4
   simp only [Option.some.injEq, Prod.mk.injEq] at H
   obtain ⟨rfl, rfl⟩ := H
   go_enter Try.func14, Try.ntmps14
   go_wp2_with (first | ((with_reducible refine gate_dst (N := 1) rfl ?_); refine box_event ?hg (N := 1) ?hd (cs := #[.int .u64 a0_0, .int .i64 a0_1]) (t := 26) ?hr ?_; (case hd => rfl); (case hg => rfl); (case hr => first | (go_simp; done) | (go_simp; rfl)); intro gb220 hg w5 hbox hb; have n0_ := Aside0.mk (below_step hB_ hb); have n1_ := Aside0.mk (hbox); have n2_ := Aside0.mk ((by rw [hg]; exact (below_size hB_) : w.heap.size ≤ gb220)); have n3_ := Aside0.mk ((by rw [hg]; exact (below_size hB_) : w.heap.size ≤ gb220)); clear HB; have HB := n0_; have BK220 := n1_; have GW220 := n2_; have GE220 := n3_; clear n0_ n1_ n2_ n3_; clear hb hbox hg; have hcz6_0 : w5.cell? ⟨gb220, 0, none⟩ = some (.int .u64 a0_0) := (blk_cell BK220.out 0).trans rfl; have hcz6_1 : w5.cell? ⟨gb220, 1, none⟩ = some (.int .i64 a0_1) := (blk_cell BK220.out 1).trans rfl; have hfz6_0 := blk_frozen BK220.out 0; have hfz6_1 := blk_frozen BK220.out 1) | ((with_reducible refine gate_callee (f := 29) rfl ?_); refine goesL_ (some 6) rfl rfl Try.func29 (by kernel_rfl) rfl #[.int .u64 a0_0] rfl hA_ ?_; (with_reducible refine (screeref15_time.calls a0_0 true _ A2.out).mono ?_); rintro e w' ⟨rfl, ⟨nd, rfl⟩⟩; refine ⟨_, rfl, ?_⟩))
   go_ret2
   exact ⟨rf_, by repeat (first | (with_reducible first | exact HB.out | apply below_alloc | apply pw_below_drewN | apply below_drew1 | refine below_set ?_ GE220.out) | exact HB.out)⟩
  ·rw [if_neg c4] at H
   have c4b0 : decide (a0_1 < 1) = false := decide_eq_false c4
   clear c4
   by_cases c7 : a0_1 > 3
   ·rw [if_pos c7] at H
    have c7b0 : decide (3 < a0_1) = true := decide_eq_true c7
    clear c7
    simp only [Option.some.injEq, Prod.mk.injEq] at H
    obtain ⟨rfl, rfl⟩ := H
    go_enter Try.func14, Try.ntmps14
    go_wp2_with (first | ((with_reducible refine gate_dst (N := 1) rfl ?_); refine box_event ?hg (N := 1) ?hd (cs := #[.int .u64 a0_0, .int .i64 a0_1]) (t := 26) ?hr ?_; (case hd => rfl); (case hg => rfl); (case hr => first | (go_simp; done) | (go_simp; rfl)); intro gb220 hg w8 hbox hb; have n0_ := Aside0.mk (below_step hB_ hb); have n1_ := Aside0.mk (hbox); have n2_ := Aside0.mk ((by rw [hg]; exact (below_size hB_) : w.heap.size ≤ gb220)); have n3_ := Aside0.mk ((by rw [hg]; exact (below_size hB_) : w.heap.size ≤ gb220)); clear HB; have HB := n0_; have BK220 := n1_; have GW220 := n2_; have GE220 := n3_; clear n0_ n1_ n2_ n3_; clear hb hbox hg; have hcz9_0 : w8.cell? ⟨gb220, 0, none⟩ = some (.int .u64 a0_0) := (blk_cell BK220.out 0).trans rfl; have hcz9_1 : w8.cell? ⟨gb220, 1, none⟩ = some (.int .i64 a0_1) := (blk_cell BK220.out 1).trans rfl; have hfz9_0 := blk_frozen BK220.out 0; have hfz9_1 := blk_frozen BK220.out 1) | ((with_reducible refine gate_callee (f := 29) rfl ?_); refine goesL_ (some 6) rfl rfl Try.func29 (by kernel_rfl) rfl #[.int .u64 a0_0] rfl hA_ ?_; (with_reducible refine (screeref15_time.calls a0_0 true _ A2.out).mono ?_); rintro e w' ⟨rfl, ⟨nd, rfl⟩⟩; refine ⟨_, rfl, ?_⟩))
    go_ret2
    exact ⟨rf_, by repeat (first | (with_reducible first | exact HB.out | apply below_alloc | apply pw_below_drewN | apply below_drew1 | refine below_set ?_ GE220.out) | exact HB.out)⟩
   ·rw [if_neg c7] at H
    have c7b0 : decide (3 < a0_1) = false := decide_eq_false c7
    clear c7
    obtain ⟨y222, hy222⟩ : ∃ y_ : List Int, y_ = (([(a0_1) % 256] : List Int)) := ⟨_, rfl⟩
    replace H : ((screeref01_Short.f k a0_0).bind fun t225 => (if (strOfNums y222).size + t225.size ≤ 9223372036854775807 then (some ((strOfNums y222) ++ t225, 0)) else (none))) = some (r1, r2) := by first | (rw [hy222]; with_reducible exact H) | (have H2_ := (Option.bind_some _ _).symm.trans H; rw [hy222]; with_reducible exact H2_) | (have H2_ := (Option.bind_some _ _).symm.trans H; with_reducible exact H2_) | with_reducible exact H | (rw [hy222]; exact H) | exact H
    have Ny222 := Aside0.mk hy222
    clear hy222
    replace H := Option.bind_eq_some_iff.mp H
    obtain ⟨t225, A100, H⟩ := H
    try dsimp only at H
    have A10 := Aside0.mk A100
    clear A100
    by_cases c11 : (strOfNums y222).size + t225.size ≤ 9223372036854775807
    ·rw [if_pos c11] at H
     have c11b0 := eq_true c11
     have c11b1 : decide ((strOfNums y222).size + t225.size ≤ 9223372036854775807) = true := decide_eq_true c11
     try have c11b2 : (9223372036854775807 < (strOfNums y222).size + t225.size) = False := eq_false (Nat.not_lt.2 c11)
     try (have c11b3 := c11b2; simp only [ByteArray.size_append] at c11b3)
     try (have c11b4 := c11b2; simp only [ByteArray.size_extract, ByteArray.size_append, Nat.sub_zero] at c11b4)
     simp only [Option.some.injEq, Prod.mk.injEq] at H
     obtain ⟨rfl, rfl⟩ := H
     go_enter Try.func14, Try.ntmps14
     try go_wp2_with (first | ((with_reducible refine gate_dst (N := 1) rfl ?_); refine box_event ?hg (N := 1) ?hd (cs := #[.int .u64 a0_0, .int .i64 a0_1]) (t := 26) ?hr ?_; (case hd => rfl); (case hg => rfl); (case hr => first | (go_simp; done) | (go_simp; rfl)); intro gb220 hg w12 hbox hb; have n0_ := Aside0.mk (below_step hB_ hb); have n1_ := Aside0.mk (hbox); have n2_ := Aside0.mk ((by rw [hg]; exact (below_size hB_) : w.heap.size ≤ gb220)); have n3_ := Aside0.mk ((by rw [hg]; exact (below_size hB_) : w.heap.size ≤ gb220)); clear HB; have HB := n0_; have BK220 := n1_; have GW220 := n2_; have GE220 := n3_; clear n0_ n1_ n2_ n3_; clear hb hbox hg; have hcz13_0 : w12.cell? ⟨gb220, 0, none⟩ = some (.int .u64 a0_0) := (blk_cell BK220.out 0).trans rfl; have hcz13_1 : w12.cell? ⟨gb220, 1, none⟩ = some (.int .i64 a0_1) := (blk_cell BK220.out 1).trans rfl; have hfz13_0 := blk_frozen BK220.out 0; have hfz13_1 := blk_frozen BK220.out 1) | ((with_reducible refine gate_callee (f := 29) rfl ?_); refine goesL_ (some 6) rfl rfl Try.func29 (by kernel_rfl) rfl #[.int .u64 a0_0] rfl hA_ ?_; (with_reducible refine (screeref15_time.calls a0_0 true _ A2.out).mono ?_); rintro e w' ⟨rfl, ⟨nd, rfl⟩⟩; refine ⟨_, rfl, ?_⟩))
     (try (rw [drewN_self w12]; generalize hq_ : World.drewN w12 _ = w12; have n0_ : Aside0 (w12.heap[gb220]? = some (.cells #[.int .u64 a0_0, .int .i64 a0_1] 26 (0, 0))) := ⟨by rw [← hq_]; exact (by (with_reducible repeat (first | refine blk_drewN ?_ _ | refine blk_drew ?_ | refine blk_alloc ?_ _)); exact BK220.out)⟩; have n1_ : Aside0 (Below w.heap.size w w12) := ⟨by rw [← hq_]; exact (by repeat (first | (with_reducible first | exact HB.out | apply below_alloc | apply pw_below_drewN | apply below_drew1 | refine below_set ?_ GE220.out) | exact HB.out))⟩; clear BK220 HB hq_; have BK220 := n0_; have HB := n1_; clear n0_ n1_))
     have n0_ := Aside0.mk (blk_drew BK220.out)
     have n1_ := Aside0.mk (below_drew1 HB.out)
     clear BK220
     clear HB
     have BK220 := n0_
     have HB := n1_
     clear n0_ n1_
     refine start_ (n := 11) (S := fun w' => w'.cell? ⟨gb220, 0, none⟩ = some (.int .u64 a0_0) ∧ w'.cell? ⟨gb220, 1, none⟩ = some (.int .i64 a0_1)) (ds := []) #[N,N,N,N,N,N,N,N,N,N,N] (by kernel_rfl) rfl rfl ⟨(blk_cell BK220.out 0).trans rfl, (blk_cell BK220.out 1).trans rfl⟩ (fun hHeld => ?_); refine with_tabW screeref15_Write.tab3 screeref15_Write.bits3 (fun HT_ HW_ => ?_)
     generalize w12.drew = w14 at BK220 HB hHeld ⊢
     refine pure_ (i := 0) (N := some 18) (v := ?_) (a' := ?_) #[Y,N,N,N,N,N,N,N,N,N,N] rfl rfl (any_of HT_.out (by kernel_rfl)) (fun _ _ _ h => h) (Or.inl ⟨by rfl, ?_⟩) ?_ ?_
     rotate_left
     ·intro w'
      go_simp
      with_reducible rfl
     rotate_left
     ·simp only [Act.put, List.setIfInBounds_toArray, List.set_cons_zero, List.set_cons_succ, i64_w, i32_w]
      rfl
     refine pure_ (i := 5) (N := some 23) (v := ?_) (a' := ?_) #[Y,N,N,N,N,Y,N,N,N,N,N] rfl rfl (any_of HT_.out (by kernel_rfl)) (fun _ _ _ h => h) (Or.inl ⟨by rfl, ?_⟩) ?_ ?_
     rotate_left
     ·intro w'
      go_simp
      with_reducible rfl
     rotate_left
     ·simp only [Act.put, List.setIfInBounds_toArray, List.set_cons_zero, List.set_cons_succ, i64_w, i32_w]
      rfl
     refine take_ (i := 1) (N := some 19) (v := ?_) (a' := ?_) #[Y,Y,N,N,N,Y,N,N,N,N,N] rfl rfl (take_ofW HT_.out HW_.out (by kernel_rfl)) (fun _ _ _ h => h) (Or.inl ⟨by rfl, ?_⟩) hHeld ?_ ?_
     rotate_left
     ·rintro w' ⟨s0, s1⟩
      go_simp
      with_reducible rfl
     rotate_left
     ·simp only [Act.put, List.setIfInBounds_toArray, List.set_cons_zero, List.set_cons_succ, i64_w, i32_w]
      rfl
     refine pure_ (i := 2) (N := some 20) (v := ?_) (a' := ?_) #[Y,Y,Y,N,N,Y,N,N,N,N,N] rfl rfl (any_of HT_.out (by kernel_rfl)) (fun _ _ _ h => h) (Or.inl ⟨by rfl, ?_⟩) ?_ ?_
     rotate_left
     ·intro w'
      go_simp
      with_reducible rfl
     rotate_left
     ·simp only [Act.put, List.setIfInBounds_toArray, List.set_cons_zero, List.set_cons_succ, i64_w, i32_w]
      rfl
     refine take_ (i := 6) (N := some 24) (v := ?_) (a' := ?_) #[Y,Y,Y,N,N,Y,Y,N,N,N,N] rfl rfl (take_ofW HT_.out HW_.out (by kernel_rfl)) (fun _ _ _ h => h) (Or.inl ⟨by rfl, ?_⟩) hHeld ?_ ?_
     rotate_left
     ·rintro w' ⟨s0, s1⟩
      go_simp
      with_reducible rfl
     rotate_left
     ·simp only [Act.put, List.setIfInBounds_toArray, List.set_cons_zero, List.set_cons_succ, i64_w, i32_w]
      rfl
     refine join_ (σ := Value) 3 #[Y,Y,Y,Y,Y,Y,Y,Y,N,N,N] (fun s_ => [(21, s_), (22, .string (strOfNums y222)), (25, .string t225)]) (fun s_ w' => (w'.cell? ⟨gb220, 0, none⟩ = some (.int .u64 a0_0) ∧ w'.cell? ⟨gb220, 1, none⟩ = some (.int .i64 a0_1)) ∧ (Kd.R (Kd.int .u8) 5 w' w.heap.size (fun _ => True) s_ y222) ∧ (w'.heap[gb220]? = some (.cells #[.int .u64 a0_0, .int .i64 a0_1] 26 (0, 0))) ∧ (Below w.heap.size w w')) ?_ ?_
     rotate_left
     ·intro hCont
      refine two_ (i := 3) (j := 7) (Ni := some 21) (Nj := some 25) #[Y,Y,Y,Y,N,Y,Y,N,N,N,N] #[Y,Y,Y,N,N,Y,Y,Y,N,N,N] rfl rfl rfl rfl (two_of HT_.out (by kernel_rfl)) (by decide) (by decide) (fun K hK => ?_) (fun K hK => ?_)
      ·skip
       refine Kd.R_lit_step (Kd.int .u8) _ 5 ?hg (N := 21) ?hd (xs := ([(a0_1) % 256] : List Int)) (inner := [.int .u8 ((a0_1) % 256)]) (ok := fun _ => True) (okp := fun _ => True) ?hr ?hp (fun _ hk => hk) trivial (Below.refl _ _) (Nat.le_refl _) (by simp) ?_; (case hd => rfl); (case hg => rfl); (case hr => first | (go_simp; done) | (go_simp; rfl)); (case hp => exact (Reps.one (show Kd.M (Kd.int .u8) _ _ _ ((a0_1) % 256) [.int .u8 ((a0_1) % 256)] from rfl) (Reps.none _ _)))
       intro v223 w15 ho16 hb hg_ hnew_
       clear hg_ hnew_
       (first | rw [← Ny222.out] at ho16 | (simp only [Int.reduceToNat] at ho16; rw [← Ny222.out] at ho16))
       have n0_ := Aside0.mk (Kd.R_lower ho16 (below_size (by repeat (first | (with_reducible first | exact HB.out | apply below_alloc | apply pw_below_drewN | apply below_drew1 | refine below_set ?_ GE220.out) | exact HB.out))))
       have n1_ := Aside0.mk (blk_below (g := gb220) (o := .cells #[.int .u64 a0_0, .int .i64 a0_1] 26 (0, 0)) (by (with_reducible repeat (first | refine blk_drewN ?_ _ | refine blk_drew ?_ | refine blk_alloc ?_ _)); exact BK220.out) hb)
       have n2_ := Aside0.mk (below_step (by repeat (first | (with_reducible first | exact HB.out | apply below_alloc | apply pw_below_drewN | apply below_drew1 | refine below_set ?_ GE220.out) | exact HB.out)) hb)
       clear BK220
       clear HB
       have HO224 := n0_
       have BK220 := n1_
       have HB := n2_
       clear n0_ n1_ n2_
       clear hb ho16
       refine hK.out _ _ ⟨(blk_cell BK220.out 0).trans rfl, (blk_cell BK220.out 1).trans rfl⟩ (fun hHeld => ?_)
       clear hK K
       refine norm_ (a' := ?_) ?_ ?_
       rotate_left
       ·show Act.put _ (some 21) _ = _
        simp only [Act.put, List.setIfInBounds_toArray, List.set_cons_zero, List.set_cons_succ, i64_w, i32_w]
        rfl
       refine two_ (i := 4) (j := 7) (Ni := some 22) (Nj := some 25) #[Y,Y,Y,Y,Y,Y,Y,N,N,N,N] #[Y,Y,Y,Y,N,Y,Y,Y,N,N,N] rfl rfl rfl rfl (two_of HT_.out (by kernel_rfl)) (by decide) (by decide) (fun K hK => ?_) (fun K hK => ?_)
       ·skip
        have hcv17 := own_string (P := Try.prog) Try.underlying54 Try.underlying5 Try.underlying9 (Kd.own_of_R HO224.out)
        refine value_ (w1 := ?_) (v := ?_) (by rfl) rfl ?_ ?_
        rotate_left 2
        ·go_simp
         constructor
         ·rfl
         ·rfl
        clear hcv17
        refine hK.out _ _ ⟨(blk_cell BK220.out 0).trans rfl, (blk_cell BK220.out 1).trans rfl⟩ (fun hHeld => ?_)
        clear hK K
        refine norm_ (a' := ?_) ?_ ?_
        rotate_left
        ·show Act.put _ (some 22) _ = _
         simp only [Act.put, List.setIfInBounds_toArray, List.set_cons_zero, List.set_cons_succ, i64_w, i32_w]
         rfl
        refine one_ (i := 7) (N := some 25) #[Y,Y,Y,Y,Y,Y,Y,Y,N,N,N] rfl rfl (one_of HT_.out (by kernel_rfl)) (by decide) (fun K hK => ?_)
        refine goes_ Try.func30 (by kernel_rfl) rfl #[.int .u64 a0_0] (by rfl) rfl rfl hA_ ?_
        with_reducible refine (screeref01_Short.calls k a0_0 t225 _ A10.out).mono ?_
        rintro e w18 ⟨rfl, hb⟩
        refine ⟨_, rfl, ?_⟩
        have n0_ := Aside0.mk (Kd.R_below (by (with_reducible repeat (first | apply Kd.R_alloc | apply Kd.R_drewN | apply Kd.R_drew)); exact HO224.out) hb)
        have n1_ := Aside0.mk (blk_below (g := gb220) (o := .cells #[.int .u64 a0_0, .int .i64 a0_1] 26 (0, 0)) (by (with_reducible repeat (first | refine blk_drewN ?_ _ | refine blk_drew ?_ | refine blk_alloc ?_ _)); exact BK220.out) hb)
        have n2_ := Aside0.mk (below_step (by repeat (first | (with_reducible first | exact HB.out | apply below_alloc | apply pw_below_drewN | apply below_drew1 | refine below_set ?_ GE220.out) | exact HB.out)) hb)
        clear HO224
        clear BK220
        clear HB
        have HO224 := n0_
        have BK220 := n1_
        have HB := n2_
        clear n0_ n1_ n2_
        (try clear hb)
        (try clear hb2)
        (try clear hk)
        (try clear hi)
        (try clear A10)
        refine hK.out _ _ ⟨(blk_cell BK220.out 0).trans rfl, (blk_cell BK220.out 1).trans rfl⟩ (fun hHeld => ?_)
        clear hK K
        refine norm_ (a' := ?_) ?_ ?_
        rotate_left
        ·show Act.put _ (some 25) _ = _
         simp only [Act.put, List.setIfInBounds_toArray, List.set_cons_zero, List.set_cons_succ, i64_w, i32_w]
         rfl
        exact norm_ (by simp only [putAll, Act.put, List.setIfInBounds_toArray, List.set_cons_zero, List.set_cons_succ]) (hCont (v223) _ ⟨hHeld, (by (with_reducible repeat (first | apply Kd.R_alloc | apply Kd.R_drewN | apply Kd.R_drew)); exact HO224.out), (by (with_reducible repeat (first | refine blk_drewN ?_ _ | refine blk_drew ?_ | refine blk_alloc ?_ _)); exact BK220.out), (by repeat (first | (with_reducible first | exact HB.out | apply below_alloc | apply pw_below_drewN | apply below_drew1 | refine below_set ?_ GE220.out) | exact HB.out))⟩)
       ·skip
        refine goes_ Try.func30 (by kernel_rfl) rfl #[.int .u64 a0_0] (by rfl) rfl rfl hA_ ?_
        with_reducible refine (screeref01_Short.calls k a0_0 t225 _ A10.out).mono ?_
        rintro e w17 ⟨rfl, hb⟩
        refine ⟨_, rfl, ?_⟩
        have n0_ := Aside0.mk (Kd.R_below (by (with_reducible repeat (first | apply Kd.R_alloc | apply Kd.R_drewN | apply Kd.R_drew)); exact HO224.out) hb)
        have n1_ := Aside0.mk (blk_below (g := gb220) (o := .cells #[.int .u64 a0_0, .int .i64 a0_1] 26 (0, 0)) (by (with_reducible repeat (first | refine blk_drewN ?_ _ | refine blk_drew ?_ | refine blk_alloc ?_ _)); exact BK220.out) hb)
        have n2_ := Aside0.mk (below_step (by repeat (first | (with_reducible first | exact HB.out | apply below_alloc | apply pw_below_drewN | apply below_drew1 | refine below_set ?_ GE220.out) | exact HB.out)) hb)
        clear HO224
        clear BK220
        clear HB
        have HO224 := n0_
        have BK220 := n1_
        have HB := n2_
        clear n0_ n1_ n2_
        (try clear hb)
        (try clear hb2)
        (try clear hk)
        (try clear hi)
        (try clear A10)
        refine hK.out _ _ ⟨(blk_cell BK220.out 0).trans rfl, (blk_cell BK220.out 1).trans rfl⟩ (fun hHeld => ?_)
        clear hK K
        refine norm_ (a' := ?_) ?_ ?_
        rotate_left
        ·show Act.put _ (some 25) _ = _
         simp only [Act.put, List.setIfInBounds_toArray, List.set_cons_zero, List.set_cons_succ, i64_w, i32_w]
         rfl
        refine one_ (i := 4) (N := some 22) #[Y,Y,Y,Y,Y,Y,Y,Y,N,N,N] rfl rfl (one_of HT_.out (by kernel_rfl)) (by decide) (fun K hK => ?_)
        have hcv18 := own_string (P := Try.prog) Try.underlying54 Try.underlying5 Try.underlying9 (Kd.own_of_R HO224.out)
        refine value_ (w1 := ?_) (v := ?_) (by rfl) rfl ?_ ?_
        rotate_left 2
        ·go_simp
         constructor
         ·rfl
         ·rfl
        clear hcv18
        refine hK.out _ _ ⟨(blk_cell BK220.out 0).trans rfl, (blk_cell BK220.out 1).trans rfl⟩ (fun hHeld => ?_)
        clear hK K
        refine norm_ (a' := ?_) ?_ ?_
        rotate_left
        ·show Act.put _ (some 22) _ = _
         simp only [Act.put, List.setIfInBounds_toArray, List.set_cons_zero, List.set_cons_succ, i64_w, i32_w]
         rfl
        exact norm_ (by simp only [putAll, Act.put, List.setIfInBounds_toArray, List.set_cons_zero, List.set_cons_succ]) (hCont (v223) _ ⟨hHeld, (by (with_reducible repeat (first | apply Kd.R_alloc | apply Kd.R_drewN | apply Kd.R_drew)); exact HO224.out), (by (with_reducible repeat (first | refine blk_drewN ?_ _ | refine blk_drew ?_ | refine blk_alloc ?_ _)); exact BK220.out), (by repeat (first | (with_reducible first | exact HB.out | apply below_alloc | apply pw_below_drewN | apply below_drew1 | refine below_set ?_ GE220.out) | exact HB.out))⟩)
      ·skip
       refine goes_ Try.func30 (by kernel_rfl) rfl #[.int .u64 a0_0] (by rfl) rfl rfl hA_ ?_
       with_reducible refine (screeref01_Short.calls k a0_0 t225 _ A10.out).mono ?_
       rintro e w15 ⟨rfl, hb⟩
       refine ⟨_, rfl, ?_⟩
       have n0_ := Aside0.mk (blk_below (g := gb220) (o := .cells #[.int .u64 a0_0, .int .i64 a0_1] 26 (0, 0)) (by (with_reducible repeat (first | refine blk_drewN ?_ _ | refine blk_drew ?_ | refine blk_alloc ?_ _)); exact BK220.out) hb)
       have n1_ := Aside0.mk (below_step (by repeat (first | (with_reducible first | exact HB.out | apply below_alloc | apply pw_below_drewN | apply below_drew1 | refine below_set ?_ GE220.out) | exact HB.out)) hb)
       clear BK220
       clear HB
       have BK220 := n0_
       have HB := n1_
       clear n0_ n1_
       (try clear hb)
       (try clear hb2)
       (try clear hk)
       (try clear hi)
       (try clear A10)
       refine hK.out _ _ ⟨(blk_cell BK220.out 0).trans rfl, (blk_cell BK220.out 1).trans rfl⟩ (fun hHeld => ?_)
       clear hK K
       refine norm_ (a' := ?_) ?_ ?_
       rotate_left
       ·show Act.put _ (some 25) _ = _
        simp only [Act.put, List.setIfInBounds_toArray, List.set_cons_zero, List.set_cons_succ, i64_w, i32_w]
        rfl
       refine one_ (i := 3) (N := some 21) #[Y,Y,Y,Y,N,Y,Y,Y,N,N,N] rfl rfl (one_of HT_.out (by kernel_rfl)) (by decide) (fun K hK => ?_)
       refine Kd.R_lit_step (Kd.int .u8) _ 5 ?hg (N := 21) ?hd (xs := ([(a0_1) % 256] : List Int)) (inner := [.int .u8 ((a0_1) % 256)]) (ok := fun _ => True) (okp := fun _ => True) ?hr ?hp (fun _ hk => hk) trivial (Below.refl _ _) (Nat.le_refl _) (by simp) ?_; (case hd => rfl); (case hg => rfl); (case hr => first | (go_simp; done) | (go_simp; rfl)); (case hp => exact (Reps.one (show Kd.M (Kd.int .u8) _ _ _ ((a0_1) % 256) [.int .u8 ((a0_1) % 256)] from rfl) (Reps.none _ _)))
       intro v223 w16 ho17 hb hg_ hnew_
       clear hg_ hnew_
       (first | rw [← Ny222.out] at ho17 | (simp only [Int.reduceToNat] at ho17; rw [← Ny222.out] at ho17))
       have n0_ := Aside0.mk (Kd.R_lower ho17 (below_size (by repeat (first | (with_reducible first | exact HB.out | apply below_alloc | apply pw_below_drewN | apply below_drew1 | refine below_set ?_ GE220.out) | exact HB.out))))
       have n1_ := Aside0.mk (blk_below (g := gb220) (o := .cells #[.int .u64 a0_0, .int .i64 a0_1] 26 (0, 0)) (by (with_reducible repeat (first | refine blk_drewN ?_ _ | refine blk_drew ?_ | refine blk_alloc ?_ _)); exact BK220.out) hb)
       have n2_ := Aside0.mk (below_step (by repeat (first | (with_reducible first | exact HB.out | apply below_alloc | apply pw_below_drewN | apply below_drew1 | refine below_set ?_ GE220.out) | exact HB.out)) hb)
       clear BK220
       clear HB
       have HO224 := n0_
       have BK220 := n1_
       have HB := n2_
       clear n0_ n1_ n2_
       clear hb ho17
       refine hK.out _ _ ⟨(blk_cell BK220.out 0).trans rfl, (blk_cell BK220.out 1).trans rfl⟩ (fun hHeld => ?_)
       clear hK K
       refine norm_ (a' := ?_) ?_ ?_
       rotate_left
       ·show Act.put _ (some 21) _ = _
        simp only [Act.put, List.setIfInBounds_toArray, List.set_cons_zero, List.set_cons_succ, i64_w, i32_w]
        rfl
       refine one_ (i := 4) (N := some 22) #[Y,Y,Y,Y,Y,Y,Y,Y,N,N,N] rfl rfl (one_of HT_.out (by kernel_rfl)) (by decide) (fun K hK => ?_)
       have hcv18 := own_string (P := Try.prog) Try.underlying54 Try.underlying5 Try.underlying9 (Kd.own_of_R HO224.out)
       refine value_ (w1 := ?_) (v := ?_) (by rfl) rfl ?_ ?_
       rotate_left 2
       ·go_simp
        constructor
        ·rfl
        ·rfl
       clear hcv18
       refine hK.out _ _ ⟨(blk_cell BK220.out 0).trans rfl, (blk_cell BK220.out 1).trans rfl⟩ (fun hHeld => ?_)
       clear hK K
       refine norm_ (a' := ?_) ?_ ?_
       rotate_left
       ·show Act.put _ (some 22) _ = _
        simp only [Act.put, List.setIfInBounds_toArray, List.set_cons_zero, List.set_cons_succ, i64_w, i32_w]
        rfl
       exact norm_ (by simp only [putAll, Act.put, List.setIfInBounds_toArray, List.set_cons_zero, List.set_cons_succ]) (hCont (v223) _ ⟨hHeld, (by (with_reducible repeat (first | apply Kd.R_alloc | apply Kd.R_drewN | apply Kd.R_drew)); exact HO224.out), (by (with_reducible repeat (first | refine blk_drewN ?_ _ | refine blk_drew ?_ | refine blk_alloc ?_ _)); exact BK220.out), (by repeat (first | (with_reducible first | exact HB.out | apply below_alloc | apply pw_below_drewN | apply below_drew1 | refine below_set ?_ GE220.out) | exact HB.out))⟩)
     rintro v223 w19 ⟨hS_, h0_, h1_, h2_⟩
     have n0_ : Aside0 (Kd.R (Kd.int .u8) 5 w19 w.heap.size (fun _ => True) v223 y222) := ⟨h0_⟩
     have n1_ : Aside0 (w19.heap[gb220]? = some (.cells #[.int .u64 a0_0, .int .i64 a0_1] 26 (0, 0))) := ⟨h1_⟩
     have n2_ : Aside0 (Below w.heap.size w w19) := ⟨h2_⟩
     clear BK220
     clear HB
     clear h0_ h1_ h2_
     have HO224 := n0_
     have BK220 := n1_
     have HB := n2_
     clear n0_ n1_ n2_
     have hHeld : w19.cell? ⟨gb220, 0, none⟩ = some (.int .u64 a0_0) ∧ w19.cell? ⟨gb220, 1, none⟩ = some (.int .i64 a0_1) := hS_
     refine norm_ (a' := ?_) ?_ ?_
     rotate_left
     ·simp only [putAll, Act.put, List.setIfInBounds_toArray, List.set_cons_zero, List.set_cons_succ]
      rfl
     refine pure_ (i := 8) (N := some 26) (v := ?_) (a' := ?_) #[Y,Y,Y,Y,Y,Y,Y,Y,Y,N,N] rfl rfl (any_of HT_.out (by kernel_rfl)) (fun _ _ _ h => h) (Or.inl ⟨by rfl, ?_⟩) ?_ ?_
     rotate_left
     ·intro w'
      go_simp
      with_reducible rfl
     rotate_left
     ·simp only [Act.put, List.setIfInBounds_toArray, List.set_cons_zero, List.set_cons_succ, i64_w, i32_w]
      rfl
     refine pure_ (i := 9) (N := some 2) (v := ?_) (a' := ?_) #[Y,Y,Y,Y,Y,Y,Y,Y,Y,Y,N] rfl rfl (any_of HT_.out (by kernel_rfl)) (fun _ _ _ h => h) (Or.inl ⟨by rfl, ?_⟩) ?_ ?_
     rotate_left
     ·intro w'
      go_simp
      with_reducible rfl
     rotate_left
     ·simp only [Act.put, List.setIfInBounds_toArray, List.set_cons_zero, List.set_cons_succ, i64_w, i32_w]
      rfl
     refine pure_ (i := 10) (N := some 3) (v := ?_) (a' := ?_) #[Y,Y,Y,Y,Y,Y,Y,Y,Y,Y,Y] rfl rfl (any_of HT_.out (by kernel_rfl)) (fun _ _ _ h => h) (Or.inl ⟨by rfl, ?_⟩) ?_ ?_
     rotate_left
     ·intro w'
      go_simp
      with_reducible rfl
     rotate_left
     ·simp only [Act.put, List.setIfInBounds_toArray, List.set_cons_zero, List.set_cons_succ, i64_w, i32_w]
      rfl
     refine done_ (done_of HT_.out (by kernel_rfl)) ?_
     (try clear hHeld)
     (try clear c11b0); (try clear c11b1); (try clear c11b2); (try clear c11b3); (try clear c11b4); (try clear c11b5); (try clear c11b6)
     try go_wp2
     go_ret2
     exact ⟨rf_, by repeat (first | (with_reducible first | exact HB.out | apply below_alloc | apply pw_below_drewN | apply below_drew1 | refine below_set ?_ GE220.out) | exact HB.out)⟩
    ·rw [if_neg c11] at H
     exact absurd H (by simp)
 ·replace c3 := Bool.eq_false_iff.mpr c3
  subst c3
  have H1 : (some ((⟨#[]⟩ : ByteArray), 2)) = some (r1, r2) := by rw [if_neg (show ¬ (false = true) by decide)] at H; exact H
  clear H
  have H := H1
  clear H1
  simp only [Option.some.injEq, Prod.mk.injEq] at H
  obtain ⟨rfl, rfl⟩ := H
  go_enter Try.func14, Try.ntmps14
  go_wp2_with (first | ((with_reducible refine gate_dst (N := 1) rfl ?_); refine box_event ?hg (N := 1) ?hd (cs := #[.int .u64 a0_0, .int .i64 a0_1]) (t := 26) ?hr ?_; (case hd => rfl); (case hg => rfl); (case hr => first | (go_simp; done) | (go_simp; rfl)); intro gb220 hg w20 hbox hb; have n0_ := Aside0.mk (below_step hB_ hb); have n1_ := Aside0.mk (hbox); have n2_ := Aside0.mk ((by rw [hg]; exact (below_size hB_) : w.heap.size ≤ gb220)); have n3_ := Aside0.mk ((by rw [hg]; exact (below_size hB_) : w.heap.size ≤ gb220)); clear HB; have HB := n0_; have BK220 := n1_; have GW220 := n2_; have GE220 := n3_; clear n0_ n1_ n2_ n3_; clear hb hbox hg; have hcz21_0 : w20.cell? ⟨gb220, 0, none⟩ = some (.int .u64 a0_0) := (blk_cell BK220.out 0).trans rfl; have hcz21_1 : w20.cell? ⟨gb220, 1, none⟩ = some (.int .i64 a0_1) := (blk_cell BK220.out 1).trans rfl; have hfz21_0 := blk_frozen BK220.out 0; have hfz21_1 := blk_frozen BK220.out 1) | ((with_reducible refine gate_callee (f := 29) rfl ?_); refine goesL_ (some 6) rfl rfl Try.func29 (by kernel_rfl) rfl #[.int .u64 a0_0] rfl hA_ ?_; (with_reducible refine (screeref15_time.calls a0_0 false _ A2.out).mono ?_); rintro e w' ⟨rfl, ⟨nd, rfl⟩⟩; refine ⟨_, rfl, ?_⟩))
  go_ret2
  exact ⟨rf_, by repeat (first | (with_reducible first | exact HB.out | apply below_alloc | apply pw_below_drewN | apply below_drew1 | refine below_set ?_ GE220.out) | exact HB.out)⟩

/-! ### screeref15_Unwrite: function 21 -/
def screeref15_Unwrite.f (k : Nat) (a0 : ByteArray) : Option (Int × Int × Int) :=
 if a0.size = 0 then some (0, 0, 2) else
 (screeref12_In_Num.f k (a0.extract 1 a0.size) false).bind fun a =>
 (screeref15_Write.f k a.1 (bt a0 0)).bind fun c => if a.2.2 = true ∨ c.2 ≠ 0 ∨ c.1.toList ≠ a0.toList then some (0, 0, 2) else some (a.1, bt a0 0, 0)
theorem screeref15_Unwrite.mono : ∀ a0 k, LeO (screeref15_Unwrite.f k a0) (screeref15_Unwrite.f (k + 1) a0) := by
 intro a0 k
 unfold screeref15_Unwrite.f
 exact LeO.ite (LeO.refl _) (LeO.bind (screeref12_In_Num.mono _ _ _) (fun _ => LeO.bind (screeref15_Write.mono _ _ _) (fun _ => LeO.refl _)))
set_option maxHeartbeats 3200000 in
set_option maxRecDepth 100000 in
theorem screeref15_Unwrite.calls (k : Nat) (a0 : ByteArray) (r1 r2 r3 : Int) (w : World) (h : screeref15_Unwrite.f k a0 = some (r1, r2, r3)) :
  Calls Try.prog 21 #[.string a0] w fun e w' => e = .returned (.tuple #[.agg #[.int .u64 r1, .int .i64 r2], .int .i64 r3]) ∧ Below w.heap.size w w' := by
 have hu24 := Try.underlying26
 have hfin : ∀ (tmps : Array Value) (W : World) (g : Nat) (c0 c1 : Value), tmps.getD 2 undef = .pointer (some ⟨g, 0, none⟩) → W.heap[g]? = some (.cells #[c0, c1] 26 (0, 0)) → (results Try.f21 tmps).run Try.prog W = .ok (.tuple #[.agg #[c0, c1], tmps.getD 3 undef]) W :=
  fun tmps W g c0 c1 hp hg => results_ct rfl tmps W g _ #[c0, c1] (0, 0) _ hp hg hu24 rfl (by kernel_rfl)
 unfold screeref15_Unwrite.f at h
 by_cases hz : a0.size = 0
 ·rw [if_pos hz] at h
  simp only [Option.some.injEq, Prod.mk.injEq] at h
  obtain ⟨rfl, rfl, rfl⟩ := h
  have d1 : ((a0.size : Int) == 0) = true := by rw [hz]; rfl
  clear hz
  go_enter Try.func21, Try.ntmps21
  go_wp2
  exact bodyPost_ret (hfin _ _ _ _ _ rfl (blk_new _ _)) rfl ⟨rfl, below_alloc (Below.refl _ _) _⟩
 ·rw [if_neg hz] at h
  have d1 : ((a0.size : Int) == 0) = false := beq_eq_false_iff_ne.mpr (by omega)
  have hpos : 0 < a0.size := by omega
  clear hz
  replace h := Option.bind_eq_some_iff.mp h
  obtain ⟨⟨n1, s1, q1⟩, hA, h⟩ := h
  replace h := Option.bind_eq_some_iff.mp h
  obtain ⟨⟨is, e3⟩, hC, h⟩ := h
  have HA := Lib.hid hA
  have HC := Lib.hid hC
  have HH := Lib.hid h
  clear hA hC h
  go_enter Try.func21, Try.ntmps21
  obtain ⟨kd, hkd⟩ : ∃ kd, wrap64 ((a0[0].toNat : Nat) : Int) = kd := ⟨_, rfl⟩
  have hkb : bt a0 0 = kd := by
   rw [← hkd]
   unfold bt
   have h0 : ((0 : Int)).toNat < a0.size := by simpa using hpos
   rw [dif_pos h0]
   have := a0[0].toNat_lt
   have e : wrap64 ((a0[0].toNat : Nat) : Int) = ((a0[0].toNat : Nat) : Int) := by unfold wrap64; omega
   rw [e]; rfl
  rw [hkb] at HC HH
  clear hkb
  have HP := Lib.hid hpos
  go_wp2_with (fail)
  have HKD := Lib.hid hkd
  clear hkd
  have hIc : (((w.alloc (.cells #[.int .u64 0, .int .i64 0] 26)).alloc (.cells #[.string (a0.extract 1 a0.size), .bool false] 63)).alloc (.cells #[.int .u64 0, .int .i64 kd] 26)).heap[w.heap.size + 1]? = some (.cells #[.string (a0.extract 1 a0.size), .bool false] 63 (0, 0)) := by
   refine blk_alloc ?_ _
   have := blk_new (w.alloc (.cells #[.int .u64 0, .int .i64 0] 26)) (.cells #[.string (a0.extract 1 a0.size), .bool false] 63)
   rwa [World.size_alloc] at this
  have hLc : (((w.alloc (.cells #[.int .u64 0, .int .i64 0] 26)).alloc (.cells #[.string (a0.extract 1 a0.size), .bool false] 63)).alloc (.cells #[.int .u64 0, .int .i64 kd] 26)).heap[w.heap.size + 1 + 1]? = some (.cells #[.int .u64 0, .int .i64 kd] 26 (0, 0)) := by
   have := blk_new ((w.alloc (.cells #[.int .u64 0, .int .i64 0] 26)).alloc (.cells #[.string (a0.extract 1 a0.size), .bool false] 63)) (.cells #[.int .u64 0, .int .i64 kd] 26)
   rwa [World.size_alloc, World.size_alloc] at this
  have HI1 : Aside0 (IsS63 w _ (w.heap.size + 1) (a0.extract 1 a0.size) false) := ⟨⟨hIc, Nat.le_succ _⟩⟩
  have BL1 := Aside0.mk hLc
  have HB1 : Aside0 (Below w.heap.size w (((w.alloc (.cells #[.int .u64 0, .int .i64 0] 26)).alloc (.cells #[.string (a0.extract 1 a0.size), .bool false] 63)).alloc (.cells #[.int .u64 0, .int .i64 kd] 26))) := ⟨below_alloc (below_alloc (below_alloc (Below.refl _ _) _) _) _⟩
  have hRc : (((w.alloc (.cells #[.int .u64 0, .int .i64 0] 26)).alloc (.cells #[.string (a0.extract 1 a0.size), .bool false] 63)).alloc (.cells #[.int .u64 0, .int .i64 kd] 26)).heap[w.heap.size]? = some (.cells #[.int .u64 0, .int .i64 0] 26 (0, 0)) := blk_alloc (blk_alloc (blk_new _ _) _) _
  have BR1 := Aside0.mk hRc
  clear hIc hLc hRc
  generalize (((w.alloc (.cells #[.int .u64 0, .int .i64 0] 26)).alloc (.cells #[.string (a0.extract 1 a0.size), .bool false] 63)).alloc (.cells #[.int .u64 0, .int .i64 kd] 26)) = W1 at HI1 BL1 HB1 BR1 ⊢
  obtain ⟨g1, hg1⟩ : ∃ g, w.heap.size = g := ⟨_, rfl⟩
  obtain ⟨g2, hg2⟩ : ∃ g, w.heap.size + 1 = g := ⟨_, rfl⟩
  obtain ⟨g3, hg3⟩ : ∃ g, w.heap.size + 1 + 1 = g := ⟨_, rfl⟩
  have HG1 : Hid (w.heap.size ≤ g1 ∧ w.heap.size ≤ g2 ∧ w.heap.size ≤ g3 ∧ g1 ≠ g2 ∧ g1 ≠ g3 ∧ g2 ≠ g3) := Lib.hid ⟨by omega, by omega, by omega, by omega, by omega, by omega⟩
  rw [hg3] at BL1
  rw [hg2] at HI1
  have BR1b : Aside0 (W1.heap[g1]? = some (.cells #[.int .u64 0, .int .i64 0] 26 (0, 0))) := by rw [← hg1]; exact BR1
  clear BR1
  rw [hg3, hg2]
  refine (screeref12_In_Num.calls k g2 (a0.extract 1 a0.size) false n1 s1 q1 w W1 HI1.out HB1.out HA.out).mono ?_
  rintro e w2 ⟨rfl, hi, hb, hk⟩
  have HI2 := Aside0.mk hi
  have HB2 := Aside0.mk hb
  have BL2 := Aside0.mk (hk.blk BL1.out (Ne.symm HG1.out.2.2.2.2.2) (by simp))
  have BR2 := Aside0.mk (hk.blk BR1b.out HG1.out.2.2.2.1 (by simp))
  clear hi hb hk HI1 HB1 BL1 BR1b
  have c_ : w2.cell? ⟨g3, 0, none⟩ = some (.int .u64 0) := (blk_cell BL2.out 0).trans rfl
  have f_ := blk_frozen BL2.out 0
  rw [hg1]
  clear hg1 hg2 hg3
  go_upto_region 6 with (fail)
  clear c_ f_
  have HI6 := Aside0.mk (IsS63.far (p := ⟨g3, 0, none⟩) HI2.out HG1.out.2.2.2.2.2 (.int .u64 n1))
  have BL6 := Aside0.mk (blk_put (cs' := #[.int .u64 n1, .int .i64 kd]) BL2.out 0 (.int .u64 n1) rfl)
  have BR6 := Aside0.mk (blk_far (p := ⟨g3, 0, none⟩) BR2.out HG1.out.2.2.2.2.1 (.int .u64 n1))
  have HB6 := Aside0.mk (HB2.out.setCell (p := ⟨g3, 0, none⟩) HG1.out.2.2.1 (.int .u64 n1))
  clear HI2 BL2 BR2 HB2
  generalize (w2.setCell ⟨g3, 0, none⟩ (.int .u64 n1)) = w6 at HI6 BL6 BR6 HB6 ⊢
  have c0_ : w6.cell? ⟨g3, 0, none⟩ = some (.int .u64 n1) := (blk_cell BL6.out 0).trans rfl
  have c1_ : w6.cell? ⟨g3, 1, none⟩ = some (.int .i64 kd) := (blk_cell BL6.out 1).trans rfl
  go_wp2_with (fail)
  refine (screeref15_Write.calls k n1 kd is e3 w6 HC.out).mono ?_
  rintro e w7 ⟨rfl, hb⟩
  have HI7 := Aside0.mk (HI6.out.below hb)
  have BL7 := Aside0.mk (blk_below BL6.out hb)
  have BR7 := Aside0.mk (blk_below BR6.out hb)
  have HB7 := Aside0.mk (below_step HB6.out hb)
  clear c0_ c1_ hb HI6 BL6 BR6 HB6
  have i1_ : w7.cell? ⟨g2, 1, none⟩ = some (.bool q1) := (blk_cell HI7.out.1 1).trans rfl
  have r0_ : w7.cell? ⟨g1, 0, none⟩ = some (.int .u64 0) := (blk_cell BR7.out 0).trans rfl
  have r1_ : w7.cell? ⟨g1, 1, none⟩ = some (.int .i64 0) := (blk_cell BR7.out 1).trans rfl
  have p0_ := blk_frozen BR7.out 0
  have p1_ := blk_frozen BR7.out 1
  have l0_ : w7.cell? ⟨g3, 0, none⟩ = some (.int .u64 n1) := (blk_cell BL7.out 0).trans rfl
  have l1_ : w7.cell? ⟨g3, 1, none⟩ = some (.int .i64 kd) := (blk_cell BL7.out 1).trans rfl
  have hh : (if q1 = true ∨ e3 ≠ 0 ∨ is.toList ≠ a0.toList then some ((0 : Int), (0 : Int), (2 : Int)) else some (n1, kd, 0)) = some (r1, r2, r3) := HH.out
  clear HH
  have zero : (q1 = true ∨ e3 ≠ 0 ∨ is.toList ≠ a0.toList) → (0, 0, 2) = (r1, r2, r3) := by
   intro hbad
   rw [if_pos hbad] at hh
   exact Option.some.inj hh
  cases q1 with
  | true =>
   have hh2 := zero (Or.inl rfl)
   simp only [Prod.mk.injEq] at hh2
   obtain ⟨rfl, rfl, rfl⟩ := hh2
   clear hh zero
   go_wp2
   exact bodyPost_ret (hfin _ _ g1 _ _ rfl (blk_put (cs' := #[.int .u64 0, .int .i64 0]) (blk_put (cs' := #[.int .u64 0, .int .i64 0]) BR7.out 0 _ rfl) 1 _ rfl)) rfl ⟨rfl, (HB7.out.setCell (p := ⟨g1, 0, none⟩) HG1.out.1 _).setCell (p := ⟨g1, 1, none⟩) HG1.out.1 _⟩
  | false =>
  by_cases he3 : e3 = 0
  case neg =>
   have hh2 := zero (Or.inr (Or.inl he3))
   simp only [Prod.mk.injEq] at hh2
   obtain ⟨rfl, rfl, rfl⟩ := hh2
   have e1_ : (e3 == 0) = false := beq_eq_false_iff_ne.mpr he3
   have e2_ : (e3 != 0) = true := bne_iff_ne.mpr he3
   clear hh zero
   go_wp2
   exact bodyPost_ret (hfin _ _ g1 _ _ rfl (blk_put (cs' := #[.int .u64 0, .int .i64 0]) (blk_put (cs' := #[.int .u64 0, .int .i64 0]) BR7.out 0 _ rfl) 1 _ rfl)) rfl ⟨rfl, (HB7.out.setCell (p := ⟨g1, 0, none⟩) HG1.out.1 _).setCell (p := ⟨g1, 1, none⟩) HG1.out.1 _⟩
  subst he3
  by_cases hs : is.toList = a0.toList
  ·have s1_ : (is.toList == a0.toList) = true := beq_iff_eq.mpr hs
   have s2_ : (is.toList != a0.toList) = false := bne_eq_false_iff_eq.mpr hs
   rw [if_neg (by simpa using hs)] at hh
   simp only [Option.some.injEq, Prod.mk.injEq] at hh
   obtain ⟨rfl, rfl, rfl⟩ := hh
   clear hs zero
   go_wp2
   exact bodyPost_ret (hfin _ _ g1 _ _ rfl (blk_put (cs' := #[.int .u64 n1, .int .i64 kd]) (blk_put (cs' := #[.int .u64 n1, .int .i64 0]) BR7.out 0 _ rfl) 1 _ rfl)) rfl ⟨rfl, (HB7.out.setCell (p := ⟨g1, 0, none⟩) HG1.out.1 _).setCell (p := ⟨g1, 1, none⟩) HG1.out.1 _⟩
  ·have s1_ : (is.toList == a0.toList) = false := beq_eq_false_iff_ne.mpr hs
   have s2_ : (is.toList != a0.toList) = true := bne_iff_ne.mpr hs
   have hh2 := zero (Or.inr (Or.inr hs))
   simp only [Prod.mk.injEq] at hh2
   obtain ⟨rfl, rfl, rfl⟩ := hh2
   clear hh zero hs
   go_wp2
   exact bodyPost_ret (hfin _ _ g1 _ _ rfl (blk_put (cs' := #[.int .u64 0, .int .i64 0]) (blk_put (cs' := #[.int .u64 0, .int .i64 0]) BR7.out 0 _ rfl) 1 _ rfl)) rfl ⟨rfl, (HB7.out.setCell (p := ⟨g1, 0, none⟩) HG1.out.1 _).setCell (p := ⟨g1, 1, none⟩) HG1.out.1 _⟩

end Go.Proofs.Yteijlcnjnooiiaa.P
