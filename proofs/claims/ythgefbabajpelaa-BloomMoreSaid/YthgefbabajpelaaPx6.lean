-- Printed by a program of this session's own (wip/tools/pprint.sh, over the kit's print, with given contracts): not typed by hand.
import Derived.Test.YthgefbabajpelaaPx0
import Derived.Test.YthgefbabajpelaaPx1
namespace Go.Proofs.Ythgefbabajpelaa.P
open Go.RowKit Go.Proofs.YthgefbabajpelaaW.PrintWords Go.Proofs.YthgefbabajpelaaW.PrintLast Go.Proofs.YthgefbabajpelaaW.PrintMore
attribute [local go_sem] max2_int min2_int max_two min_two max_three min_three max_four min_four   -- for this text's walks alone
set_option linter.unusedVariables false
set_option linter.unusedSimpArgs false

/-! ### screelaw10_BloomMore: function 6 -/
def screelaw10_BloomMore.orl : List Int → List Int → List Int
  | x :: xs, y :: ys => Go.bits .or .u8 x y :: screelaw10_BloomMore.orl xs ys
  | [], _ => []
  | x :: xs, [] => x :: xs
theorem screelaw10_BloomMore.orl_len : ∀ (xs ys : List Int), (screelaw10_BloomMore.orl xs ys).length = xs.length
  | x :: xs, y :: ys => by simp [screelaw10_BloomMore.orl, screelaw10_BloomMore.orl_len xs ys]
  | [], ys => by cases ys <;> rfl
  | x :: xs, [] => rfl
theorem screelaw10_BloomMore.orl_get : ∀ (xs ys : List Int) (i : Nat) (x y : Int), xs[i]? = some x → ys[i]? = some y → (screelaw10_BloomMore.orl xs ys)[i]? = some (Go.bits .or .u8 x y)
  | x :: xs, y :: ys, i, a, b, h1, h2 => by
    cases i with
    | zero => simp at h1 h2; subst h1 h2; rfl
    | succ i => simpa [screelaw10_BloomMore.orl] using screelaw10_BloomMore.orl_get xs ys i a b (by simpa using h1) (by simpa using h2)
  | [], ys, i, a, b, h1, h2 => by simp at h1
  | x :: xs, [], i, a, b, h1, h2 => by simp at h2
theorem screelaw10_BloomMore.orl_past : ∀ (xs ys : List Int) (i : Nat), ys.length ≤ i → (screelaw10_BloomMore.orl xs ys)[i]? = xs[i]?
  | x :: xs, y :: ys, i, h => by
    cases i with
    | zero => simp at h
    | succ i => simpa [screelaw10_BloomMore.orl] using screelaw10_BloomMore.orl_past xs ys i (by simpa using h)
  | [], ys, i, h => by cases ys <;> rfl
  | x :: xs, [], i, h => rfl
/-- The row behind i rounds. -/
def screelaw10_BloomMore.part (a b : List Int) (i : Nat) : List Int := b.take i ++ a.drop i
theorem screelaw10_BloomMore.part_len (a b : List Int) (i : Nat) (h : b.length = a.length) : (screelaw10_BloomMore.part a b i).length = a.length := by
  simp [screelaw10_BloomMore.part]; omega
theorem screelaw10_BloomMore.part_get (a b : List Int) (i : Nat) (h : b.length = a.length) (hi : i < a.length) : (screelaw10_BloomMore.part a b i)[i]? = a[i]? := by
  unfold screelaw10_BloomMore.part
  rw [List.getElem?_append_right (by simp; omega), List.getElem?_drop]
  congr 1; simp; omega
theorem screelaw10_BloomMore.part_succ (a b : List Int) (i : Nat) (h : b.length = a.length) (hi : i < a.length) (x : Int) (hx : b[i]? = some x) : (screelaw10_BloomMore.part a b i).set i x = screelaw10_BloomMore.part a b (i + 1) := by
  unfold screelaw10_BloomMore.part
  have hb : i < b.length := by omega
  have e : b[i] = x := by rw [List.getElem?_eq_getElem hb] at hx; exact Option.some.inj hx
  have hl : (b.take i).length = i := by rw [List.length_take]; omega
  rw [List.set_append_right _ _ (by omega), List.drop_eq_getElem_cons hi, List.take_succ_eq_append_getElem hb, e, hl, Nat.sub_self, List.set_cons_zero, List.append_assoc]
  rfl
theorem screelaw10_BloomMore.part_same (a b : List Int) (i : Nat) (h : b.length = a.length) (hi : i < a.length) (hx : b[i]? = a[i]?) : screelaw10_BloomMore.part a b i = screelaw10_BloomMore.part a b (i + 1) := by
  have h2 := screelaw10_BloomMore.part_succ a b i h hi a[i] (by rw [hx]; exact List.getElem?_eq_getElem hi)
  rw [← h2]
  apply List.ext_getElem?
  intro j
  rw [List.getElem?_set]
  by_cases hj : i = j
  · subst hj
    have hl := screelaw10_BloomMore.part_len a b i h
    rw [if_pos rfl, if_pos (by omega), screelaw10_BloomMore.part_get a b i h hi, List.getElem?_eq_getElem hi]
  · rw [if_neg hj]
theorem screelaw10_BloomMore.part_all (a b : List Int) (i : Nat) (h : b.length = a.length) (hi : a.length ≤ i) : screelaw10_BloomMore.part a b i = b := by
  unfold screelaw10_BloomMore.part
  rw [List.take_of_length_le (by omega), List.drop_eq_nil_of_le hi, List.append_nil]
def screelaw10_BloomMore.f (k : Nat) (a0 : ByteArray) (a1 : ByteArray) (a2 : ByteArray) : Option Bool :=
  (screelaw10_awake.f k).bind fun t => if t = true then (if 200 < a0.size ∨ 200 < a1.size ∨ 300 < a2.size then some true else
    (bloom_May.f k a0 a2).bind fun p => (if p = true then bloom_May.f k (strOfNums (screelaw10_BloomMore.orl (bytesOf a0) (bytesOf a1))) a2 else some true).bind fun q => if q = true then
      (bloom_Full.f k a0).bind fun n1 => (bloom_Full.f k (strOfNums (screelaw10_BloomMore.orl (bytesOf a0) (bytesOf a1)))).bind fun n2 => if n1 ≤ n2 then bloom_May.f k (strOfNums (List.replicate a0.size 255)) a2 else none
    else none) else none
theorem screelaw10_BloomMore.mono : ∀ a0 a1 a2 k, LeO (screelaw10_BloomMore.f k a0 a1 a2) (screelaw10_BloomMore.f (k + 1) a0 a1 a2) := by
  intro a0 a1 a2 k
  unfold screelaw10_BloomMore.f
  exact LeO.bind (screelaw10_awake.mono _) (fun _ => LeO.ite (LeO.ite (LeO.refl _) (LeO.bind (bloom_May.mono _ _ _) (fun _ => LeO.bind (LeO.ite (bloom_May.mono _ _ _) (LeO.refl _)) (fun _ => LeO.ite (LeO.bind (bloom_Full.mono _ _) (fun _ => LeO.bind (bloom_Full.mono _ _) (fun _ => LeO.ite (bloom_May.mono _ _ _) (LeO.refl _)))) (LeO.refl _))))) (LeO.refl _))
set_option maxHeartbeats 1600000 in
set_option maxRecDepth 100000 in
theorem screelaw10_BloomMore.calls (k : Nat) (a0 : ByteArray) (a1 : ByteArray) (a2 : ByteArray) (r : Bool) (w : World) (h : screelaw10_BloomMore.f k a0 a1 a2 = some r) :
    Calls Try.prog 6 #[.string a0, .string a1, .string a2] w fun e w' => e = .returned (.bool r) ∧ Below w.heap.size w w' := by
  unfold screelaw10_BloomMore.f at h
  replace h := Option.bind_eq_some_iff.mp h
  obtain ⟨t, hA, h⟩ := h
  cases t with
  | false => exact absurd h (by simp)
  | true =>
  rw [if_pos rfl] at h
  have HA := Lib.hid hA
  clear hA
  by_cases hbig : 200 < a0.size ∨ 200 < a1.size ∨ 300 < a2.size
  · rw [if_pos hbig] at h
    simp only [Option.some.injEq] at h
    subst h
    by_cases h1 : 200 < a0.size
    · have d1 : decide (200 < (a0.size : Int)) = true := decide_eq_true (by omega)
      clear hbig h1
      go_enter Try.func6, Try.ntmps6
      go_wp2_with (go_at_call 10; (refine (screelaw10_awake.calls k true _ HA.out).mono ?_); rintro e w1 ⟨rfl, hb⟩)
      go_ret
      exact ⟨rfl, hb⟩
    · have d1 : decide (200 < (a0.size : Int)) = false := decide_eq_false (by omega)
      by_cases h2 : 200 < a1.size
      · have d2 : decide (200 < (a1.size : Int)) = true := decide_eq_true (by omega)
        clear hbig h1 h2
        go_enter Try.func6, Try.ntmps6
        go_wp2_with (go_at_call 10; (refine (screelaw10_awake.calls k true _ HA.out).mono ?_); rintro e w1 ⟨rfl, hb⟩)
        go_ret
        exact ⟨rfl, hb⟩
      · have d2 : decide (200 < (a1.size : Int)) = false := decide_eq_false (by omega)
        have d3 : decide (300 < (a2.size : Int)) = true := decide_eq_true (by omega)
        clear hbig h1 h2
        go_enter Try.func6, Try.ntmps6
        go_wp2_with (go_at_call 10; (refine (screelaw10_awake.calls k true _ HA.out).mono ?_); rintro e w1 ⟨rfl, hb⟩)
        go_ret
        exact ⟨rfl, hb⟩
  · rw [if_neg hbig] at h
    have d1 : decide (200 < (a0.size : Int)) = false := decide_eq_false (by omega)
    have d2 : decide (200 < (a1.size : Int)) = false := decide_eq_false (by omega)
    have d3 : decide (300 < (a2.size : Int)) = false := decide_eq_false (by omega)
    have hs0 : a0.size ≤ 200 := by omega
    clear hbig
    have hb0 : (bytesOf a0).length = a0.size := by unfold bytesOf; rw [List.length_map, Array.length_toList]; rfl
    have hb1 : (bytesOf a1).length = a1.size := by unfold bytesOf; rw [List.length_map, Array.length_toList]; rfl
    obtain ⟨A, hA⟩ : ∃ A, bytesOf a0 = A := ⟨_, rfl⟩
    obtain ⟨B, hB⟩ : ∃ B, bytesOf a1 = B := ⟨_, rfl⟩
    obtain ⟨C, hC⟩ : ∃ C, screelaw10_BloomMore.orl A B = C := ⟨_, rfl⟩
    have hCl : C.length = A.length := by rw [← hC]; exact screelaw10_BloomMore.orl_len A B
    have hCg : ∀ i x y, A[i]? = some x → B[i]? = some y → C[i]? = some (Go.bits .or .u8 x y) := fun i x y => by rw [← hC]; exact screelaw10_BloomMore.orl_get A B i x y
    have hCp : ∀ i, B.length ≤ i → C[i]? = A[i]? := fun i => by rw [← hC]; exact screelaw10_BloomMore.orl_past A B i
    rw [hA, hB, hC] at h
    rw [hA] at hb0
    rw [hB] at hb1
    clear hC
    have HH := Lib.hid h
    clear h
    go_enter Try.func6, Try.ntmps6
    go_wp2_with (go_at_call 10; (refine (screelaw10_awake.calls k true _ HA.out).mono ?_); rintro e w2 ⟨rfl, hb⟩; have HB2 := Aside0.mk hb; clear hb)
    rw [Lib.run_convert_string_bytes w2 9 36 5 a0 Try.underlying9 Try.underlying36 Try.underlying5]
    simp only [Result.andThen]
    rw [Oper.upon_value]
    have HR := Aside0.mk (SR.SRow.made w2 5 a0)
    rw [hA] at HR
    have HB3 := Aside0.mk (below_step HB2.out (SR.made_below w2 5 a0))
    have hgl := Lib.hid (below_size HB2.out)
    generalize w2.heap.size = gb at HR hgl ⊢
    generalize Lib.bytesWorld w2 5 a0 = w3 at HR HB3 ⊢
    generalize Go.grownCap w2 a0.size 0 5 = cp
    clear HB2
    have HC := Lib.hid (And.intro hCl (And.intro hCg hCp))
    clear hCl hCg hCp
    go_wp2
    go_loopg [29] a0.size (fun kq v29 w' => ∃ (i : Nat), v29 = .int .i64 (i : Int) ∧ Aside0 (kq + i = a0.size) ∧ Aside0 (SR.SRow w' gb 5 (screelaw10_BloomMore.part A C i)) ∧ Aside0 (Below w.heap.size w w'))
    case atStart => exact ⟨0, rfl, ⟨by omega⟩, ⟨by simpa [screelaw10_BloomMore.part] using HR.out⟩, HB3⟩
    case round =>
      clear HR HB3
      obtain ⟨i, rfl, HI, HR, HB⟩ := hrel
      by_cases hlt : i < a0.size
      · have hkg : ∃ k1, gk = k1 + 1 := ⟨gk - 1, by have := HI.out; omega⟩
        obtain ⟨k1, rfl⟩ := hkg
        have dl : decide ((i : Int) < (a0.size : Int)) = true := decide_eq_true (by omega)
        have hia : i < A.length := by omega
        have hpg := screelaw10_BloomMore.part_get A C i HC.out.1 hia
        have hpl := screelaw10_BloomMore.part_len A C i HC.out.1
        obtain ⟨x, hx⟩ : ∃ x, A[i]? = some x := ⟨_, List.getElem?_eq_getElem hia⟩
        by_cases hmo : i < a1.size
        · have dm : decide ((i : Int) < (a1.size : Int)) = true := decide_eq_true (by omega)
          have hcell := HR.out.cell i x (hpg.trans hx)
          have hfz := HR.out.frozen i (by rw [hpl]; exact hia)
          have hy : B[i]? = some (bt a1 (i : Int)) := by
            rw [← hB]
            obtain ⟨l, rfl⟩ := Th.ex_lb a1
            rw [Th.lb_size] at hmo
            rw [Th.bytesOf_lb, Th.bt_nat l i hmo]
            simp [Th.toI, List.getElem?_eq_getElem hmo]
          have hy2 : B[i]? = some (((a1[i]'hmo).toNat : Nat) : Int) := hy.trans (congrArg some (bt_at a1 (i : Int) hmo).symm)
          have hz := HC.out.2.1 i x _ hx hy2
          have hz2 := screelaw10_BloomMore.part_succ A C i HC.out.1 hia _ hz
          have hR2 := HR.out.set i (Go.bits .or .u8 x (((a1[i]'hmo).toNat : Nat) : Int)) (by rw [hpl]; exact hia)
          rw [hz2] at hR2
          have HR2 := Aside0.mk hR2
          have HB2 := Aside0.mk (SR.set_below (i := i) (v := .int .u8 (Go.bits .or .u8 x (((a1[i]'hmo).toNat : Nat) : Int))) HB.out hgl.out)
          clear hz hz2 hR2 hy hy2 hpg hx
          go_wp2
          go_region
          have HR3 := Aside0.mk HR2.out.drew
          have HB4 := Aside0.mk (below_drew1 HB2.out)
          clear HR2 HB2
          generalize (wr.setCell ⟨gb, i, none⟩ (Value.int .u8 (Go.bits .or .u8 x (((a1[i]'hmo).toNat : Nat) : Int)))).drew = w9 at HR3 HB4 ⊢
          go_wp2
          go_roundg k1
          case measure => omega
          case rel => exact ⟨i + 1, by go_num, ⟨by have := HI.out; omega⟩, HR3, HB4⟩
        · have dm : decide ((i : Int) < (a1.size : Int)) = false := decide_eq_false (by omega)
          have hz := screelaw10_BloomMore.part_same A C i HC.out.1 hia (HC.out.2.2 i (by omega))
          rw [hz] at HR
          go_wp2
          go_roundg k1
          case measure => omega
          case rel => exact ⟨i + 1, by go_num, ⟨by have := HI.out; omega⟩, HR, HB⟩
      · have hi : i = a0.size := by have := HI.out; omega
        subst hi
        have dl : decide (((a0.size : Nat) : Int) < (a0.size : Int)) = false := decide_eq_false (by omega)
        rw [screelaw10_BloomMore.part_all A C a0.size HC.out.1 (by omega)] at HR
        have HCl := Lib.hid (HC.out.1.trans hb0)
        have h := HH.out
        clear HH HC HI
        replace h := Option.bind_eq_some_iff.mp h
        obtain ⟨p, hP, h⟩ := h
        replace h := Option.bind_eq_some_iff.mp h
        obtain ⟨q, hQ, h⟩ := h
        cases q with
        | false => exact absurd h (by simp)
        | true =>
        rw [if_pos rfl] at h
        replace h := Option.bind_eq_some_iff.mp h
        obtain ⟨n1, hN1, h⟩ := h
        replace h := Option.bind_eq_some_iff.mp h
        obtain ⟨n2, hN2, h⟩ := h
        by_cases hn : n1 ≤ n2
        case neg => rw [if_neg hn] at h; exact absurd h (by simp)
        rw [if_pos hn] at h
        have dg : decide (n2 < n1) = false := decide_eq_false (by omega)
        have HP := Lib.hid hP
        have HN1 := Lib.hid hN1
        have HN2 := Lib.hid hN2
        have HF := Lib.hid h
        have HQ := Lib.hid hQ
        clear hP hN1 hN2 h hn hQ
        obtain ⟨sC, hsC⟩ : ∃ s, strOfNums C = s := ⟨_, rfl⟩
        rw [hsC] at HQ HN2
        have HSC := Lib.hid hsC
        clear hsC
        go_upto_region 12 with (fail)
        have HV : Hid (∀ w', SR.SRow w' gb 5 C → (convert 36 9 (.slice (some ⟨gb, 0, none⟩) a0.size cp)).run Try.prog w' = .ok (.string sC) w') := Lib.hid (fun w' h0 => by
          have hcv := h0.str 36 Try.underlying36 Try.underlying5 cp 9 Try.underlying9
          rw [HCl.out, HSC.out] at hcv
          exact hcv)
        cases p with
        | true =>
          refine start_ (n := 18) (S := fun w' => SR.SRow w' gb 5 C) (ds := []) #[false, false, false, false, false, false, false, false, false, false, false, false, false, false, false, false, false, false] (by kernel_rfl) rfl rfl HR.out.drew (fun hHeld => ?_)
          have HR0 := Aside0.mk HR.out.drew
          have HB0 := Aside0.mk (below_drew1 HB.out)
          clear HR HB
          generalize wr.drew = w9 at HR0 HB0 hHeld ⊢
          refine pure_ (i := 0) (N := some 46) (v := ?_) (a' := ?_) #[true, false, false, false, false, false, false, false, false, false, false, false, false, false, false, false, false, false] rfl rfl (by kernel_rfl) (fun _ _ _ h => h) (Or.inl ⟨by rfl, ?_⟩) ?_ ?_
          rotate_left
          · intro w'
            go_simp
            with_reducible rfl
          rotate_left
          · simp only [Act.put, List.setIfInBounds_toArray, List.set_cons_zero, List.set_cons_succ, i64_w, i32_w]
            rfl
          refine pure_ (i := 1) (N := some 47) (v := ?_) (a' := ?_) #[true, true, false, false, false, false, false, false, false, false, false, false, false, false, false, false, false, false] rfl rfl (by kernel_rfl) (fun _ _ _ h => h) (Or.inl ⟨by rfl, ?_⟩) ?_ ?_
          rotate_left
          · intro w'
            go_simp
            with_reducible rfl
          rotate_left
          · simp only [Act.put, List.setIfInBounds_toArray, List.set_cons_zero, List.set_cons_succ, i64_w, i32_w]
            rfl
          refine one_ (i := 2) (N := some 48) #[true, true, true, false, false, false, false, false, false, false, false, false, false, false, false, false, false, false] rfl rfl (by kernel_rfl) (by decide) (fun K hK => ?_)
          refine goes_ Try.func16 (by kernel_rfl) rfl #[.string a0, .string a2] (by rfl) rfl rfl (by (try simp only [List.map_toArray, List.map_cons, List.map_nil]); first | done | rfl) ?_
          refine (bloom_May.calls k a0 a2 true _ HP.out).mono ?_
          rintro e w' ⟨rfl, hb⟩
          refine ⟨_, rfl, ?_⟩
          have HR1 := Aside0.mk (HR0.out.below hb)
          have HB1 := Aside0.mk (below_step HB0.out hb)
          clear hb HR0 HB0 hHeld
          refine hK.out _ _ HR1.out (fun hHeld => ?_)
          clear hK K
          refine norm_ (a' := ?_) ?_ ?_
          rotate_left
          · show Act.put _ (some 48) _ = _
            simp only [Act.put, List.setIfInBounds_toArray, List.set_cons_zero, List.set_cons_succ, i64_w, i32_w]
            rfl
          refine pure_ (i := 3) (N := some 49) (v := ?_) (a' := ?_) #[true, true, true, true, false, false, false, false, false, false, false, false, false, false, false, false, false, false] rfl rfl (by kernel_rfl) (fun _ _ _ h => h) (Or.inl ⟨by rfl, ?_⟩) ?_ ?_
          rotate_left
          · intro w'
            go_simp
            with_reducible rfl
          rotate_left
          · simp only [Act.put, List.setIfInBounds_toArray, List.set_cons_zero, List.set_cons_succ, i64_w, i32_w]
            rfl
          refine pure_ (i := 4) (N := some 50) (v := ?_) (a' := ?_) #[true, true, true, true, true, false, false, false, false, false, false, false, false, false, false, false, false, false] rfl rfl (by kernel_rfl) (fun _ _ _ h => h) (Or.inl ⟨by rfl, ?_⟩) ?_ ?_
          rotate_left
          · intro w'
            go_simp
            with_reducible rfl
          rotate_left
          · simp only [Act.put, List.setIfInBounds_toArray, List.set_cons_zero, List.set_cons_succ, i64_w, i32_w]
            rfl
          refine take_ (i := 5) (N := some 51) (v := ?_) (a' := ?_) #[true, true, true, true, true, true, false, false, false, false, false, false, false, false, false, false, false, false] rfl rfl (by kernel_rfl) (fun _ _ _ h => h) (Or.inl ⟨by rfl, ?_⟩) hHeld ?_ ?_
          rotate_left
          · intro w' s0
            have hcv := HV.out w' s0
            go_simp
            with_reducible rfl
          rotate_left
          · simp only [Act.put, List.setIfInBounds_toArray, List.set_cons_zero, List.set_cons_succ, i64_w, i32_w]
            rfl
          refine pure_ (i := 6) (N := some 52) (v := ?_) (a' := ?_) #[true, true, true, true, true, true, true, false, false, false, false, false, false, false, false, false, false, false] rfl rfl (by kernel_rfl) (fun _ _ _ h => h) (Or.inl ⟨by rfl, ?_⟩) ?_ ?_
          rotate_left
          · intro w'
            go_simp
            with_reducible rfl
          rotate_left
          · simp only [Act.put, List.setIfInBounds_toArray, List.set_cons_zero, List.set_cons_succ, i64_w, i32_w]
            rfl
          have HQ2 : Hid (bloom_May.f k sC a2 = some true) := Lib.hid (by have := HQ.out; rwa [if_pos rfl] at this)
          refine one_ (i := 7) (N := some 53) #[true, true, true, true, true, true, true, true, false, false, false, false, false, false, false, false, false, false] rfl rfl (by kernel_rfl) (by decide) (fun K hK => ?_)
          refine goes_ Try.func16 (by kernel_rfl) rfl #[.string sC, .string a2] (by rfl) rfl rfl (by (try simp only [List.map_toArray, List.map_cons, List.map_nil]); first | done | rfl) ?_
          refine (bloom_May.calls k sC a2 true _ HQ2.out).mono ?_
          rintro e w' ⟨rfl, hb⟩
          refine ⟨_, rfl, ?_⟩
          have HR2 := Aside0.mk (HR1.out.below hb)
          have HB2 := Aside0.mk (below_step HB1.out hb)
          clear hb HR1 HB1 hHeld
          refine hK.out _ _ HR2.out (fun hHeld => ?_)
          clear hK K
          refine norm_ (a' := ?_) ?_ ?_
          rotate_left
          · show Act.put _ (some 53) _ = _
            simp only [Act.put, List.setIfInBounds_toArray, List.set_cons_zero, List.set_cons_succ, i64_w, i32_w]
            rfl
          refine pure_ (i := 8) (N := some 54) (v := ?_) (a' := ?_) #[true, true, true, true, true, true, true, true, true, false, false, false, false, false, false, false, false, false] rfl rfl (by kernel_rfl) (fun _ _ _ h => h) (Or.inl ⟨by rfl, ?_⟩) ?_ ?_
          rotate_left
          · intro w'
            go_simp
            with_reducible rfl
          rotate_left
          · simp only [Act.put, List.setIfInBounds_toArray, List.set_cons_zero, List.set_cons_succ, i64_w, i32_w]
            rfl
          refine pure_ (i := 9) (N := some 55) (v := ?_) (a' := ?_) #[true, true, true, true, true, true, true, true, true, true, false, false, false, false, false, false, false, false] rfl rfl (by kernel_rfl) (fun _ _ _ h => h) (Or.inl ⟨by rfl, ?_⟩) ?_ ?_
          rotate_left
          · intro w'
            go_simp
            with_reducible rfl
          rotate_left
          · simp only [Act.put, List.setIfInBounds_toArray, List.set_cons_zero, List.set_cons_succ, i64_w, i32_w]
            rfl
          refine pure_ (i := 10) (N := some 56) (v := ?_) (a' := ?_) #[true, true, true, true, true, true, true, true, true, true, true, false, false, false, false, false, false, false] rfl rfl (by kernel_rfl) (fun _ _ _ h => h) (Or.inl ⟨by rfl, ?_⟩) ?_ ?_
          rotate_left
          · intro w'
            go_simp
            with_reducible rfl
          rotate_left
          · simp only [Act.put, List.setIfInBounds_toArray, List.set_cons_zero, List.set_cons_succ, i64_w, i32_w]
            rfl
          refine pure_ (i := 11) (N := some 57) (v := ?_) (a' := ?_) #[true, true, true, true, true, true, true, true, true, true, true, true, false, false, false, false, false, false] rfl rfl (by kernel_rfl) (fun _ _ _ h => h) (Or.inl ⟨by rfl, ?_⟩) ?_ ?_
          rotate_left
          · intro w'
            go_simp
            with_reducible rfl
          rotate_left
          · simp only [Act.put, List.setIfInBounds_toArray, List.set_cons_zero, List.set_cons_succ, i64_w, i32_w]
            rfl
          refine pure_ (i := 13) (N := some 59) (v := ?_) (a' := ?_) #[true, true, true, true, true, true, true, true, true, true, true, true, false, true, false, false, false, false] rfl rfl (by kernel_rfl) (fun _ _ _ h => h) (Or.inl ⟨by rfl, ?_⟩) ?_ ?_
          rotate_left
          · intro w'
            go_simp
            with_reducible rfl
          rotate_left
          · simp only [Act.put, List.setIfInBounds_toArray, List.set_cons_zero, List.set_cons_succ, i64_w, i32_w]
            rfl
          refine take_ (i := 14) (N := some 60) (v := ?_) (a' := ?_) #[true, true, true, true, true, true, true, true, true, true, true, true, false, true, true, false, false, false] rfl rfl (by kernel_rfl) (fun _ _ _ h => h) (Or.inl ⟨by rfl, ?_⟩) hHeld ?_ ?_
          rotate_left
          · intro w' s0
            have hcv := HV.out w' s0
            go_simp
            with_reducible rfl
          rotate_left
          · simp only [Act.put, List.setIfInBounds_toArray, List.set_cons_zero, List.set_cons_succ, i64_w, i32_w]
            rfl
          refine one_ (i := 12) (N := some 58) #[true, true, true, true, true, true, true, true, true, true, true, true, true, true, true, false, false, false] rfl rfl (by kernel_rfl) (by decide) (fun K hK => ?_)
          refine goes_ Try.func18 (by kernel_rfl) rfl #[.string a0] (by rfl) rfl rfl (by (try simp only [List.map_toArray, List.map_cons, List.map_nil]); first | done | rfl) ?_
          refine (bloom_Full.calls k a0 n1 _ HN1.out).mono ?_
          rintro e w' ⟨rfl, hb⟩
          refine ⟨_, rfl, ?_⟩
          have HR3 := Aside0.mk (HR2.out.below hb.below)
          have HB3 := Aside0.mk (below_step HB2.out hb.below)
          clear hb HR2 HB2 hHeld
          refine hK.out _ _ HR3.out (fun hHeld => ?_)
          clear hK K
          refine norm_ (a' := ?_) ?_ ?_
          rotate_left
          · show Act.put _ (some 58) _ = _
            simp only [Act.put, List.setIfInBounds_toArray, List.set_cons_zero, List.set_cons_succ, i64_w, i32_w]
            rfl
          refine one_ (i := 15) (N := some 61) #[true, true, true, true, true, true, true, true, true, true, true, true, true, true, true, true, false, false] rfl rfl (by kernel_rfl) (by decide) (fun K hK => ?_)
          refine goes_ Try.func18 (by kernel_rfl) rfl #[.string sC] (by rfl) rfl rfl (by (try simp only [List.map_toArray, List.map_cons, List.map_nil]); first | done | rfl) ?_
          refine (bloom_Full.calls k sC n2 _ HN2.out).mono ?_
          rintro e w' ⟨rfl, hb⟩
          refine ⟨_, rfl, ?_⟩
          have HR4 := Aside0.mk (HR3.out.below hb.below)
          have HB4 := Aside0.mk (below_step HB3.out hb.below)
          clear hb HR3 HB3 hHeld
          refine hK.out _ _ HR4.out (fun hHeld => ?_)
          clear hK K
          refine norm_ (a' := ?_) ?_ ?_
          rotate_left
          · show Act.put _ (some 61) _ = _
            simp only [Act.put, List.setIfInBounds_toArray, List.set_cons_zero, List.set_cons_succ, i64_w, i32_w]
            rfl
          refine pure_ (i := 16) (N := some 62) (v := ?_) (a' := ?_) #[true, true, true, true, true, true, true, true, true, true, true, true, true, true, true, true, true, false] rfl rfl (by kernel_rfl) (fun _ _ _ h => h) (Or.inl ⟨by rfl, ?_⟩) ?_ ?_
          rotate_left
          · intro w'
            go_simp
            with_reducible rfl
          rotate_left
          · simp only [Act.put, List.setIfInBounds_toArray, List.set_cons_zero, List.set_cons_succ, i64_w, i32_w]
            rfl
          refine pure_ (i := 17) (N := some 63) (v := ?_) (a' := ?_) #[true, true, true, true, true, true, true, true, true, true, true, true, true, true, true, true, true, true] rfl rfl (by kernel_rfl) (fun _ _ _ h => h) (Or.inl ⟨by rfl, ?_⟩) ?_ ?_
          rotate_left
          · intro w'
            go_simp
            with_reducible rfl
          rotate_left
          · simp only [Act.put, List.setIfInBounds_toArray, List.set_cons_zero, List.set_cons_succ, i64_w, i32_w]
            rfl
          refine done_ (by kernel_rfl) ?_
          (try clear hHeld)
          try clear hHeld
          generalize hw8 : w' = w8 at HR4 HB4 ⊢
          clear hw8 HP HN1 HN2 HQ HSC HV
          have HR8 := HR4
          have HB8 := HB4
          clear HR4 HB4
          have HD : Hid ((List.replicate a0.size (255 : Int)).length = C.length ∧ ∀ i, i < C.length → (List.replicate a0.size (255 : Int))[i]? = some 255) := Lib.hid ⟨by rw [List.length_replicate]; exact HCl.out.symm, fun i hi => by rw [List.getElem?_replicate, if_pos (by have := HCl.out; omega)]⟩
          obtain ⟨D, hD⟩ : ∃ D, List.replicate a0.size (255 : Int) = D := ⟨_, rfl⟩
          rw [hD] at HD HF
          clear hD
          go_wp2
          go_loopg [66] a0.size (fun kq v66 w' => ∃ (i : Nat), v66 = .int .i64 (i : Int) ∧ Aside0 (kq + i = a0.size) ∧ Aside0 (SR.SRow w' gb 5 (screelaw10_BloomMore.part C D i)) ∧ Aside0 (Below w.heap.size w w'))
          case atStart => exact ⟨0, rfl, ⟨by omega⟩, ⟨by simpa [screelaw10_BloomMore.part] using HR8.out⟩, HB8⟩
          case round =>
            clear HR8 HB8
            obtain ⟨i, rfl, HI, HR, HB⟩ := hrel
            by_cases hlt : i < a0.size
            · have hkg : ∃ k1, gk = k1 + 1 := ⟨gk - 1, by have := HI.out; omega⟩
              obtain ⟨k1, rfl⟩ := hkg
              have dl2 : decide ((i : Int) < (a0.size : Int)) = true := decide_eq_true (by omega)
              have hia : i < C.length := by have := HCl.out; omega
              have hpl := screelaw10_BloomMore.part_len C D i HD.out.1
              have hpg := screelaw10_BloomMore.part_get C D i HD.out.1 hia
              have hcell := HR.out.cell i C[i] (hpg.trans (List.getElem?_eq_getElem hia))
              have hfz := HR.out.frozen i (by rw [hpl]; exact hia)
              have hz2 := screelaw10_BloomMore.part_succ C D i HD.out.1 hia _ (HD.out.2 i hia)
              have hR2 := HR.out.set i 255 (by rw [hpl]; exact hia)
              rw [hz2] at hR2
              have HR2 := Aside0.mk hR2
              have HB2 := Aside0.mk (SR.set_below (i := i) (v := .int .u8 255) HB.out hgl.out)
              clear hz2 hR2 hpg
              go_wp2
              go_roundg k1
              case measure => omega
              case rel => exact ⟨i + 1, by go_num, ⟨by have := HI.out; omega⟩, HR2, HB2⟩
            · have hi : i = a0.size := by have := HI.out; omega
              subst hi
              have dl2 : decide (((a0.size : Nat) : Int) < (a0.size : Int)) = false := decide_eq_false (by omega)
              rw [screelaw10_BloomMore.part_all C D a0.size HD.out.1 (by have := HCl.out; omega)] at HR
              have hcv := HR.out.str 36 Try.underlying36 Try.underlying5 cp 9 Try.underlying9
              rw [HD.out.1, HCl.out] at hcv
              go_wp2_with (go_at_call 16; (refine (bloom_May.calls k (strOfNums D) a2 r _ HF.out).mono ?_); rintro e w5 ⟨rfl, hb⟩; have HB5 := Aside0.mk (below_step HB.out hb); clear HB hb)
              go_ret
              exact ⟨rfl, HB5.out⟩
        | false =>
          refine start_ (n := 18) (S := fun w' => SR.SRow w' gb 5 C) (ds := []) #[false, false, false, false, false, false, false, false, false, false, false, false, false, false, false, false, false, false] (by kernel_rfl) rfl rfl HR.out.drew (fun hHeld => ?_)
          have HR0 := Aside0.mk HR.out.drew
          have HB0 := Aside0.mk (below_drew1 HB.out)
          clear HR HB
          generalize wr.drew = w9 at HR0 HB0 hHeld ⊢
          refine pure_ (i := 0) (N := some 46) (v := ?_) (a' := ?_) #[true, false, false, false, false, false, false, false, false, false, false, false, false, false, false, false, false, false] rfl rfl (by kernel_rfl) (fun _ _ _ h => h) (Or.inl ⟨by rfl, ?_⟩) ?_ ?_
          rotate_left
          · intro w'
            go_simp
            with_reducible rfl
          rotate_left
          · simp only [Act.put, List.setIfInBounds_toArray, List.set_cons_zero, List.set_cons_succ, i64_w, i32_w]
            rfl
          refine pure_ (i := 1) (N := some 47) (v := ?_) (a' := ?_) #[true, true, false, false, false, false, false, false, false, false, false, false, false, false, false, false, false, false] rfl rfl (by kernel_rfl) (fun _ _ _ h => h) (Or.inl ⟨by rfl, ?_⟩) ?_ ?_
          rotate_left
          · intro w'
            go_simp
            with_reducible rfl
          rotate_left
          · simp only [Act.put, List.setIfInBounds_toArray, List.set_cons_zero, List.set_cons_succ, i64_w, i32_w]
            rfl
          refine one_ (i := 2) (N := some 48) #[true, true, true, false, false, false, false, false, false, false, false, false, false, false, false, false, false, false] rfl rfl (by kernel_rfl) (by decide) (fun K hK => ?_)
          refine goes_ Try.func16 (by kernel_rfl) rfl #[.string a0, .string a2] (by rfl) rfl rfl (by (try simp only [List.map_toArray, List.map_cons, List.map_nil]); first | done | rfl) ?_
          refine (bloom_May.calls k a0 a2 false _ HP.out).mono ?_
          rintro e w' ⟨rfl, hb⟩
          refine ⟨_, rfl, ?_⟩
          have HR1 := Aside0.mk (HR0.out.below hb)
          have HB1 := Aside0.mk (below_step HB0.out hb)
          clear hb HR0 HB0 hHeld
          refine hK.out _ _ HR1.out (fun hHeld => ?_)
          clear hK K
          refine norm_ (a' := ?_) ?_ ?_
          rotate_left
          · show Act.put _ (some 48) _ = _
            simp only [Act.put, List.setIfInBounds_toArray, List.set_cons_zero, List.set_cons_succ, i64_w, i32_w]
            rfl
          refine pure_ (i := 3) (N := some 49) (v := ?_) (a' := ?_) #[true, true, true, true, false, false, false, false, false, false, false, false, false, false, false, false, false, false] rfl rfl (by kernel_rfl) (fun _ _ _ h => h) (Or.inl ⟨by rfl, ?_⟩) ?_ ?_
          rotate_left
          · intro w'
            go_simp
            with_reducible rfl
          rotate_left
          · simp only [Act.put, List.setIfInBounds_toArray, List.set_cons_zero, List.set_cons_succ, i64_w, i32_w]
            rfl
          refine pure_ (i := 4) (N := some 50) (v := undef) #[true, true, true, true, true, false, false, false, false, false, false, false, false, false, false, false, false, false] rfl rfl (by kernel_rfl) (fun _ _ _ h => h) (Or.inr ⟨by rfl, rfl⟩) rfl ?_
          refine norm_ (a' := ?_) ?_ ?_
          rotate_left
          · simp only [Act.put, List.setIfInBounds_toArray, List.set_cons_zero, List.set_cons_succ, i64_w, i32_w]
            rfl
          refine pure_ (i := 5) (N := some 51) (v := undef) #[true, true, true, true, true, true, false, false, false, false, false, false, false, false, false, false, false, false] rfl rfl (by kernel_rfl) (fun _ _ _ h => h) (Or.inr ⟨by rfl, rfl⟩) rfl ?_
          refine norm_ (a' := ?_) ?_ ?_
          rotate_left
          · simp only [Act.put, List.setIfInBounds_toArray, List.set_cons_zero, List.set_cons_succ, i64_w, i32_w]
            rfl
          refine pure_ (i := 6) (N := some 52) (v := undef) #[true, true, true, true, true, true, true, false, false, false, false, false, false, false, false, false, false, false] rfl rfl (by kernel_rfl) (fun _ _ _ h => h) (Or.inr ⟨by rfl, rfl⟩) rfl ?_
          refine norm_ (a' := ?_) ?_ ?_
          rotate_left
          · simp only [Act.put, List.setIfInBounds_toArray, List.set_cons_zero, List.set_cons_succ, i64_w, i32_w]
            rfl
          refine pure_ (i := 7) (N := some 53) (v := undef) #[true, true, true, true, true, true, true, true, false, false, false, false, false, false, false, false, false, false] rfl rfl (by kernel_rfl) (fun _ _ _ h => h) (Or.inr ⟨by rfl, rfl⟩) rfl ?_
          refine norm_ (a' := ?_) ?_ ?_
          rotate_left
          · simp only [Act.put, List.setIfInBounds_toArray, List.set_cons_zero, List.set_cons_succ, i64_w, i32_w]
            rfl
          refine pure_ (i := 8) (N := some 54) (v := undef) #[true, true, true, true, true, true, true, true, true, false, false, false, false, false, false, false, false, false] rfl rfl (by kernel_rfl) (fun _ _ _ h => h) (Or.inr ⟨by rfl, rfl⟩) rfl ?_
          refine norm_ (a' := ?_) ?_ ?_
          rotate_left
          · simp only [Act.put, List.setIfInBounds_toArray, List.set_cons_zero, List.set_cons_succ, i64_w, i32_w]
            rfl
          refine pure_ (i := 9) (N := some 55) (v := ?_) (a' := ?_) #[true, true, true, true, true, true, true, true, true, true, false, false, false, false, false, false, false, false] rfl rfl (by kernel_rfl) (fun _ _ _ h => h) (Or.inl ⟨by rfl, ?_⟩) ?_ ?_
          rotate_left
          · intro w'
            go_simp
            with_reducible rfl
          rotate_left
          · simp only [Act.put, List.setIfInBounds_toArray, List.set_cons_zero, List.set_cons_succ, i64_w, i32_w]
            rfl
          refine pure_ (i := 10) (N := some 56) (v := ?_) (a' := ?_) #[true, true, true, true, true, true, true, true, true, true, true, false, false, false, false, false, false, false] rfl rfl (by kernel_rfl) (fun _ _ _ h => h) (Or.inl ⟨by rfl, ?_⟩) ?_ ?_
          rotate_left
          · intro w'
            go_simp
            with_reducible rfl
          rotate_left
          · simp only [Act.put, List.setIfInBounds_toArray, List.set_cons_zero, List.set_cons_succ, i64_w, i32_w]
            rfl
          refine pure_ (i := 11) (N := some 57) (v := ?_) (a' := ?_) #[true, true, true, true, true, true, true, true, true, true, true, true, false, false, false, false, false, false] rfl rfl (by kernel_rfl) (fun _ _ _ h => h) (Or.inl ⟨by rfl, ?_⟩) ?_ ?_
          rotate_left
          · intro w'
            go_simp
            with_reducible rfl
          rotate_left
          · simp only [Act.put, List.setIfInBounds_toArray, List.set_cons_zero, List.set_cons_succ, i64_w, i32_w]
            rfl
          refine pure_ (i := 13) (N := some 59) (v := ?_) (a' := ?_) #[true, true, true, true, true, true, true, true, true, true, true, true, false, true, false, false, false, false] rfl rfl (by kernel_rfl) (fun _ _ _ h => h) (Or.inl ⟨by rfl, ?_⟩) ?_ ?_
          rotate_left
          · intro w'
            go_simp
            with_reducible rfl
          rotate_left
          · simp only [Act.put, List.setIfInBounds_toArray, List.set_cons_zero, List.set_cons_succ, i64_w, i32_w]
            rfl
          refine take_ (i := 14) (N := some 60) (v := ?_) (a' := ?_) #[true, true, true, true, true, true, true, true, true, true, true, true, false, true, true, false, false, false] rfl rfl (by kernel_rfl) (fun _ _ _ h => h) (Or.inl ⟨by rfl, ?_⟩) hHeld ?_ ?_
          rotate_left
          · intro w' s0
            have hcv := HV.out w' s0
            go_simp
            with_reducible rfl
          rotate_left
          · simp only [Act.put, List.setIfInBounds_toArray, List.set_cons_zero, List.set_cons_succ, i64_w, i32_w]
            rfl
          refine one_ (i := 12) (N := some 58) #[true, true, true, true, true, true, true, true, true, true, true, true, true, true, true, false, false, false] rfl rfl (by kernel_rfl) (by decide) (fun K hK => ?_)
          refine goes_ Try.func18 (by kernel_rfl) rfl #[.string a0] (by rfl) rfl rfl (by (try simp only [List.map_toArray, List.map_cons, List.map_nil]); first | done | rfl) ?_
          refine (bloom_Full.calls k a0 n1 _ HN1.out).mono ?_
          rintro e w' ⟨rfl, hb⟩
          refine ⟨_, rfl, ?_⟩
          have HR2 := Aside0.mk (HR1.out.below hb.below)
          have HB2 := Aside0.mk (below_step HB1.out hb.below)
          clear hb HR1 HB1 hHeld
          refine hK.out _ _ HR2.out (fun hHeld => ?_)
          clear hK K
          refine norm_ (a' := ?_) ?_ ?_
          rotate_left
          · show Act.put _ (some 58) _ = _
            simp only [Act.put, List.setIfInBounds_toArray, List.set_cons_zero, List.set_cons_succ, i64_w, i32_w]
            rfl
          refine one_ (i := 15) (N := some 61) #[true, true, true, true, true, true, true, true, true, true, true, true, true, true, true, true, false, false] rfl rfl (by kernel_rfl) (by decide) (fun K hK => ?_)
          refine goes_ Try.func18 (by kernel_rfl) rfl #[.string sC] (by rfl) rfl rfl (by (try simp only [List.map_toArray, List.map_cons, List.map_nil]); first | done | rfl) ?_
          refine (bloom_Full.calls k sC n2 _ HN2.out).mono ?_
          rintro e w' ⟨rfl, hb⟩
          refine ⟨_, rfl, ?_⟩
          have HR3 := Aside0.mk (HR2.out.below hb.below)
          have HB3 := Aside0.mk (below_step HB2.out hb.below)
          clear hb HR2 HB2 hHeld
          refine hK.out _ _ HR3.out (fun hHeld => ?_)
          clear hK K
          refine norm_ (a' := ?_) ?_ ?_
          rotate_left
          · show Act.put _ (some 61) _ = _
            simp only [Act.put, List.setIfInBounds_toArray, List.set_cons_zero, List.set_cons_succ, i64_w, i32_w]
            rfl
          refine pure_ (i := 16) (N := some 62) (v := ?_) (a' := ?_) #[true, true, true, true, true, true, true, true, true, true, true, true, true, true, true, true, true, false] rfl rfl (by kernel_rfl) (fun _ _ _ h => h) (Or.inl ⟨by rfl, ?_⟩) ?_ ?_
          rotate_left
          · intro w'
            go_simp
            with_reducible rfl
          rotate_left
          · simp only [Act.put, List.setIfInBounds_toArray, List.set_cons_zero, List.set_cons_succ, i64_w, i32_w]
            rfl
          refine pure_ (i := 17) (N := some 63) (v := ?_) (a' := ?_) #[true, true, true, true, true, true, true, true, true, true, true, true, true, true, true, true, true, true] rfl rfl (by kernel_rfl) (fun _ _ _ h => h) (Or.inl ⟨by rfl, ?_⟩) ?_ ?_
          rotate_left
          · intro w'
            go_simp
            with_reducible rfl
          rotate_left
          · simp only [Act.put, List.setIfInBounds_toArray, List.set_cons_zero, List.set_cons_succ, i64_w, i32_w]
            rfl
          refine done_ (by kernel_rfl) ?_
          (try clear hHeld)
          try clear hHeld
          generalize hw8 : w' = w8 at HR3 HB3 ⊢
          clear hw8 HP HN1 HN2 HQ HSC HV
          have HR8 := HR3
          have HB8 := HB3
          clear HR3 HB3
          have HD : Hid ((List.replicate a0.size (255 : Int)).length = C.length ∧ ∀ i, i < C.length → (List.replicate a0.size (255 : Int))[i]? = some 255) := Lib.hid ⟨by rw [List.length_replicate]; exact HCl.out.symm, fun i hi => by rw [List.getElem?_replicate, if_pos (by have := HCl.out; omega)]⟩
          obtain ⟨D, hD⟩ : ∃ D, List.replicate a0.size (255 : Int) = D := ⟨_, rfl⟩
          rw [hD] at HD HF
          clear hD
          go_wp2
          go_loopg [66] a0.size (fun kq v66 w' => ∃ (i : Nat), v66 = .int .i64 (i : Int) ∧ Aside0 (kq + i = a0.size) ∧ Aside0 (SR.SRow w' gb 5 (screelaw10_BloomMore.part C D i)) ∧ Aside0 (Below w.heap.size w w'))
          case atStart => exact ⟨0, rfl, ⟨by omega⟩, ⟨by simpa [screelaw10_BloomMore.part] using HR8.out⟩, HB8⟩
          case round =>
            clear HR8 HB8
            obtain ⟨i, rfl, HI, HR, HB⟩ := hrel
            by_cases hlt : i < a0.size
            · have hkg : ∃ k1, gk = k1 + 1 := ⟨gk - 1, by have := HI.out; omega⟩
              obtain ⟨k1, rfl⟩ := hkg
              have dl2 : decide ((i : Int) < (a0.size : Int)) = true := decide_eq_true (by omega)
              have hia : i < C.length := by have := HCl.out; omega
              have hpl := screelaw10_BloomMore.part_len C D i HD.out.1
              have hpg := screelaw10_BloomMore.part_get C D i HD.out.1 hia
              have hcell := HR.out.cell i C[i] (hpg.trans (List.getElem?_eq_getElem hia))
              have hfz := HR.out.frozen i (by rw [hpl]; exact hia)
              have hz2 := screelaw10_BloomMore.part_succ C D i HD.out.1 hia _ (HD.out.2 i hia)
              have hR2 := HR.out.set i 255 (by rw [hpl]; exact hia)
              rw [hz2] at hR2
              have HR2 := Aside0.mk hR2
              have HB2 := Aside0.mk (SR.set_below (i := i) (v := .int .u8 255) HB.out hgl.out)
              clear hz2 hR2 hpg
              go_wp2
              go_roundg k1
              case measure => omega
              case rel => exact ⟨i + 1, by go_num, ⟨by have := HI.out; omega⟩, HR2, HB2⟩
            · have hi : i = a0.size := by have := HI.out; omega
              subst hi
              have dl2 : decide (((a0.size : Nat) : Int) < (a0.size : Int)) = false := decide_eq_false (by omega)
              rw [screelaw10_BloomMore.part_all C D a0.size HD.out.1 (by have := HCl.out; omega)] at HR
              have hcv := HR.out.str 36 Try.underlying36 Try.underlying5 cp 9 Try.underlying9
              rw [HD.out.1, HCl.out] at hcv
              go_wp2_with (go_at_call 16; (refine (bloom_May.calls k (strOfNums D) a2 r _ HF.out).mono ?_); rintro e w5 ⟨rfl, hb⟩; have HB5 := Aside0.mk (below_step HB.out hb); clear HB hb)
              go_ret
              exact ⟨rfl, HB5.out⟩

end Go.Proofs.Ythgefbabajpelaa.P
