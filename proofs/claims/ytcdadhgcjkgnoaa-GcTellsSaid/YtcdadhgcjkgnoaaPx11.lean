-- Printed by a program of this session's own (wip/tools/pprint.sh, over the kit's print, with given contracts): not typed by hand.
import Derived.Test.YtcdadhgcjkgnoaaPx0
import Derived.Test.YtcdadhgcjkgnoaaPx8
import Derived.Test.YtcdadhgcjkgnoaaPx9
import Derived.Test.YtcdadhgcjkgnoaaPx10
namespace Go.Proofs.Ytcdadhgcjkgnoaa.P
open Go.RowKit Go.Proofs.YtcdadhgcjkgnoaaW.PrintWords Go.Proofs.YtcdadhgcjkgnoaaW.PrintLast Go.Proofs.YtcdadhgcjkgnoaaW.PrintMore
set_option linter.unusedVariables false
set_option linter.unusedSimpArgs false
-- SQUEEZED3

/-! ### screelaw17_awake: function 10 -/
def screelaw17_awake.f (k : Nat)  : Option (Bool) := (screelaw17_write.f k 9 8 1).bind fun bt242 => ((screelaw17_write.f k 7 7 3).bind fun bt246 => ((screelaw17_write.f k 5 4 1).bind fun bt250 => ((screelaw17_write.f k 3 2 2).bind fun bt254 => ((screelaw17_data.f k 8 (⟨#[120]⟩ : ByteArray)).bind fun bt258 => ((screelaw17_data.f k 4 (⟨#[121]⟩ : ByteArray)).bind fun bt262 => ((screelaw17_data.f k 2 (⟨#[122]⟩ : ByteArray)).bind fun bt266 => ((some (([(⟨bt242.1, bt242.2.1, bt242.2.2.1, bt242.2.2.2⟩ : S47), (⟨bt246.1, bt246.2.1, bt246.2.2.1, bt246.2.2.2⟩ : S47), (⟨bt250.1, bt250.2.1, bt250.2.2.1, bt250.2.2.2⟩ : S47), (⟨bt254.1, bt254.2.1, bt254.2.2.1, bt254.2.2.2⟩ : S47), (⟨bt258.1, bt258.2.1, bt258.2.2.1, bt258.2.2.2⟩ : S47), (⟨bt262.1, bt262.2.1, bt262.2.2.1, bt262.2.2.2⟩ : S47), (⟨bt266.1, bt266.2.1, bt266.2.2.1, bt266.2.2.2⟩ : S47)] : List (S47)) : List (S47))).bind fun y270 => ((gc_Garbage.f k y270 8).bind fun bt273 => ((gc_Left.f k y270 4).bind fun bt277 => ((gc_Visible.f k y270 (⟨#[97]⟩ : ByteArray) 8).bind fun bt281 => ((gc_Visible.f k y270 (⟨#[97]⟩ : ByteArray) 4).bind fun bt283 => ((gc_Counts.f k y270).bind fun bt285 => (if 1 < (y270.length : Int) then (if 0 < (y270.length : Int) then ((gc_Garbage.f k (([(⟨(rd_T47 y270 1).f0, (rd_T47 y270 1).f1, (rd_T47 y270 1).f2, (rd_T47 y270 1).f3⟩ : S47), (⟨(rd_T47 y270 0).f0, (rd_T47 y270 0).f1, (rd_T47 y270 0).f2, (rd_T47 y270 0).f3⟩ : S47)] : List (S47))) 8).bind fun bt293 => (if (bt273.1.length : Int) = 3 then (if 0 < (bt273.1.length : Int) then (if (rdOf ByteArray.empty bt273.1 0).toList = ((rd_T47 y270 1).f0).toList then (if 1 < (bt273.1.length : Int) then (if 3 < (y270.length : Int) then (if (rdOf ByteArray.empty bt273.1 1).toList = ((rd_T47 y270 3).f0).toList then (if 2 < (bt273.1.length : Int) then (if 6 < (y270.length : Int) then (if (rdOf ByteArray.empty bt273.1 2).toList = ((rd_T47 y270 6).f0).toList then (if bt273.2 = 0 then (if (bt277.1.length : Int) = 5 then (if bt277.2 = 0 then (if bt281.1.toList = ([121] : List UInt8) then (if bt281.2 = true then (if bt283.2 = true then (none) else (if bt285.1 = 0 then (if bt285.2.1 = 4 then (if bt285.2.2 = 3 then (some (bt293.2 == 2)) else (none)) else (none)) else (none))) else (none)) else (none)) else (none)) else (none)) else (none)) else (none)) else (none)) else (none)) else (none)) else (none)) else (none)) else (none)) else (none)) else (none))) else (none)) else (none))))))))))))))
theorem screelaw17_awake.mono : ∀ k, LeO (screelaw17_awake.f k ) (screelaw17_awake.f (k + 1) ) := by
 intro  k
 unfold screelaw17_awake.f
 repeat' first
   | (with_reducible exact LeO.refl _)
   | (with_reducible exact LeO.none _)
   | (with_reducible refine LeO.ite ?_ ?_)
   | (with_reducible refine LeO.bind ?_ (fun _ => ?_))
   | exact gc_Counts.mono _ _
   | exact gc_Garbage.mono _ _ _
   | exact gc_Left.mono _ _ _
   | exact gc_Visible.mono _ _ _ _
   | exact screelaw17_data.mono _ _ _
   | exact screelaw17_write.mono _ _ _ _
   | exact LeO.none _
   | refine LeO.ite ?_ ?_
   | refine LeO.bind ?_ (fun _ => ?_)
def screelaw17_awake.T7 : Bool × List (List Nat × List Nat) := (true, [([], []), ([0], [0]), ([1], [1]), ([], []), ([3], [3]), ([4], [4]), ([2, 5], [2, 5]), ([6], [6]), ([7], [7]), ([8], [8]), ([8], [8]), ([9, 7, 0, 1, 2, 3, 4, 5, 6, 7, 8, 9], [9]), ([10, 11, 0, 1, 2, 3, 4, 5, 6, 7, 8, 9, 10, 11], [10])])
def screelaw17_awake.B7 : List Nat := [0, 1, 3, 0, 8, 24, 63, 127, 255, 511, 511, 1023, 4095]
theorem screelaw17_awake.tab7 : rtab .any (opsOf Try.f10 7) = screelaw17_awake.T7 := by kernel_rfl
theorem screelaw17_awake.bits7 : waitsOk screelaw17_awake.T7.2 screelaw17_awake.B7 = true := by kernel_rfl
def screelaw17_awake.T8 : Bool × List (List Nat × List Nat) := (true, [([], []), ([0], [0]), ([1], [1]), ([2], [2]), ([3], [3]), ([4, 3], [3, 4]), ([5, 3], [3, 5]), ([3], [3]), ([7, 3], [3, 7]), ([8, 3], [3, 8]), ([9, 3], [3, 9]), ([6, 10, 3], [3, 6, 10]), ([3, 11], [3, 11]), ([12, 3], [12]), ([13], [13]), ([14, 13], [13, 14]), ([15, 13], [13, 15]), ([13], [13]), ([17, 13], [13, 17]), ([18, 13], [13, 18]), ([19, 13], [13, 19]), ([16, 20, 13], [13, 16, 20]), ([13, 21], [13, 21]), ([22, 13], [22]), ([23], [23]), ([24, 23], [23, 24]), ([25, 23], [23, 25]), ([23], [23]), ([27, 23], [23, 27]), ([28, 23], [23, 28]), ([29, 23], [23, 29]), ([26, 30, 23], [23, 26, 30]), ([23, 31], [23, 31]), ([32, 23], [32]), ([33], [33]), ([34, 33], [33, 34]), ([33, 35], [33, 35]), ([36, 33], [36]), ([37], [37]), ([38, 37], [37, 38]), ([39, 37], [37, 39]), ([37, 40], [37, 40]), ([41, 37], [41]), ([42], [42]), ([43, 42], [42, 43]), ([42, 44], [42, 44]), ([45, 42], [45]), ([46], [46]), ([47, 46], [46, 47]), ([46, 48], [46, 48]), ([49, 46], [49]), ([50], [50]), ([50, 51], [50, 51]), ([52, 50], [52]), ([53], [53]), ([54, 53], [53, 54]), ([53, 55], [53, 55]), ([56, 53], [56]), ([57], [57]), ([58, 57], [57, 58]), ([57, 59], [57, 59]), ([60, 57], [60]), ([61], [61]), ([62, 61], [61, 62]), ([61, 63], [61, 63]), ([64, 61], [64]), ([65], [65]), ([66, 65], [65, 66]), ([65, 67], [65, 67]), ([68, 65], [68]), ([69], [69]), ([70, 69], [69, 70]), ([69, 71], [69, 71]), ([72, 69, 0, 1, 2, 3, 4, 5, 6, 7, 8, 9, 10, 11, 12, 13, 14, 15, 16, 17, 18, 19, 20, 21, 22, 23, 24, 25, 26, 27, 28, 29, 30, 31, 32, 33, 34, 35, 36, 37, 38, 39, 40, 41, 42, 43, 44, 45, 46, 47, 48, 49, 50, 51, 52, 53, 54, 55, 56, 57, 58, 59, 60, 61, 62, 63, 64, 65, 66, 67, 68, 69, 70, 71, 72], [72])])
def screelaw17_awake.B8 : List Nat := [0, 1, 3, 7, 15, 31, 63, 15, 143, 399, 911, 2047, 4095, 8191, 16383, 32767, 65535, 16383, 147455, 409599, 933887, 2097151, 4194303, 8388607, 16777215, 33554431, 67108863, 16777215, 150994943, 419430399, 956301311, 2147483647, 4294967295, 8589934591, 17179869183, 34359738367, 68719476735, 137438953471, 274877906943, 549755813887, 1099511627775, 2199023255551, 4398046511103, 8796093022207, 17592186044415, 35184372088831, 70368744177663, 140737488355327, 281474976710655, 562949953421311, 1125899906842623, 2251799813685247, 4503599627370495, 9007199254740991, 18014398509481983, 36028797018963967, 72057594037927935, 144115188075855871, 288230376151711743, 576460752303423487, 1152921504606846975, 2305843009213693951, 4611686018427387903, 9223372036854775807, 18446744073709551615, 36893488147419103231, 73786976294838206463, 147573952589676412927, 295147905179352825855, 590295810358705651711, 1180591620717411303423, 2361183241434822606847, 4722366482869645213695, 9444732965739290427391]
theorem screelaw17_awake.tab8 : rtab .any (opsOf Try.f10 8) = screelaw17_awake.T8 := by kernel_rfl
theorem screelaw17_awake.bits8 : waitsOk screelaw17_awake.T8.2 screelaw17_awake.B8 = true := by kernel_rfl
set_option maxHeartbeats 8000000 in
set_option maxRecDepth 100000 in
theorem screelaw17_awake.calls (k : Nat)  (r : Bool) (w : World) (h : screelaw17_awake.f k  = some r) :
  Calls Try.prog 10 #[] w fun e w' => e = .returned (.bool r) ∧ Below w.heap.size w w' := by
 have hu47 := Try.underlying47
 have HB := Aside0.mk (Below.refl w.heap.size w)
 have H : ((screelaw17_write.f k 9 8 1).bind fun bt242 => ((screelaw17_write.f k 7 7 3).bind fun bt246 => ((screelaw17_write.f k 5 4 1).bind fun bt250 => ((screelaw17_write.f k 3 2 2).bind fun bt254 => ((screelaw17_data.f k 8 (⟨#[120]⟩ : ByteArray)).bind fun bt258 => ((screelaw17_data.f k 4 (⟨#[121]⟩ : ByteArray)).bind fun bt262 => ((screelaw17_data.f k 2 (⟨#[122]⟩ : ByteArray)).bind fun bt266 => ((some (([(⟨bt242.1, bt242.2.1, bt242.2.2.1, bt242.2.2.2⟩ : S47), (⟨bt246.1, bt246.2.1, bt246.2.2.1, bt246.2.2.2⟩ : S47), (⟨bt250.1, bt250.2.1, bt250.2.2.1, bt250.2.2.2⟩ : S47), (⟨bt254.1, bt254.2.1, bt254.2.2.1, bt254.2.2.2⟩ : S47), (⟨bt258.1, bt258.2.1, bt258.2.2.1, bt258.2.2.2⟩ : S47), (⟨bt262.1, bt262.2.1, bt262.2.2.1, bt262.2.2.2⟩ : S47), (⟨bt266.1, bt266.2.1, bt266.2.2.1, bt266.2.2.2⟩ : S47)] : List (S47)) : List (S47))).bind fun y270 => ((gc_Garbage.f k y270 8).bind fun bt273 => ((gc_Left.f k y270 4).bind fun bt277 => ((gc_Visible.f k y270 (⟨#[97]⟩ : ByteArray) 8).bind fun bt281 => ((gc_Visible.f k y270 (⟨#[97]⟩ : ByteArray) 4).bind fun bt283 => ((gc_Counts.f k y270).bind fun bt285 => (if 1 < (y270.length : Int) then (if 0 < (y270.length : Int) then ((gc_Garbage.f k (([(⟨(rd_T47 y270 1).f0, (rd_T47 y270 1).f1, (rd_T47 y270 1).f2, (rd_T47 y270 1).f3⟩ : S47), (⟨(rd_T47 y270 0).f0, (rd_T47 y270 0).f1, (rd_T47 y270 0).f2, (rd_T47 y270 0).f3⟩ : S47)] : List (S47))) 8).bind fun bt293 => (if (bt273.1.length : Int) = 3 then (if 0 < (bt273.1.length : Int) then (if (rdOf ByteArray.empty bt273.1 0).toList = ((rd_T47 y270 1).f0).toList then (if 1 < (bt273.1.length : Int) then (if 3 < (y270.length : Int) then (if (rdOf ByteArray.empty bt273.1 1).toList = ((rd_T47 y270 3).f0).toList then (if 2 < (bt273.1.length : Int) then (if 6 < (y270.length : Int) then (if (rdOf ByteArray.empty bt273.1 2).toList = ((rd_T47 y270 6).f0).toList then (if bt273.2 = 0 then (if (bt277.1.length : Int) = 5 then (if bt277.2 = 0 then (if bt281.1.toList = ([121] : List UInt8) then (if bt281.2 = true then (if bt283.2 = true then (none) else (if bt285.1 = 0 then (if bt285.2.1 = 4 then (if bt285.2.2 = 3 then (some (bt293.2 == 2)) else (none)) else (none)) else (none))) else (none)) else (none)) else (none)) else (none)) else (none)) else (none)) else (none)) else (none)) else (none)) else (none)) else (none)) else (none)) else (none)) else (none))) else (none)) else (none))))))))))))))) = some r := h
 clear h
 replace H := Option.bind_eq_some_iff.mp H
 obtain ⟨⟨t242, t243, t244, t245⟩, A10, H⟩ := H
 try dsimp only at H
 have A1 := Aside0.mk A10
 clear A10
 replace H := Option.bind_eq_some_iff.mp H
 obtain ⟨⟨t246, t247, t248, t249⟩, A20, H⟩ := H
 try dsimp only at H
 have A2 := Aside0.mk A20
 clear A20
 replace H := Option.bind_eq_some_iff.mp H
 obtain ⟨⟨t250, t251, t252, t253⟩, A30, H⟩ := H
 try dsimp only at H
 have A3 := Aside0.mk A30
 clear A30
 replace H := Option.bind_eq_some_iff.mp H
 obtain ⟨⟨t254, t255, t256, t257⟩, A40, H⟩ := H
 try dsimp only at H
 have A4 := Aside0.mk A40
 clear A40
 replace H := Option.bind_eq_some_iff.mp H
 obtain ⟨⟨t258, t259, t260, t261⟩, A50, H⟩ := H
 try dsimp only at H
 have A5 := Aside0.mk A50
 clear A50
 replace H := Option.bind_eq_some_iff.mp H
 obtain ⟨⟨t262, t263, t264, t265⟩, A60, H⟩ := H
 try dsimp only at H
 have A6 := Aside0.mk A60
 clear A60
 replace H := Option.bind_eq_some_iff.mp H
 obtain ⟨⟨t266, t267, t268, t269⟩, A70, H⟩ := H
 try dsimp only at H
 have A7 := Aside0.mk A70
 clear A70
 obtain ⟨y270, hy270⟩ : ∃ y_ : List (S47), y_ = (([(⟨t242, t243, t244, t245⟩ : S47), (⟨t246, t247, t248, t249⟩ : S47), (⟨t250, t251, t252, t253⟩ : S47), (⟨t254, t255, t256, t257⟩ : S47), (⟨t258, t259, t260, t261⟩ : S47), (⟨t262, t263, t264, t265⟩ : S47), (⟨t266, t267, t268, t269⟩ : S47)] : List (S47))) := ⟨_, rfl⟩
 replace H : ((gc_Garbage.f k y270 8).bind fun bt273 => ((gc_Left.f k y270 4).bind fun bt277 => ((gc_Visible.f k y270 (⟨#[97]⟩ : ByteArray) 8).bind fun bt281 => ((gc_Visible.f k y270 (⟨#[97]⟩ : ByteArray) 4).bind fun bt283 => ((gc_Counts.f k y270).bind fun bt285 => (if 1 < (y270.length : Int) then (if 0 < (y270.length : Int) then ((gc_Garbage.f k (([(⟨(rd_T47 y270 1).f0, (rd_T47 y270 1).f1, (rd_T47 y270 1).f2, (rd_T47 y270 1).f3⟩ : S47), (⟨(rd_T47 y270 0).f0, (rd_T47 y270 0).f1, (rd_T47 y270 0).f2, (rd_T47 y270 0).f3⟩ : S47)] : List (S47))) 8).bind fun bt293 => (if (bt273.1.length : Int) = 3 then (if 0 < (bt273.1.length : Int) then (if (rdOf ByteArray.empty bt273.1 0).toList = ((rd_T47 y270 1).f0).toList then (if 1 < (bt273.1.length : Int) then (if 3 < (y270.length : Int) then (if (rdOf ByteArray.empty bt273.1 1).toList = ((rd_T47 y270 3).f0).toList then (if 2 < (bt273.1.length : Int) then (if 6 < (y270.length : Int) then (if (rdOf ByteArray.empty bt273.1 2).toList = ((rd_T47 y270 6).f0).toList then (if bt273.2 = 0 then (if (bt277.1.length : Int) = 5 then (if bt277.2 = 0 then (if bt281.1.toList = ([121] : List UInt8) then (if bt281.2 = true then (if bt283.2 = true then (none) else (if bt285.1 = 0 then (if bt285.2.1 = 4 then (if bt285.2.2 = 3 then (some (bt293.2 == 2)) else (none)) else (none)) else (none))) else (none)) else (none)) else (none)) else (none)) else (none)) else (none)) else (none)) else (none)) else (none)) else (none)) else (none)) else (none)) else (none)) else (none))) else (none)) else (none))))))) = some r := by first | (rw [hy270]; with_reducible exact H) | (have H2_ := (Option.bind_some _ _).symm.trans H; rw [hy270]; with_reducible exact H2_) | (have H2_ := (Option.bind_some _ _).symm.trans H; with_reducible exact H2_) | with_reducible exact H | (rw [hy270]; exact H) | exact H
 have Ny270 := Aside0.mk hy270
 clear hy270
 replace H := Option.bind_eq_some_iff.mp H
 obtain ⟨⟨t273, t274⟩, A80, H⟩ := H
 try dsimp only at H
 have A8 := Aside0.mk A80
 clear A80
 replace H := Option.bind_eq_some_iff.mp H
 obtain ⟨⟨t277, t278⟩, A90, H⟩ := H
 try dsimp only at H
 have A9 := Aside0.mk A90
 clear A90
 replace H := Option.bind_eq_some_iff.mp H
 obtain ⟨⟨t281, t282⟩, A100, H⟩ := H
 try dsimp only at H
 have A10 := Aside0.mk A100
 clear A100
 replace H := Option.bind_eq_some_iff.mp H
 obtain ⟨⟨t283, t284⟩, A110, H⟩ := H
 try dsimp only at H
 have A11 := Aside0.mk A110
 clear A110
 replace H := Option.bind_eq_some_iff.mp H
 obtain ⟨⟨t285, t286, t287⟩, A120, H⟩ := H
 try dsimp only at H
 have A12 := Aside0.mk A120
 clear A120
 by_cases c13 : 1 < (y270.length : Int)
 rotate_left
 ·rw [if_neg c13] at H
  exact absurd H r34_
 rw [if_pos c13] at H
 have c13b0 := decide_eq_true c13
 have c13b1 : decide (1 < y270.length) = true := decide_eq_true r37_
 clear c13
 by_cases c14 : 0 < (y270.length : Int)
 rotate_left
 ·rw [if_neg c14] at H
  exact absurd H r34_
 rw [if_pos c14] at H
 have c14b0 := decide_eq_true c14
 have c14b1 : decide (0 < y270.length) = true := decide_eq_true r37_
 clear c14
 obtain ⟨y290, hy290⟩ : ∃ y_ : List (S47), y_ = (([(⟨(rd_T47 y270 1).f0, (rd_T47 y270 1).f1, (rd_T47 y270 1).f2, (rd_T47 y270 1).f3⟩ : S47), (⟨(rd_T47 y270 0).f0, (rd_T47 y270 0).f1, (rd_T47 y270 0).f2, (rd_T47 y270 0).f3⟩ : S47)] : List (S47))) := ⟨_, rfl⟩
 replace H : ((gc_Garbage.f k y290 8).bind fun bt293 => (if (t273.length : Int) = 3 then (if 0 < (t273.length : Int) then (if (rdOf ByteArray.empty t273 0).toList = ((rd_T47 y270 1).f0).toList then (if 1 < (t273.length : Int) then (if 3 < (y270.length : Int) then (if (rdOf ByteArray.empty t273 1).toList = ((rd_T47 y270 3).f0).toList then (if 2 < (t273.length : Int) then (if 6 < (y270.length : Int) then (if (rdOf ByteArray.empty t273 2).toList = ((rd_T47 y270 6).f0).toList then (if t274 = 0 then (if (t277.length : Int) = 5 then (if t278 = 0 then (if t281.toList = ([121] : List UInt8) then (if t282 = true then (if t284 = true then (none) else (if t285 = 0 then (if t286 = 4 then (if t287 = 3 then (some (bt293.2 == 2)) else (none)) else (none)) else (none))) else (none)) else (none)) else (none)) else (none)) else (none)) else (none)) else (none)) else (none)) else (none)) else (none)) else (none)) else (none)) else (none)) else (none))) = some r := by first | (rw [hy290]; with_reducible exact H) | (have H2_ := (Option.bind_some _ _).symm.trans H; rw [hy290]; with_reducible exact H2_) | (have H2_ := (Option.bind_some _ _).symm.trans H; with_reducible exact H2_) | with_reducible exact H | (rw [hy290]; exact H) | exact H
 have Ny290 := Aside0.mk hy290
 clear hy290
 replace H := Option.bind_eq_some_iff.mp H
 obtain ⟨⟨t293, t294⟩, A150, H⟩ := H
 try dsimp only at H
 have A15 := Aside0.mk A150
 clear A150
 by_cases c16 : (t273.length : Int) = 3
 rotate_left
 ·rw [if_neg c16] at H
  have c16b0 := beq_eq_false_iff_ne.mpr c16
  have c16b1 := bne_iff_ne.mpr c16
  exact absurd H r34_
 rw [if_pos c16] at H
 have c16b0 := beq_iff_eq.mpr c16
 have c16b1 := bne_eq_false_iff_eq.mpr c16
 clear c16
 by_cases c17 : 0 < (t273.length : Int)
 rotate_left
 ·rw [if_neg c17] at H
  exact absurd H r34_
 rw [if_pos c17] at H
 have c17b0 := decide_eq_true c17
 have c17b1 : decide (0 < t273.length) = true := decide_eq_true r37_
 clear c17
 by_cases c18 : (rdOf ByteArray.empty t273 0).toList = ((rd_T47 y270 1).f0).toList
 rotate_left
 ·rw [if_neg c18] at H
  have c18b0 := beq_eq_false_iff_ne.mpr c18
  have c18b1 := bne_iff_ne.mpr c18
  exact absurd H r34_
 rw [if_pos c18] at H
 have c18b0 := beq_iff_eq.mpr c18
 have c18b1 := bne_eq_false_iff_eq.mpr c18
 clear c18
 by_cases c19 : 1 < (t273.length : Int)
 rotate_left
 ·rw [if_neg c19] at H
  exact absurd H r34_
 rw [if_pos c19] at H
 have c19b0 := decide_eq_true c19
 have c19b1 : decide (1 < t273.length) = true := decide_eq_true r37_
 clear c19
 by_cases c20 : 3 < (y270.length : Int)
 rotate_left
 ·rw [if_neg c20] at H
  exact absurd H r34_
 rw [if_pos c20] at H
 have c20b0 := decide_eq_true c20
 have c20b1 : decide (3 < y270.length) = true := decide_eq_true r37_
 clear c20
 by_cases c21 : (rdOf ByteArray.empty t273 1).toList = ((rd_T47 y270 3).f0).toList
 rotate_left
 ·rw [if_neg c21] at H
  have c21b0 := beq_eq_false_iff_ne.mpr c21
  have c21b1 := bne_iff_ne.mpr c21
  exact absurd H r34_
 rw [if_pos c21] at H
 have c21b0 := beq_iff_eq.mpr c21
 have c21b1 := bne_eq_false_iff_eq.mpr c21
 clear c21
 by_cases c22 : 2 < (t273.length : Int)
 rotate_left
 ·rw [if_neg c22] at H
  exact absurd H r34_
 rw [if_pos c22] at H
 have c22b0 := decide_eq_true c22
 have c22b1 : decide (2 < t273.length) = true := decide_eq_true r37_
 clear c22
 by_cases c23 : 6 < (y270.length : Int)
 rotate_left
 ·rw [if_neg c23] at H
  exact absurd H r34_
 rw [if_pos c23] at H
 have c23b0 := decide_eq_true c23
 have c23b1 : decide (6 < y270.length) = true := decide_eq_true r37_
 clear c23
 by_cases c24 : (rdOf ByteArray.empty t273 2).toList = ((rd_T47 y270 6).f0).toList
 rotate_left
 ·rw [if_neg c24] at H
  have c24b0 := beq_eq_false_iff_ne.mpr c24
  have c24b1 := bne_iff_ne.mpr c24
  exact absurd H r34_
 rw [if_pos c24] at H
 have c24b0 := beq_iff_eq.mpr c24
 have c24b1 := bne_eq_false_iff_eq.mpr c24
 clear c24
 by_cases c25 : t274 = 0
 rotate_left
 ·rw [if_neg c25] at H
  have c25b0 := beq_eq_false_iff_ne.mpr c25
  have c25b1 := bne_iff_ne.mpr c25
  exact absurd H r34_
 rw [if_pos c25] at H
 have c25b0 := beq_iff_eq.mpr c25
 have c25b1 := bne_eq_false_iff_eq.mpr c25
 clear c25
 by_cases c26 : (t277.length : Int) = 5
 rotate_left
 ·rw [if_neg c26] at H
  have c26b0 := beq_eq_false_iff_ne.mpr c26
  have c26b1 := bne_iff_ne.mpr c26
  exact absurd H r34_
 rw [if_pos c26] at H
 have c26b0 := beq_iff_eq.mpr c26
 have c26b1 := bne_eq_false_iff_eq.mpr c26
 clear c26
 by_cases c27 : t278 = 0
 rotate_left
 ·rw [if_neg c27] at H
  have c27b0 := beq_eq_false_iff_ne.mpr c27
  have c27b1 := bne_iff_ne.mpr c27
  exact absurd H r34_
 rw [if_pos c27] at H
 have c27b0 := beq_iff_eq.mpr c27
 have c27b1 := bne_eq_false_iff_eq.mpr c27
 clear c27
 by_cases c28 : t281.toList = ([121] : List UInt8)
 rotate_left
 ·rw [if_neg c28] at H
  have c28b0 := beq_eq_false_iff_ne.mpr c28
  have c28b1 := bne_iff_ne.mpr c28
  exact absurd H r34_
 rw [if_pos c28] at H
 have c28b0 := beq_iff_eq.mpr c28
 have c28b1 := bne_eq_false_iff_eq.mpr c28
 clear c28
 by_cases c29 : t282 = true
 rotate_left
 ·replace c29 := Bool.eq_false_iff.mpr c29
  subst c29
  rw [if_neg ff_] at H
  exact absurd H r34_
 subst c29
 rw [if_pos rfl] at H
 by_cases c30 : t284 = true
 ·subst c30
  rw [if_pos rfl] at H
  exact absurd H r34_
 replace c30 := Bool.eq_false_iff.mpr c30
 subst c30
 rw [if_neg ff_] at H
 by_cases c31 : t285 = 0
 rotate_left
 ·rw [if_neg c31] at H
  have c31b0 := beq_eq_false_iff_ne.mpr c31
  have c31b1 := bne_iff_ne.mpr c31
  exact absurd H r34_
 rw [if_pos c31] at H
 have c31b0 := beq_iff_eq.mpr c31
 have c31b1 := bne_eq_false_iff_eq.mpr c31
 clear c31
 by_cases c32 : t286 = 4
 rotate_left
 ·rw [if_neg c32] at H
  have c32b0 := beq_eq_false_iff_ne.mpr c32
  have c32b1 := bne_iff_ne.mpr c32
  exact absurd H r34_
 rw [if_pos c32] at H
 have c32b0 := beq_iff_eq.mpr c32
 have c32b1 := bne_eq_false_iff_eq.mpr c32
 clear c32
 by_cases c33 : t287 = 3
 rotate_left
 ·rw [if_neg c33] at H
  have c33b0 := beq_eq_false_iff_ne.mpr c33
  have c33b1 := bne_iff_ne.mpr c33
  exact absurd H r34_
 rw [if_pos c33] at H
 have c33b0 := beq_iff_eq.mpr c33
 have c33b1 := bne_eq_false_iff_eq.mpr c33
 clear c33
 obtain rfl := Option.some.inj H
 go_enter Try.func10, Try.ntmps10
 try go_wp2_with (first | ((with_reducible refine gate_callee (f := 23) rfl ?_); refine goesL_ (some 15) rfl rfl Try.func23 r6_ rfl #[.int .u64 9, .int .u64 8, .int .i64 1] rfl hA_ ?_; (with_reducible refine (screelaw17_write.calls k 9 8 1 t242 t243 t244 t245 _ A1.out).mono ?_); rintro e w34 ⟨rfl, hb⟩; refine ⟨_, rfl, ?_⟩; replace HB := Aside0.mk (below_step hB_ hb); clear hb A1) | ((with_reducible refine gate_callee (f := 23) rfl ?_); refine goesL_ (some 16) rfl rfl Try.func23 r6_ rfl #[.int .u64 7, .int .u64 7, .int .i64 3] rfl hA_ ?_; (with_reducible refine (screelaw17_write.calls k 7 7 3 t246 t247 t248 t249 _ A2.out).mono ?_); rintro e w35 ⟨rfl, hb⟩; refine ⟨_, rfl, ?_⟩; replace HB := Aside0.mk (below_step hB_ hb); clear hb A2) | ((with_reducible refine gate_callee (f := 23) rfl ?_); refine goesL_ (some 17) rfl rfl Try.func23 r6_ rfl #[.int .u64 5, .int .u64 4, .int .i64 1] rfl hA_ ?_; (with_reducible refine (screelaw17_write.calls k 5 4 1 t250 t251 t252 t253 _ A3.out).mono ?_); rintro e w36 ⟨rfl, hb⟩; refine ⟨_, rfl, ?_⟩; replace HB := Aside0.mk (below_step hB_ hb); clear hb A3) | ((with_reducible refine gate_callee (f := 23) rfl ?_); refine goesL_ (some 18) rfl rfl Try.func23 r6_ rfl #[.int .u64 3, .int .u64 2, .int .i64 2] rfl hA_ ?_; (with_reducible refine (screelaw17_write.calls k 3 2 2 t254 t255 t256 t257 _ A4.out).mono ?_); rintro e w37 ⟨rfl, hb⟩; refine ⟨_, rfl, ?_⟩; replace HB := Aside0.mk (below_step hB_ hb); clear hb A4) | ((with_reducible refine gate_callee (f := 24) rfl ?_); refine goesL_ (some 19) rfl rfl Try.func24 r6_ rfl #[.int .u64 8, .string (⟨#[120]⟩ : ByteArray)] rfl hA_ ?_; (with_reducible refine (screelaw17_data.calls k 8 (⟨#[120]⟩ : ByteArray) t258 t259 t260 t261 _ A5.out).mono ?_); rintro e w38 ⟨rfl, hb⟩; refine ⟨_, rfl, ?_⟩; replace HB := Aside0.mk (below_step hB_ hb); clear hb A5) | ((with_reducible refine gate_callee (f := 24) rfl ?_); refine goesL_ (some 20) rfl rfl Try.func24 r6_ rfl #[.int .u64 4, .string (⟨#[121]⟩ : ByteArray)] rfl hA_ ?_; (with_reducible refine (screelaw17_data.calls k 4 (⟨#[121]⟩ : ByteArray) t262 t263 t264 t265 _ A6.out).mono ?_); rintro e w39 ⟨rfl, hb⟩; refine ⟨_, rfl, ?_⟩; replace HB := Aside0.mk (below_step hB_ hb); clear hb A6) | ((with_reducible refine gate_callee (f := 24) rfl ?_); refine goesL_ (some 21) rfl rfl Try.func24 r6_ rfl #[.int .u64 2, .string (⟨#[122]⟩ : ByteArray)] rfl hA_ ?_; (with_reducible refine (screelaw17_data.calls k 2 (⟨#[122]⟩ : ByteArray) t266 t267 t268 t269 _ A7.out).mono ?_); rintro e w40 ⟨rfl, hb⟩; refine ⟨_, rfl, ?_⟩; replace HB := Aside0.mk (below_step hB_ hb); clear hb A7) | ((with_reducible refine gate_dst (N := 22) rfl ?_); (try (refine gate_guard (by rfl) ?_; dsimp only)); refine Kd.R_lit k47 _ 47 ?hg (N := 22) ?hd (xs := ([(⟨t242, t243, t244, t245⟩ : S47), (⟨t246, t247, t248, t249⟩ : S47), (⟨t250, t251, t252, t253⟩ : S47), (⟨t254, t255, t256, t257⟩ : S47), (⟨t258, t259, t260, t261⟩ : S47), (⟨t262, t263, t264, t265⟩ : S47), (⟨t266, t267, t268, t269⟩ : S47)] : List (S47))) (inner := [.string t242, .int .u64 t243, .bool t244, .string t245, .string t246, .int .u64 t247, .bool t248, .string t249, .string t250, .int .u64 t251, .bool t252, .string t253, .string t254, .int .u64 t255, .bool t256, .string t257, .string t258, .int .u64 t259, .bool t260, .string t261, .string t262, .int .u64 t263, .bool t264, .string t265, .string t266, .int .u64 t267, .bool t268, .string t269]) (ok := fun _ => True) (okp := fun _ => True) ?hr ?hp (fun _ hk => hk) trivial (Below.refl _ _) (Nat.le_refl _) r34_ ?_; (case hd => rfl); (case hg => rfl); (case hr => first | (go_simp; done) | (go_simp; rfl)); (case hp => exact (Reps.c4 (show Kd.M k47 _ _ _ (⟨t242, t243, t244, t245⟩ : S47) [.string t242, .int .u64 t243, .bool t244, .string t245] from (k47_mkM _ _ _ (⟨t242, t243, t244, t245⟩ : S47) )) (Reps.c4 (show Kd.M k47 _ _ _ (⟨t246, t247, t248, t249⟩ : S47) [.string t246, .int .u64 t247, .bool t248, .string t249] from (k47_mkM _ _ _ (⟨t246, t247, t248, t249⟩ : S47) )) (Reps.c4 (show Kd.M k47 _ _ _ (⟨t250, t251, t252, t253⟩ : S47) [.string t250, .int .u64 t251, .bool t252, .string t253] from (k47_mkM _ _ _ (⟨t250, t251, t252, t253⟩ : S47) )) (Reps.c4 (show Kd.M k47 _ _ _ (⟨t254, t255, t256, t257⟩ : S47) [.string t254, .int .u64 t255, .bool t256, .string t257] from (k47_mkM _ _ _ (⟨t254, t255, t256, t257⟩ : S47) )) (Reps.c4 (show Kd.M k47 _ _ _ (⟨t258, t259, t260, t261⟩ : S47) [.string t258, .int .u64 t259, .bool t260, .string t261] from (k47_mkM _ _ _ (⟨t258, t259, t260, t261⟩ : S47) )) (Reps.c4 (show Kd.M k47 _ _ _ (⟨t262, t263, t264, t265⟩ : S47) [.string t262, .int .u64 t263, .bool t264, .string t265] from (k47_mkM _ _ _ (⟨t262, t263, t264, t265⟩ : S47) )) (Reps.c4 (show Kd.M k47 _ _ _ (⟨t266, t267, t268, t269⟩ : S47) [.string t266, .int .u64 t267, .bool t268, .string t269] from (k47_mkM _ _ _ (⟨t266, t267, t268, t269⟩ : S47) )) (Reps.none _ _))))))))); intro v271 w41 ho42 hb hg_ hnew_; clear hg_ hnew_; (first | rw [← Ny270.out] at ho42 | (simp only [Int.reduceToNat] at ho42; rw [← Ny270.out] at ho42)); have HO272 := Aside0.mk (Kd.R_lower ho42 (below_size hB_)); replace HB := Aside0.mk (below_step hB_ hb); clear hb ho42; obtain ⟨Ao43, co43, eo43⟩ := Kd.R_slice HO272.out; subst eo43) | ((with_reducible refine gate_callee (f := 12) rfl ?_); refine goesL_ (some 25) rfl rfl Try.func12 r6_ rfl #[.slice Ao43 y270.length co43, .int .u64 8] rfl hA_ ?_; (with_reducible refine (gc_Garbage.calls k _ _ y270 8 t273 t274 _ ?side1 ?side2 A8.out).mono ?_); (case side1 => repeat (first | exact (Kd.R_reads' HO272.out).2.2 | (with_reducible refine Kd.C_alloc ?_ _) | (with_reducible refine Kd.C_drewN ?_ _) | (with_reducible refine Kd.C_drew ?_))); (case side2 => exact (Kd.R_reads' HO272.out).2.1); rintro e w44 ⟨v275, rfl, ho0, hb⟩; refine ⟨_, rfl, ?_⟩; replace HO272 := Aside0.mk (Kd.R_below r38_ hb); have HO276 := Aside0.mk (Kd.R_lower ho0 (below_size hB_)); replace HB := Aside0.mk (below_step hB_ hb); clear hb ho0 A8) | ((with_reducible refine gate_callee (f := 14) rfl ?_); refine goesL_ (some 30) rfl rfl Try.func14 r6_ rfl #[.slice Ao43 y270.length co43, .int .u64 4] rfl hA_ ?_; (with_reducible refine (gc_Left.calls k _ _ y270 4 t277 t278 _ ?side1 ?side2 A9.out).mono ?_); (case side1 => repeat (first | exact (Kd.R_reads' HO272.out).2.2 | (with_reducible refine Kd.C_alloc ?_ _) | (with_reducible refine Kd.C_drewN ?_ _) | (with_reducible refine Kd.C_drew ?_))); (case side2 => exact (Kd.R_reads' HO272.out).2.1); rintro e w45 ⟨v279, rfl, ho0, hb⟩; refine ⟨_, rfl, ?_⟩; replace HO276 := Aside0.mk (Kd.R_below r43_ hb); have HO280 := Aside0.mk (Kd.R_lower (Kd.R_new' ho0 (Kd.R_lt r38_)) (below_size hB_)); replace HO272 := Aside0.mk (Kd.R_elder' r38_ (Kd.R_base ho0) hb); replace HB := Aside0.mk (below_step hB_ hb); clear hb ho0 A9) | ((with_reducible refine gate_callee (f := 16) rfl ?_); refine goesL_ (some 35) rfl rfl Try.func16 r6_ rfl #[.slice Ao43 y270.length co43, .string (⟨#[97]⟩ : ByteArray), .int .u64 8] rfl hA_ ?_; (with_reducible refine (gc_Visible.calls k _ _ y270 (⟨#[97]⟩ : ByteArray) 8 t281 true _ ?side1 ?side2 A10.out).mono ?_); (case side1 => repeat (first | exact (Kd.R_reads' HO272.out).2.2 | (with_reducible refine Kd.C_alloc ?_ _) | (with_reducible refine Kd.C_drewN ?_ _) | (with_reducible refine Kd.C_drew ?_))); (case side2 => exact (Kd.R_reads' HO272.out).2.1); rintro e w46 ⟨rfl, hb⟩; refine ⟨_, rfl, ?_⟩; replace HO272 := Aside0.mk (Kd.R_below r38_ hb); replace HO276 := Aside0.mk (Kd.R_below r43_ hb); replace HO280 := Aside0.mk (Kd.R_below r49_ hb); replace HB := Aside0.mk (below_step hB_ hb); clear hb A10) | ((with_reducible refine gate_callee (f := 16) rfl ?_); refine goesL_ (some 40) rfl rfl Try.func16 r6_ rfl #[.slice Ao43 y270.length co43, .string (⟨#[97]⟩ : ByteArray), .int .u64 4] rfl hA_ ?_; (with_reducible refine (gc_Visible.calls k _ _ y270 (⟨#[97]⟩ : ByteArray) 4 t283 false _ ?side1 ?side2 A11.out).mono ?_); (case side1 => repeat (first | exact (Kd.R_reads' HO272.out).2.2 | (with_reducible refine Kd.C_alloc ?_ _) | (with_reducible refine Kd.C_drewN ?_ _) | (with_reducible refine Kd.C_drew ?_))); (case side2 => exact (Kd.R_reads' HO272.out).2.1); rintro e w47 ⟨rfl, hb⟩; refine ⟨_, rfl, ?_⟩; replace HO272 := Aside0.mk (Kd.R_below r38_ hb); replace HO276 := Aside0.mk (Kd.R_below r43_ hb); replace HO280 := Aside0.mk (Kd.R_below r49_ hb); replace HB := Aside0.mk (below_step hB_ hb); clear hb A11) | ((with_reducible refine gate_callee (f := 18) rfl ?_); refine goesL_ (some 45) rfl rfl Try.func18 r6_ rfl #[.slice Ao43 y270.length co43] rfl hA_ ?_; (with_reducible refine (gc_Counts.calls k _ _ y270 t285 t286 t287 _ ?side1 ?side2 A12.out).mono ?_); (case side1 => repeat (first | exact (Kd.R_reads' HO272.out).2.2 | (with_reducible refine Kd.C_alloc ?_ _) | (with_reducible refine Kd.C_drewN ?_ _) | (with_reducible refine Kd.C_drew ?_))); (case side2 => exact (Kd.R_reads' HO272.out).2.1); rintro e w48 ⟨rfl, hb⟩; refine ⟨_, rfl, ?_⟩; replace HO272 := Aside0.mk (Kd.R_below r38_ hb); replace HO276 := Aside0.mk (Kd.R_below r43_ hb); replace HO280 := Aside0.mk (Kd.R_below r49_ hb); replace HB := Aside0.mk (below_step hB_ hb); clear hb A12))
 replace HO272 := Aside0.mk (Kd.R_drew HO272.out)
 replace HO276 := Aside0.mk (Kd.R_drew HO276.out)
 replace HO280 := Aside0.mk (Kd.R_drew HO280.out)
 replace HB := Aside0.mk (below_drew1 HB.out)
 have p288 : 0 ≤ (1 : Int) := r37_
 have q288 : 1 < (y270.length : Int) := of_decide_eq_true as_
 obtain ⟨ad288, e288, hx288_0, hx288_1, hx288_2, hx288_3⟩ := at_T47 (Kd.R_reads' HO272.out).2.2 1 p288 q288
 cases e288
 (try simp only [show (1 : Int).toNat = 1 from rfl, Nat.reduceMul, Nat.reduceEqDiff, Go.Addr.add, ↓reduceIte] at hx288_0)
 (try simp only [show (1 : Int).toNat = 1 from rfl, Nat.reduceMul, Nat.reduceEqDiff, Go.Addr.add, ↓reduceIte] at hx288_1)
 (try simp only [show (1 : Int).toNat = 1 from rfl, Nat.reduceMul, Nat.reduceEqDiff, Go.Addr.add, ↓reduceIte] at hx288_2)
 (try simp only [show (1 : Int).toNat = 1 from rfl, Nat.reduceMul, Nat.reduceEqDiff, Go.Addr.add, ↓reduceIte] at hx288_3)
 have qi288 : (1 < y270.length) = True := eq_true r37_
 (try rw [show ((1 : Int)).toNat = 1 from rfl] at hx288_0)
 (try rw [show 1 * 4 = 4 from rfl] at hx288_0)
 (try rw [show ((1 : Int)).toNat = 1 from rfl] at hx288_1)
 (try rw [show 1 * 4 = 4 from rfl] at hx288_1)
 (try rw [show ((1 : Int)).toNat = 1 from rfl] at hx288_2)
 (try rw [show 1 * 4 = 4 from rfl] at hx288_2)
 (try rw [show ((1 : Int)).toNat = 1 from rfl] at hx288_3)
 (try rw [show 1 * 4 = 4 from rfl] at hx288_3)
 replace p288 := eq_true p288
 replace q288 := eq_true q288
 have p289 : 0 ≤ (0 : Int) := r37_
 have q289 : 0 < (y270.length : Int) := of_decide_eq_true as_
 obtain ⟨ad289, e289, hx289_0, hx289_1, hx289_2, hx289_3⟩ := at_T47 (Kd.R_reads' HO272.out).2.2 0 p289 q289
 obtain rfl : ad288 = ad289 := (by injection e289)
 have qi289 : (0 < y270.length) = True := eq_true r37_
 (try rw [show ((0 : Int)).toNat = 0 from rfl] at hx289_0)
 (try rw [show 0 * 4 = 0 from rfl] at hx289_0)
 (try rw [Addr.add_zero'] at hx289_0)
 (try rw [show ((0 : Int)).toNat = 0 from rfl] at hx289_1)
 (try rw [show 0 * 4 = 0 from rfl] at hx289_1)
 (try rw [Addr.add_zero'] at hx289_1)
 (try rw [show ((0 : Int)).toNat = 0 from rfl] at hx289_2)
 (try rw [show 0 * 4 = 0 from rfl] at hx289_2)
 (try rw [Addr.add_zero'] at hx289_2)
 (try rw [show ((0 : Int)).toNat = 0 from rfl] at hx289_3)
 (try rw [show 0 * 4 = 0 from rfl] at hx289_3)
 (try rw [Addr.add_zero'] at hx289_3)
 replace p289 := eq_true p289
 replace q289 := eq_true q289
 refine start_ (n := 13) (S := fun w' => w'.cell? ⟨ad288.block, ad288.off + 4, none⟩ = some (.string ((rd_T47 y270 1).f0)) ∧ w'.cell? ⟨ad288.block, ad288.off + 4 + 1, none⟩ = some (.int .u64 ((rd_T47 y270 1).f1)) ∧ w'.cell? ⟨ad288.block, ad288.off + 4 + 2, none⟩ = some (.bool ((rd_T47 y270 1).f2)) ∧ w'.cell? ⟨ad288.block, ad288.off + 4 + 3, none⟩ = some (.string ((rd_T47 y270 1).f3)) ∧ w'.cell? ad288 = some (.string ((rd_T47 y270 0).f0)) ∧ w'.cell? ⟨ad288.block, ad288.off + 1, none⟩ = some (.int .u64 ((rd_T47 y270 0).f1)) ∧ w'.cell? ⟨ad288.block, ad288.off + 2, none⟩ = some (.bool ((rd_T47 y270 0).f2)) ∧ w'.cell? ⟨ad288.block, ad288.off + 3, none⟩ = some (.string ((rd_T47 y270 0).f3))) (ds := []) #[N,N,N,N,N,N,N,N,N,N,N,N,N] r6_ rfl rfl ⟨hx288_0, hx288_1, hx288_2, hx288_3, hx289_0, hx289_1, hx289_2, hx289_3⟩ (fun hHeld => ?_); refine with_tabW screelaw17_awake.tab7 screelaw17_awake.bits7 (fun HT_ HW_ => ?_)
 generalize w48.drew = w49 at HO272 HO276 HO280 HB hx288_0 hx288_1 hx288_2 hx288_3 hx289_0 hx289_1 hx289_2 hx289_3 hHeld ⊢
 refine pure_ (i := 0) (N := some 50) (v := ?_) (a' := ?_) #[Y,N,N,N,N,N,N,N,N,N,N,N,N] rfl rfl (any_of HT_.out r6_) (fun _ _ _ h => h) (Or.inl ⟨by rfl, ?_⟩) ?_ ?_
 rotate_left
 ·intro w'
  go_simp
  with_reducible rfl
 rotate_left
 ·simp only [Act.put, sp_, i64_w, i32_w]
  rfl
 refine pure_ (i := 1) (N := some 51) (v := ?_) (a' := ?_) #[Y,Y,N,N,N,N,N,N,N,N,N,N,N] rfl rfl (any_of HT_.out r6_) (fun _ _ _ h => h) (Or.inl ⟨by rfl, ?_⟩) ?_ ?_
 rotate_left
 ·intro w'
  go_simp
  with_reducible rfl
 rotate_left
 ·simp only [Act.put, sp_, i64_w, i32_w]
  rfl
 refine pure_ (i := 3) (N := some 53) (v := ?_) (a' := ?_) #[Y,Y,N,Y,N,N,N,N,N,N,N,N,N] rfl rfl (any_of HT_.out r6_) (fun _ _ _ h => h) (Or.inl ⟨by rfl, ?_⟩) ?_ ?_
 rotate_left
 ·intro w'
  go_simp
  with_reducible rfl
 rotate_left
 ·simp only [Act.put, sp_, i64_w, i32_w]
  rfl
 refine pure_ (i := 4) (N := some 54) (v := ?_) (a' := ?_) #[Y,Y,N,Y,Y,N,N,N,N,N,N,N,N] rfl rfl (any_of HT_.out r6_) (fun _ _ _ h => h) (Or.inl ⟨by rfl, ?_⟩) ?_ ?_
 rotate_left
 ·intro w'
  go_simp
  with_reducible rfl
 rotate_left
 ·simp only [Act.put, sp_, i64_w, i32_w]
  rfl
 refine take_ (i := 2) (N := some 52) (v := ?_) (a' := ?_) #[Y,Y,Y,Y,Y,N,N,N,N,N,N,N,N] rfl rfl (take_ofW HT_.out HW_.out r6_) (fun _ _ _ h => h) (Or.inl ⟨by rfl, ?_⟩) hHeld ?_ ?_
 rotate_left
 ·rintro w' ⟨s0, s1, s2, s3, s4, s5, s6, s7⟩
  go_simp
  with_reducible rfl
 rotate_left
 ·simp only [Act.put, sp_, i64_w, i32_w]
  rfl
 refine take_ (i := 5) (N := some 55) (v := ?_) (a' := ?_) #[Y,Y,Y,Y,Y,Y,N,N,N,N,N,N,N] rfl rfl (take_ofW HT_.out HW_.out r6_) (fun _ _ _ h => h) (Or.inl ⟨by rfl, ?_⟩) hHeld ?_ ?_
 rotate_left
 ·rintro w' ⟨s0, s1, s2, s3, s4, s5, s6, s7⟩
  go_simp
  with_reducible rfl
 rotate_left
 ·simp only [Act.put, sp_, i64_w, i32_w]
  rfl
 refine one_ (i := 6) (N := some 56) #[Y,Y,Y,Y,Y,Y,Y,N,N,N,N,N,N] rfl rfl (one_of HT_.out r6_) r44_ (fun K hK => ?_)
 refine Kd.R_lit_step k47 _ 47 ?hg (N := 56) ?hd (xs := ([(⟨(rd_T47 y270 1).f0, (rd_T47 y270 1).f1, (rd_T47 y270 1).f2, (rd_T47 y270 1).f3⟩ : S47), (⟨(rd_T47 y270 0).f0, (rd_T47 y270 0).f1, (rd_T47 y270 0).f2, (rd_T47 y270 0).f3⟩ : S47)] : List (S47))) (inner := [.string ((rd_T47 y270 1).f0), .int .u64 ((rd_T47 y270 1).f1), .bool ((rd_T47 y270 1).f2), .string ((rd_T47 y270 1).f3), .string ((rd_T47 y270 0).f0), .int .u64 ((rd_T47 y270 0).f1), .bool ((rd_T47 y270 0).f2), .string ((rd_T47 y270 0).f3)]) (ok := fun _ => True) (okp := fun _ => True) ?hr ?hp (fun _ hk => hk) trivial (Below.refl _ _) (Nat.le_refl _) r34_ ?_; (case hd => rfl); (case hg => rfl); (case hr => first | (go_simp; done) | (go_simp; rfl)); (case hp => exact (Reps.c4 (show Kd.M k47 _ _ _ (⟨(rd_T47 y270 1).f0, (rd_T47 y270 1).f1, (rd_T47 y270 1).f2, (rd_T47 y270 1).f3⟩ : S47) [.string ((rd_T47 y270 1).f0), .int .u64 ((rd_T47 y270 1).f1), .bool ((rd_T47 y270 1).f2), .string ((rd_T47 y270 1).f3)] from (k47_mkM _ _ _ (⟨(rd_T47 y270 1).f0, (rd_T47 y270 1).f1, (rd_T47 y270 1).f2, (rd_T47 y270 1).f3⟩ : S47) )) (Reps.c4 (show Kd.M k47 _ _ _ (⟨(rd_T47 y270 0).f0, (rd_T47 y270 0).f1, (rd_T47 y270 0).f2, (rd_T47 y270 0).f3⟩ : S47) [.string ((rd_T47 y270 0).f0), .int .u64 ((rd_T47 y270 0).f1), .bool ((rd_T47 y270 0).f2), .string ((rd_T47 y270 0).f3)] from (k47_mkM _ _ _ (⟨(rd_T47 y270 0).f0, (rd_T47 y270 0).f1, (rd_T47 y270 0).f2, (rd_T47 y270 0).f3⟩ : S47) )) (Reps.none _ _))))
 intro v291 w50 ho51 hb hg_ hnew_
 have HS0_ := (hb.cell (World.block_lt_of_cell? _ _ (hHeld.1))).trans (hHeld.1)
 have HS1_ := (hb.cell (World.block_lt_of_cell? _ _ (hHeld.2.1))).trans (hHeld.2.1)
 have HS2_ := (hb.cell (World.block_lt_of_cell? _ _ (hHeld.2.2.1))).trans (hHeld.2.2.1)
 have HS3_ := (hb.cell (World.block_lt_of_cell? _ _ (hHeld.2.2.2.1))).trans (hHeld.2.2.2.1)
 have HS4_ := (hb.cell (World.block_lt_of_cell? _ _ (hHeld.2.2.2.2.1))).trans (hHeld.2.2.2.2.1)
 have HS5_ := (hb.cell (World.block_lt_of_cell? _ _ (hHeld.2.2.2.2.2.1))).trans (hHeld.2.2.2.2.2.1)
 have HS6_ := (hb.cell (World.block_lt_of_cell? _ _ (hHeld.2.2.2.2.2.2.1))).trans (hHeld.2.2.2.2.2.2.1)
 have HS7_ := (hb.cell (World.block_lt_of_cell? _ _ (hHeld.2.2.2.2.2.2.2))).trans (hHeld.2.2.2.2.2.2.2)
 clear hg_ hnew_
 (first | rw [← Ny290.out] at ho51 | (simp only [Int.reduceToNat] at ho51; rw [← Ny290.out] at ho51))
 replace HO276 := Aside0.mk (Kd.R_below r43_ hb)
 have HO292 := Aside0.mk (Kd.R_lower (Kd.R_new' (Kd.R_new' ho51 (Kd.R_lt r38_)) (Kd.R_lt r49_)) (below_size hB_))
 replace HO272 := Aside0.mk (Kd.R_elder' r38_ (Kd.R_base ho51) hb)
 replace HO280 := Aside0.mk (Kd.R_elder' r49_ (Kd.R_base ho51) hb)
 replace HB := Aside0.mk (below_step hB_ hb)
 clear hb ho51
 obtain ⟨Ao52, co52, eo52⟩ := Kd.R_slice HO292.out
 (first | subst eo52 | (injection eo52 with f1_ f2_ f3_; have f4_ := f1_.symm; have f5_ := f3_.symm; clear f1_ f2_ f3_; subst f4_; subst f5_))
 refine hK.out _ _ ⟨HS0_, HS1_, HS2_, HS3_, HS4_, HS5_, HS6_, HS7_⟩ (fun hHeld => ?_)
 clear hK K
 refine norm_ (a' := ?_) ?_ ?_
 rotate_left
 ·show Act.put _ (some 56) _ = _
  simp only [Act.put, sp_, i64_w, i32_w]
  rfl
 refine one_ (i := 7) (N := some 57) #[Y,Y,Y,Y,Y,Y,Y,Y,N,N,N,N,N] rfl rfl (one_of HT_.out r6_) r44_ (fun K hK => ?_)
 refine goes_ Try.func12 r6_ rfl #[.slice Ao52 y290.length co52, .int .u64 8] (by rfl) rfl rfl hA_ ?_
 with_reducible refine (gc_Garbage.calls k _ _ y290 8 t293 t294 _ ?side1 ?side2 A15.out).mono ?_
 (case side1 => repeat (first | exact (Kd.R_reads' HO292.out).2.2 | (with_reducible refine Kd.C_alloc ?_ _) | (with_reducible refine Kd.C_drewN ?_ _) | (with_reducible refine Kd.C_drew ?_)))
 (case side2 => exact (Kd.R_reads' HO292.out).2.1)
 rintro e w53 ⟨v295, rfl, ho0, hb⟩
 have HS0_ := (hb.cell (World.block_lt_of_cell? _ _ (hHeld.1))).trans (hHeld.1)
 have HS1_ := (hb.cell (World.block_lt_of_cell? _ _ (hHeld.2.1))).trans (hHeld.2.1)
 have HS2_ := (hb.cell (World.block_lt_of_cell? _ _ (hHeld.2.2.1))).trans (hHeld.2.2.1)
 have HS3_ := (hb.cell (World.block_lt_of_cell? _ _ (hHeld.2.2.2.1))).trans (hHeld.2.2.2.1)
 have HS4_ := (hb.cell (World.block_lt_of_cell? _ _ (hHeld.2.2.2.2.1))).trans (hHeld.2.2.2.2.1)
 have HS5_ := (hb.cell (World.block_lt_of_cell? _ _ (hHeld.2.2.2.2.2.1))).trans (hHeld.2.2.2.2.2.1)
 have HS6_ := (hb.cell (World.block_lt_of_cell? _ _ (hHeld.2.2.2.2.2.2.1))).trans (hHeld.2.2.2.2.2.2.1)
 have HS7_ := (hb.cell (World.block_lt_of_cell? _ _ (hHeld.2.2.2.2.2.2.2))).trans (hHeld.2.2.2.2.2.2.2)
 refine ⟨_, rfl, ?_⟩
 replace HO272 := Aside0.mk (Kd.R_below r38_ hb)
 replace HO280 := Aside0.mk (Kd.R_below r49_ hb)
 replace HO292 := Aside0.mk (Kd.R_below (by (with_reducible repeat (first | apply Kd.R_alloc | apply Kd.R_drewN | apply Kd.R_drew)); exact HO292.out) hb)
 have HO296 := Aside0.mk (Kd.R_lower (Kd.R_new' ho0 (Kd.R_lt r43_)) (below_size hB_))
 replace HO276 := Aside0.mk (Kd.R_elder' r43_ (Kd.R_base ho0) hb)
 replace HB := Aside0.mk (below_step hB_ hb)
 (try clear hb)
 (try clear hb2)
 (try clear hk)
 (try clear hi)
 (try clear ho0)
 (try clear A15)
 refine hK.out _ _ ⟨HS0_, HS1_, HS2_, HS3_, HS4_, HS5_, HS6_, HS7_⟩ (fun hHeld => ?_)
 clear hK K
 refine norm_ (a' := ?_) ?_ ?_
 rotate_left
 ·show Act.put _ (some 57) _ = _
  simp only [Act.put, sp_, i64_w, i32_w]
  rfl
 refine pure_ (i := 8) (N := some 49) (v := ?_) (a' := ?_) #[Y,Y,Y,Y,Y,Y,Y,Y,Y,N,N,N,N] rfl rfl (any_of HT_.out r6_) (fun _ _ _ h => h) (Or.inl ⟨by rfl, ?_⟩) ?_ ?_
 rotate_left
 ·intro w'
  go_simp
  with_reducible rfl
 rotate_left
 ·simp only [Act.put, sp_, i64_w, i32_w]
  rfl
 refine pure_ (i := 9) (N := some 58) (v := ?_) (a' := ?_) #[Y,Y,Y,Y,Y,Y,Y,Y,Y,Y,N,N,N] rfl rfl (any_of HT_.out r6_) (fun _ _ _ h => h) (Or.inl ⟨by rfl, ?_⟩) ?_ ?_
 rotate_left
 ·intro w'
  go_simp
  with_reducible rfl
 rotate_left
 ·simp only [Act.put, sp_, i64_w, i32_w]
  rfl
 refine pure_ (i := 10) (N := some 59) (v := ?_) (a' := ?_) #[Y,Y,Y,Y,Y,Y,Y,Y,Y,Y,Y,N,N] rfl rfl (any_of HT_.out r6_) (fun _ _ _ h => h) (Or.inl ⟨by rfl, ?_⟩) ?_ ?_
 rotate_left
 ·intro w'
  go_simp
  with_reducible rfl
 rotate_left
 ·simp only [Act.put, sp_, i64_w, i32_w]
  rfl
 refine pure_ (i := 11) (N := some 13) (v := ?_) (a' := ?_) #[Y,Y,Y,Y,Y,Y,Y,Y,Y,Y,Y,Y,N] rfl rfl (any_of HT_.out r6_) (fun _ _ _ h => h) (Or.inl ⟨by rfl, ?_⟩) ?_ ?_
 rotate_left
 ·intro w'
  go_simp
  with_reducible rfl
 rotate_left
 ·simp only [Act.put, sp_, i64_w, i32_w]
  rfl
 refine pure_ (i := 12) (N := some 14) (v := ?_) (a' := ?_) #[Y,Y,Y,Y,Y,Y,Y,Y,Y,Y,Y,Y,Y] rfl rfl (any_of HT_.out r6_) (fun _ _ _ h => h) (Or.inl ⟨by rfl, ?_⟩) ?_ ?_
 rotate_left
 ·intro w'
  go_simp
  with_reducible rfl
 rotate_left
 ·simp only [Act.put, sp_, i64_w, i32_w]
  rfl
 refine done_ (done_of HT_.out r6_) ?_
 (try clear hHeld)
 try go_wp2
 replace HO272 := Aside0.mk (Kd.R_drew HO272.out)
 replace HO276 := Aside0.mk (Kd.R_drew HO276.out)
 replace HO280 := Aside0.mk (Kd.R_drew HO280.out)
 replace HO292 := Aside0.mk (Kd.R_drew HO292.out)
 replace HO296 := Aside0.mk (Kd.R_drew HO296.out)
 replace HB := Aside0.mk (below_drew1 HB.out)
 obtain ⟨Ao55, co55, eo55⟩ := Kd.R_slice HO276.out
 (first | subst eo55 | (injection eo55 with f1_ f2_ f3_; have f4_ := f1_.symm; have f5_ := f3_.symm; clear f1_ f2_ f3_; subst f4_; subst f5_))
 have p297 : 0 ≤ (0 : Int) := r37_
 have q297 : 0 < (t273.length : Int) := of_decide_eq_true as_
 obtain ⟨ad297, e297, hx297_0⟩ := Kd.at_string (Kd.R_reads' HO276.out).2.2 0 p297 q297
 cases e297
 have qi297 : (0 < t273.length) = True := eq_true r37_
 (try rw [show ((0 : Int)).toNat = 0 from rfl] at hx297_0)
 (try rw [Addr.add_zero'] at hx297_0)
 replace p297 := eq_true p297
 replace q297 := eq_true q297
 have p298 : 0 ≤ (1 : Int) := r37_
 have q298 : 1 < (y270.length : Int) := of_decide_eq_true as_
 obtain ⟨ad298, e298, hx298_0, hx298_1, hx298_2, hx298_3⟩ := at_T47 (Kd.R_reads' HO272.out).2.2 1 p298 q298
 obtain rfl : ad288 = ad298 := (by injection e298)
 (try simp only [show (1 : Int).toNat = 1 from rfl, Nat.reduceMul, Nat.reduceEqDiff, Go.Addr.add, ↓reduceIte] at hx298_0)
 (try simp only [show (1 : Int).toNat = 1 from rfl, Nat.reduceMul, Nat.reduceEqDiff, Go.Addr.add, ↓reduceIte] at hx298_1)
 (try simp only [show (1 : Int).toNat = 1 from rfl, Nat.reduceMul, Nat.reduceEqDiff, Go.Addr.add, ↓reduceIte] at hx298_2)
 (try simp only [show (1 : Int).toNat = 1 from rfl, Nat.reduceMul, Nat.reduceEqDiff, Go.Addr.add, ↓reduceIte] at hx298_3)
 have qi298 : (1 < y270.length) = True := eq_true r37_
 (try rw [show ((1 : Int)).toNat = 1 from rfl] at hx298_0)
 (try rw [show 1 * 4 = 4 from rfl] at hx298_0)
 (try rw [show ((1 : Int)).toNat = 1 from rfl] at hx298_1)
 (try rw [show 1 * 4 = 4 from rfl] at hx298_1)
 (try rw [show ((1 : Int)).toNat = 1 from rfl] at hx298_2)
 (try rw [show 1 * 4 = 4 from rfl] at hx298_2)
 (try rw [show ((1 : Int)).toNat = 1 from rfl] at hx298_3)
 (try rw [show 1 * 4 = 4 from rfl] at hx298_3)
 replace p298 := eq_true p298
 replace q298 := eq_true q298
 have p299 : 0 ≤ (1 : Int) := r37_
 have q299 : 1 < (t273.length : Int) := of_decide_eq_true as_
 obtain ⟨ad299, e299, hx299_0⟩ := Kd.at_string (Kd.R_reads' HO276.out).2.2 1 p299 q299
 obtain rfl : ad297 = ad299 := (by injection e299)
 (try simp only [show (1 : Int).toNat = 1 from rfl, Nat.reduceMul, Nat.reduceEqDiff, Go.Addr.add, ↓reduceIte] at hx299_0)
 have qi299 : (1 < t273.length) = True := eq_true r37_
 (try rw [show ((1 : Int)).toNat = 1 from rfl] at hx299_0)
 replace p299 := eq_true p299
 replace q299 := eq_true q299
 have p300 : 0 ≤ (3 : Int) := r37_
 have q300 : 3 < (y270.length : Int) := of_decide_eq_true as_
 obtain ⟨ad300, e300, hx300_0, hx300_1, hx300_2, hx300_3⟩ := at_T47 (Kd.R_reads' HO272.out).2.2 3 p300 q300
 obtain rfl : ad288 = ad300 := (by injection e300)
 (try simp only [show (3 : Int).toNat = 3 from rfl, Nat.reduceMul, Nat.reduceEqDiff, Go.Addr.add, ↓reduceIte] at hx300_0)
 (try simp only [show (3 : Int).toNat = 3 from rfl, Nat.reduceMul, Nat.reduceEqDiff, Go.Addr.add, ↓reduceIte] at hx300_1)
 (try simp only [show (3 : Int).toNat = 3 from rfl, Nat.reduceMul, Nat.reduceEqDiff, Go.Addr.add, ↓reduceIte] at hx300_2)
 (try simp only [show (3 : Int).toNat = 3 from rfl, Nat.reduceMul, Nat.reduceEqDiff, Go.Addr.add, ↓reduceIte] at hx300_3)
 have qi300 : (3 < y270.length) = True := eq_true r37_
 (try rw [show ((3 : Int)).toNat = 3 from rfl] at hx300_0)
 (try rw [show 3 * 4 = 12 from rfl] at hx300_0)
 (try rw [show ((3 : Int)).toNat = 3 from rfl] at hx300_1)
 (try rw [show 3 * 4 = 12 from rfl] at hx300_1)
 (try rw [show ((3 : Int)).toNat = 3 from rfl] at hx300_2)
 (try rw [show 3 * 4 = 12 from rfl] at hx300_2)
 (try rw [show ((3 : Int)).toNat = 3 from rfl] at hx300_3)
 (try rw [show 3 * 4 = 12 from rfl] at hx300_3)
 replace p300 := eq_true p300
 replace q300 := eq_true q300
 have p301 : 0 ≤ (2 : Int) := r37_
 have q301 : 2 < (t273.length : Int) := of_decide_eq_true as_
 obtain ⟨ad301, e301, hx301_0⟩ := Kd.at_string (Kd.R_reads' HO276.out).2.2 2 p301 q301
 obtain rfl : ad297 = ad301 := (by injection e301)
 (try simp only [show (2 : Int).toNat = 2 from rfl, Nat.reduceMul, Nat.reduceEqDiff, Go.Addr.add, ↓reduceIte] at hx301_0)
 have qi301 : (2 < t273.length) = True := eq_true r37_
 (try rw [show ((2 : Int)).toNat = 2 from rfl] at hx301_0)
 replace p301 := eq_true p301
 replace q301 := eq_true q301
 have p302 : 0 ≤ (6 : Int) := r37_
 have q302 : 6 < (y270.length : Int) := of_decide_eq_true as_
 obtain ⟨ad302, e302, hx302_0, hx302_1, hx302_2, hx302_3⟩ := at_T47 (Kd.R_reads' HO272.out).2.2 6 p302 q302
 obtain rfl : ad288 = ad302 := (by injection e302)
 (try simp only [show (6 : Int).toNat = 6 from rfl, Nat.reduceMul, Nat.reduceEqDiff, Go.Addr.add, ↓reduceIte] at hx302_0)
 (try simp only [show (6 : Int).toNat = 6 from rfl, Nat.reduceMul, Nat.reduceEqDiff, Go.Addr.add, ↓reduceIte] at hx302_1)
 (try simp only [show (6 : Int).toNat = 6 from rfl, Nat.reduceMul, Nat.reduceEqDiff, Go.Addr.add, ↓reduceIte] at hx302_2)
 (try simp only [show (6 : Int).toNat = 6 from rfl, Nat.reduceMul, Nat.reduceEqDiff, Go.Addr.add, ↓reduceIte] at hx302_3)
 have qi302 : (6 < y270.length) = True := eq_true r37_
 (try rw [show ((6 : Int)).toNat = 6 from rfl] at hx302_0)
 (try rw [show 6 * 4 = 24 from rfl] at hx302_0)
 (try rw [show ((6 : Int)).toNat = 6 from rfl] at hx302_1)
 (try rw [show 6 * 4 = 24 from rfl] at hx302_1)
 (try rw [show ((6 : Int)).toNat = 6 from rfl] at hx302_2)
 (try rw [show 6 * 4 = 24 from rfl] at hx302_2)
 (try rw [show ((6 : Int)).toNat = 6 from rfl] at hx302_3)
 (try rw [show 6 * 4 = 24 from rfl] at hx302_3)
 replace p302 := eq_true p302
 replace q302 := eq_true q302
 obtain ⟨Ao56, co56, eo56⟩ := Kd.R_slice HO280.out
 (first | subst eo56 | (injection eo56 with f1_ f2_ f3_; have f4_ := f1_.symm; have f5_ := f3_.symm; clear f1_ f2_ f3_; subst f4_; subst f5_))
 refine start_ (n := 74) (S := fun w' => w'.cell? ad297 = some (.string (rdOf ByteArray.empty t273 0)) ∧ w'.cell? ⟨ad288.block, ad288.off + 4, none⟩ = some (.string ((rd_T47 y270 1).f0)) ∧ w'.cell? ⟨ad288.block, ad288.off + 4 + 1, none⟩ = some (.int .u64 ((rd_T47 y270 1).f1)) ∧ w'.cell? ⟨ad288.block, ad288.off + 4 + 2, none⟩ = some (.bool ((rd_T47 y270 1).f2)) ∧ w'.cell? ⟨ad288.block, ad288.off + 4 + 3, none⟩ = some (.string ((rd_T47 y270 1).f3)) ∧ w'.cell? ⟨ad297.block, ad297.off + 1, none⟩ = some (.string (rdOf ByteArray.empty t273 1)) ∧ w'.cell? ⟨ad288.block, ad288.off + 12, none⟩ = some (.string ((rd_T47 y270 3).f0)) ∧ w'.cell? ⟨ad288.block, ad288.off + 12 + 1, none⟩ = some (.int .u64 ((rd_T47 y270 3).f1)) ∧ w'.cell? ⟨ad288.block, ad288.off + 12 + 2, none⟩ = some (.bool ((rd_T47 y270 3).f2)) ∧ w'.cell? ⟨ad288.block, ad288.off + 12 + 3, none⟩ = some (.string ((rd_T47 y270 3).f3)) ∧ w'.cell? ⟨ad297.block, ad297.off + 2, none⟩ = some (.string (rdOf ByteArray.empty t273 2)) ∧ w'.cell? ⟨ad288.block, ad288.off + 24, none⟩ = some (.string ((rd_T47 y270 6).f0)) ∧ w'.cell? ⟨ad288.block, ad288.off + 24 + 1, none⟩ = some (.int .u64 ((rd_T47 y270 6).f1)) ∧ w'.cell? ⟨ad288.block, ad288.off + 24 + 2, none⟩ = some (.bool ((rd_T47 y270 6).f2)) ∧ w'.cell? ⟨ad288.block, ad288.off + 24 + 3, none⟩ = some (.string ((rd_T47 y270 6).f3))) (ds := []) #[N,N,N,N,N,N,N,N,N,N,N,N,N,N,N,N,N,N,N,N,N,N,N,N,N,N,N,N,N,N,N,N,N,N,N,N,N,N,N,N,N,N,N,N,N,N,N,N,N,N,N,N,N,N,N,N,N,N,N,N,N,N,N,N,N,N,N,N,N,N,N,N,N,N] r6_ rfl rfl ⟨hx297_0, hx298_0, hx298_1, hx298_2, hx298_3, hx299_0, hx300_0, hx300_1, hx300_2, hx300_3, hx301_0, hx302_0, hx302_1, hx302_2, hx302_3⟩ (fun hHeld => ?_); refine with_tabW screelaw17_awake.tab8 screelaw17_awake.bits8 (fun HT_ HW_ => ?_)
 generalize w53.drew = w54 at HO272 HO276 HO280 HO292 HO296 HB hx297_0 hx298_0 hx298_1 hx298_2 hx298_3 hx299_0 hx300_0 hx300_1 hx300_2 hx300_3 hx301_0 hx302_0 hx302_1 hx302_2 hx302_3 hHeld ⊢
 refine pure_ (i := 0) (N := some 60) (v := ?_) (a' := ?_) #[Y,N,N,N,N,N,N,N,N,N,N,N,N,N,N,N,N,N,N,N,N,N,N,N,N,N,N,N,N,N,N,N,N,N,N,N,N,N,N,N,N,N,N,N,N,N,N,N,N,N,N,N,N,N,N,N,N,N,N,N,N,N,N,N,N,N,N,N,N,N,N,N,N,N] rfl rfl (any_of HT_.out r6_) (fun _ _ _ h => h) (Or.inl ⟨by rfl, ?_⟩) ?_ ?_
 rotate_left
 ·intro w'
  go_simp
  with_reducible rfl
 rotate_left
 ·simp only [Act.put, sp_, i64_w, i32_w]
  rfl
 refine pure_ (i := 1) (N := some 61) (v := ?_) (a' := ?_) #[Y,Y,N,N,N,N,N,N,N,N,N,N,N,N,N,N,N,N,N,N,N,N,N,N,N,N,N,N,N,N,N,N,N,N,N,N,N,N,N,N,N,N,N,N,N,N,N,N,N,N,N,N,N,N,N,N,N,N,N,N,N,N,N,N,N,N,N,N,N,N,N,N,N,N] rfl rfl (any_of HT_.out r6_) (fun _ _ _ h => h) (Or.inl ⟨by rfl, ?_⟩) ?_ ?_
 rotate_left
 ·intro w'
  go_simp
  with_reducible rfl
 rotate_left
 ·simp only [Act.put, sp_, i64_w, i32_w]
  rfl
 refine pure_ (i := 2) (N := some 62) (v := ?_) (a' := ?_) #[Y,Y,Y,N,N,N,N,N,N,N,N,N,N,N,N,N,N,N,N,N,N,N,N,N,N,N,N,N,N,N,N,N,N,N,N,N,N,N,N,N,N,N,N,N,N,N,N,N,N,N,N,N,N,N,N,N,N,N,N,N,N,N,N,N,N,N,N,N,N,N,N,N,N,N] rfl rfl (any_of HT_.out r6_) (fun _ _ _ h => h) (Or.inl ⟨by rfl, ?_⟩) ?_ ?_
 rotate_left
 ·intro w'
  go_simp
  with_reducible rfl
 rotate_left
 ·simp only [Act.put, sp_, i64_w, i32_w]
  rfl
 refine pure_ (i := 3) (N := some 63) (v := ?_) (a' := ?_) #[Y,Y,Y,Y,N,N,N,N,N,N,N,N,N,N,N,N,N,N,N,N,N,N,N,N,N,N,N,N,N,N,N,N,N,N,N,N,N,N,N,N,N,N,N,N,N,N,N,N,N,N,N,N,N,N,N,N,N,N,N,N,N,N,N,N,N,N,N,N,N,N,N,N,N,N] rfl rfl (any_of HT_.out r6_) (fun _ _ _ h => h) (Or.inl ⟨by rfl, ?_⟩) ?_ ?_
 rotate_left
 ·intro w'
  go_simp
  with_reducible rfl
 rotate_left
 ·simp only [Act.put, sp_, i64_w, i32_w]
  rfl
 refine pure_ (i := 4) (N := some 64) (v := ?_) (a' := ?_) #[Y,Y,Y,Y,Y,N,N,N,N,N,N,N,N,N,N,N,N,N,N,N,N,N,N,N,N,N,N,N,N,N,N,N,N,N,N,N,N,N,N,N,N,N,N,N,N,N,N,N,N,N,N,N,N,N,N,N,N,N,N,N,N,N,N,N,N,N,N,N,N,N,N,N,N,N] rfl rfl (any_of HT_.out r6_) (fun _ _ _ h => h) (Or.inl ⟨by rfl, ?_⟩) ?_ ?_
 rotate_left
 ·intro w'
  go_simp
  with_reducible rfl
 rotate_left
 ·simp only [Act.put, sp_, i64_w, i32_w]
  rfl
 refine pure_ (i := 5) (N := some 65) (v := ?_) (a' := ?_) #[Y,Y,Y,Y,Y,Y,N,N,N,N,N,N,N,N,N,N,N,N,N,N,N,N,N,N,N,N,N,N,N,N,N,N,N,N,N,N,N,N,N,N,N,N,N,N,N,N,N,N,N,N,N,N,N,N,N,N,N,N,N,N,N,N,N,N,N,N,N,N,N,N,N,N,N,N] rfl rfl (any_of HT_.out r6_) (fun _ _ _ h => h) (Or.inl ⟨by rfl, ?_⟩) ?_ ?_
 rotate_left
 ·intro w'
  go_simp
  with_reducible rfl
 rotate_left
 ·simp only [Act.put, sp_, i64_w, i32_w]
  rfl
 refine pure_ (i := 7) (N := some 67) (v := ?_) (a' := ?_) #[Y,Y,Y,Y,Y,Y,N,Y,N,N,N,N,N,N,N,N,N,N,N,N,N,N,N,N,N,N,N,N,N,N,N,N,N,N,N,N,N,N,N,N,N,N,N,N,N,N,N,N,N,N,N,N,N,N,N,N,N,N,N,N,N,N,N,N,N,N,N,N,N,N,N,N,N,N] rfl rfl (any_of HT_.out r6_) (fun _ _ _ h => h) (Or.inl ⟨by rfl, ?_⟩) ?_ ?_
 rotate_left
 ·intro w'
  go_simp
  with_reducible rfl
 rotate_left
 ·simp only [Act.put, sp_, i64_w, i32_w]
  rfl
 refine pure_ (i := 8) (N := some 68) (v := ?_) (a' := ?_) #[Y,Y,Y,Y,Y,Y,N,Y,Y,N,N,N,N,N,N,N,N,N,N,N,N,N,N,N,N,N,N,N,N,N,N,N,N,N,N,N,N,N,N,N,N,N,N,N,N,N,N,N,N,N,N,N,N,N,N,N,N,N,N,N,N,N,N,N,N,N,N,N,N,N,N,N,N,N] rfl rfl (any_of HT_.out r6_) (fun _ _ _ h => h) (Or.inl ⟨by rfl, ?_⟩) ?_ ?_
 rotate_left
 ·intro w'
  go_simp
  with_reducible rfl
 rotate_left
 ·simp only [Act.put, sp_, i64_w, i32_w]
  rfl
 refine pure_ (i := 9) (N := some 69) (v := ?_) (a' := ?_) #[Y,Y,Y,Y,Y,Y,N,Y,Y,Y,N,N,N,N,N,N,N,N,N,N,N,N,N,N,N,N,N,N,N,N,N,N,N,N,N,N,N,N,N,N,N,N,N,N,N,N,N,N,N,N,N,N,N,N,N,N,N,N,N,N,N,N,N,N,N,N,N,N,N,N,N,N,N,N] rfl rfl (any_of HT_.out r6_) (fun _ _ _ h => h) (Or.inl ⟨by rfl, ?_⟩) ?_ ?_
 rotate_left
 ·intro w'
  go_simp
  with_reducible rfl
 rotate_left
 ·simp only [Act.put, sp_, i64_w, i32_w]
  rfl
 refine take_ (i := 6) (N := some 66) (v := ?_) (a' := ?_) #[Y,Y,Y,Y,Y,Y,Y,Y,Y,Y,N,N,N,N,N,N,N,N,N,N,N,N,N,N,N,N,N,N,N,N,N,N,N,N,N,N,N,N,N,N,N,N,N,N,N,N,N,N,N,N,N,N,N,N,N,N,N,N,N,N,N,N,N,N,N,N,N,N,N,N,N,N,N,N] rfl rfl (take_ofW HT_.out HW_.out r6_) (fun _ _ _ h => h) (Or.inl ⟨by rfl, ?_⟩) hHeld ?_ ?_
 rotate_left
 ·rintro w' ⟨s0, s1, s2, s3, s4, s5, s6, s7, s8, s9, s10, s11, s12, s13, s14⟩
  go_simp
  with_reducible rfl
 rotate_left
 ·simp only [Act.put, sp_, i64_w, i32_w]
  rfl
 refine take_ (i := 10) (N := some 70) (v := ?_) (a' := ?_) #[Y,Y,Y,Y,Y,Y,Y,Y,Y,Y,Y,N,N,N,N,N,N,N,N,N,N,N,N,N,N,N,N,N,N,N,N,N,N,N,N,N,N,N,N,N,N,N,N,N,N,N,N,N,N,N,N,N,N,N,N,N,N,N,N,N,N,N,N,N,N,N,N,N,N,N,N,N,N,N] rfl rfl (take_ofW HT_.out HW_.out r6_) (fun _ _ _ h => h) (Or.inl ⟨by rfl, ?_⟩) hHeld ?_ ?_
 rotate_left
 ·rintro w' ⟨s0, s1, s2, s3, s4, s5, s6, s7, s8, s9, s10, s11, s12, s13, s14⟩
  go_simp
  with_reducible rfl
 rotate_left
 ·simp only [Act.put, sp_, i64_w, i32_w]
  rfl
 refine pure_ (i := 11) (N := some 71) (v := ?_) (a' := ?_) #[Y,Y,Y,Y,Y,Y,Y,Y,Y,Y,Y,Y,N,N,N,N,N,N,N,N,N,N,N,N,N,N,N,N,N,N,N,N,N,N,N,N,N,N,N,N,N,N,N,N,N,N,N,N,N,N,N,N,N,N,N,N,N,N,N,N,N,N,N,N,N,N,N,N,N,N,N,N,N,N] rfl rfl (any_of HT_.out r6_) (fun _ _ _ h => h) (Or.inl ⟨by rfl, ?_⟩) ?_ ?_
 rotate_left
 ·intro w'
  go_simp
  with_reducible rfl
 rotate_left
 ·simp only [Act.put, sp_, i64_w, i32_w]
  rfl
 refine pure_ (i := 12) (N := some 72) (v := ?_) (a' := ?_) #[Y,Y,Y,Y,Y,Y,Y,Y,Y,Y,Y,Y,Y,N,N,N,N,N,N,N,N,N,N,N,N,N,N,N,N,N,N,N,N,N,N,N,N,N,N,N,N,N,N,N,N,N,N,N,N,N,N,N,N,N,N,N,N,N,N,N,N,N,N,N,N,N,N,N,N,N,N,N,N,N] rfl rfl (any_of HT_.out r6_) (fun _ _ _ h => h) (Or.inl ⟨by rfl, ?_⟩) ?_ ?_
 rotate_left
 ·intro w'
  go_simp
  with_reducible rfl
 rotate_left
 ·simp only [Act.put, sp_, i64_w, i32_w]
  rfl
 refine pure_ (i := 13) (N := some 73) (v := ?_) (a' := ?_) #[Y,Y,Y,Y,Y,Y,Y,Y,Y,Y,Y,Y,Y,Y,N,N,N,N,N,N,N,N,N,N,N,N,N,N,N,N,N,N,N,N,N,N,N,N,N,N,N,N,N,N,N,N,N,N,N,N,N,N,N,N,N,N,N,N,N,N,N,N,N,N,N,N,N,N,N,N,N,N,N,N] rfl rfl (any_of HT_.out r6_) (fun _ _ _ h => h) (Or.inl ⟨by rfl, ?_⟩) ?_ ?_
 rotate_left
 ·intro w'
  go_simp
  with_reducible rfl
 rotate_left
 ·simp only [Act.put, sp_, i64_w, i32_w]
  rfl
 refine pure_ (i := 14) (N := some 74) (v := ?_) (a' := ?_) #[Y,Y,Y,Y,Y,Y,Y,Y,Y,Y,Y,Y,Y,Y,Y,N,N,N,N,N,N,N,N,N,N,N,N,N,N,N,N,N,N,N,N,N,N,N,N,N,N,N,N,N,N,N,N,N,N,N,N,N,N,N,N,N,N,N,N,N,N,N,N,N,N,N,N,N,N,N,N,N,N,N] rfl rfl (any_of HT_.out r6_) (fun _ _ _ h => h) (Or.inl ⟨by rfl, ?_⟩) ?_ ?_
 rotate_left
 ·intro w'
  go_simp
  with_reducible rfl
 rotate_left
 ·simp only [Act.put, sp_, i64_w, i32_w]
  rfl
 refine pure_ (i := 15) (N := some 75) (v := ?_) (a' := ?_) #[Y,Y,Y,Y,Y,Y,Y,Y,Y,Y,Y,Y,Y,Y,Y,Y,N,N,N,N,N,N,N,N,N,N,N,N,N,N,N,N,N,N,N,N,N,N,N,N,N,N,N,N,N,N,N,N,N,N,N,N,N,N,N,N,N,N,N,N,N,N,N,N,N,N,N,N,N,N,N,N,N,N] rfl rfl (any_of HT_.out r6_) (fun _ _ _ h => h) (Or.inl ⟨by rfl, ?_⟩) ?_ ?_
 rotate_left
 ·intro w'
  go_simp
  with_reducible rfl
 rotate_left
 ·simp only [Act.put, sp_, i64_w, i32_w]
  rfl
 refine pure_ (i := 17) (N := some 77) (v := ?_) (a' := ?_) #[Y,Y,Y,Y,Y,Y,Y,Y,Y,Y,Y,Y,Y,Y,Y,Y,N,Y,N,N,N,N,N,N,N,N,N,N,N,N,N,N,N,N,N,N,N,N,N,N,N,N,N,N,N,N,N,N,N,N,N,N,N,N,N,N,N,N,N,N,N,N,N,N,N,N,N,N,N,N,N,N,N,N] rfl rfl (any_of HT_.out r6_) (fun _ _ _ h => h) (Or.inl ⟨by rfl, ?_⟩) ?_ ?_
 rotate_left
 ·intro w'
  go_simp
  with_reducible rfl
 rotate_left
 ·simp only [Act.put, sp_, i64_w, i32_w]
  rfl
 refine pure_ (i := 18) (N := some 78) (v := ?_) (a' := ?_) #[Y,Y,Y,Y,Y,Y,Y,Y,Y,Y,Y,Y,Y,Y,Y,Y,N,Y,Y,N,N,N,N,N,N,N,N,N,N,N,N,N,N,N,N,N,N,N,N,N,N,N,N,N,N,N,N,N,N,N,N,N,N,N,N,N,N,N,N,N,N,N,N,N,N,N,N,N,N,N,N,N,N,N] rfl rfl (any_of HT_.out r6_) (fun _ _ _ h => h) (Or.inl ⟨by rfl, ?_⟩) ?_ ?_
 rotate_left
 ·intro w'
  go_simp
  with_reducible rfl
 rotate_left
 ·simp only [Act.put, sp_, i64_w, i32_w]
  rfl
 refine pure_ (i := 19) (N := some 79) (v := ?_) (a' := ?_) #[Y,Y,Y,Y,Y,Y,Y,Y,Y,Y,Y,Y,Y,Y,Y,Y,N,Y,Y,Y,N,N,N,N,N,N,N,N,N,N,N,N,N,N,N,N,N,N,N,N,N,N,N,N,N,N,N,N,N,N,N,N,N,N,N,N,N,N,N,N,N,N,N,N,N,N,N,N,N,N,N,N,N,N] rfl rfl (any_of HT_.out r6_) (fun _ _ _ h => h) (Or.inl ⟨by rfl, ?_⟩) ?_ ?_
 rotate_left
 ·intro w'
  go_simp
  with_reducible rfl
 rotate_left
 ·simp only [Act.put, sp_, i64_w, i32_w]
  rfl
 refine take_ (i := 16) (N := some 76) (v := ?_) (a' := ?_) #[Y,Y,Y,Y,Y,Y,Y,Y,Y,Y,Y,Y,Y,Y,Y,Y,Y,Y,Y,Y,N,N,N,N,N,N,N,N,N,N,N,N,N,N,N,N,N,N,N,N,N,N,N,N,N,N,N,N,N,N,N,N,N,N,N,N,N,N,N,N,N,N,N,N,N,N,N,N,N,N,N,N,N,N] rfl rfl (take_ofW HT_.out HW_.out r6_) (fun _ _ _ h => h) (Or.inl ⟨by rfl, ?_⟩) hHeld ?_ ?_
 rotate_left
 ·rintro w' ⟨s0, s1, s2, s3, s4, s5, s6, s7, s8, s9, s10, s11, s12, s13, s14⟩
  go_simp
  with_reducible rfl
 rotate_left
 ·simp only [Act.put, sp_, i64_w, i32_w]
  rfl
 refine take_ (i := 20) (N := some 80) (v := ?_) (a' := ?_) #[Y,Y,Y,Y,Y,Y,Y,Y,Y,Y,Y,Y,Y,Y,Y,Y,Y,Y,Y,Y,Y,N,N,N,N,N,N,N,N,N,N,N,N,N,N,N,N,N,N,N,N,N,N,N,N,N,N,N,N,N,N,N,N,N,N,N,N,N,N,N,N,N,N,N,N,N,N,N,N,N,N,N,N,N] rfl rfl (take_ofW HT_.out HW_.out r6_) (fun _ _ _ h => h) (Or.inl ⟨by rfl, ?_⟩) hHeld ?_ ?_
 rotate_left
 ·rintro w' ⟨s0, s1, s2, s3, s4, s5, s6, s7, s8, s9, s10, s11, s12, s13, s14⟩
  go_simp
  with_reducible rfl
 rotate_left
 ·simp only [Act.put, sp_, i64_w, i32_w]
  rfl
 refine pure_ (i := 21) (N := some 81) (v := ?_) (a' := ?_) #[Y,Y,Y,Y,Y,Y,Y,Y,Y,Y,Y,Y,Y,Y,Y,Y,Y,Y,Y,Y,Y,Y,N,N,N,N,N,N,N,N,N,N,N,N,N,N,N,N,N,N,N,N,N,N,N,N,N,N,N,N,N,N,N,N,N,N,N,N,N,N,N,N,N,N,N,N,N,N,N,N,N,N,N,N] rfl rfl (any_of HT_.out r6_) (fun _ _ _ h => h) (Or.inl ⟨by rfl, ?_⟩) ?_ ?_
 rotate_left
 ·intro w'
  go_simp
  with_reducible rfl
 rotate_left
 ·simp only [Act.put, sp_, i64_w, i32_w]
  rfl
 refine pure_ (i := 22) (N := some 82) (v := ?_) (a' := ?_) #[Y,Y,Y,Y,Y,Y,Y,Y,Y,Y,Y,Y,Y,Y,Y,Y,Y,Y,Y,Y,Y,Y,Y,N,N,N,N,N,N,N,N,N,N,N,N,N,N,N,N,N,N,N,N,N,N,N,N,N,N,N,N,N,N,N,N,N,N,N,N,N,N,N,N,N,N,N,N,N,N,N,N,N,N,N] rfl rfl (any_of HT_.out r6_) (fun _ _ _ h => h) (Or.inl ⟨by rfl, ?_⟩) ?_ ?_
 rotate_left
 ·intro w'
  go_simp
  with_reducible rfl
 rotate_left
 ·simp only [Act.put, sp_, i64_w, i32_w]
  rfl
 refine pure_ (i := 23) (N := some 83) (v := ?_) (a' := ?_) #[Y,Y,Y,Y,Y,Y,Y,Y,Y,Y,Y,Y,Y,Y,Y,Y,Y,Y,Y,Y,Y,Y,Y,Y,N,N,N,N,N,N,N,N,N,N,N,N,N,N,N,N,N,N,N,N,N,N,N,N,N,N,N,N,N,N,N,N,N,N,N,N,N,N,N,N,N,N,N,N,N,N,N,N,N,N] rfl rfl (any_of HT_.out r6_) (fun _ _ _ h => h) (Or.inl ⟨by rfl, ?_⟩) ?_ ?_
 rotate_left
 ·intro w'
  go_simp
  with_reducible rfl
 rotate_left
 ·simp only [Act.put, sp_, i64_w, i32_w]
  rfl
 refine pure_ (i := 24) (N := some 84) (v := ?_) (a' := ?_) #[Y,Y,Y,Y,Y,Y,Y,Y,Y,Y,Y,Y,Y,Y,Y,Y,Y,Y,Y,Y,Y,Y,Y,Y,Y,N,N,N,N,N,N,N,N,N,N,N,N,N,N,N,N,N,N,N,N,N,N,N,N,N,N,N,N,N,N,N,N,N,N,N,N,N,N,N,N,N,N,N,N,N,N,N,N,N] rfl rfl (any_of HT_.out r6_) (fun _ _ _ h => h) (Or.inl ⟨by rfl, ?_⟩) ?_ ?_
 rotate_left
 ·intro w'
  go_simp
  with_reducible rfl
 rotate_left
 ·simp only [Act.put, sp_, i64_w, i32_w]
  rfl
 refine pure_ (i := 25) (N := some 85) (v := ?_) (a' := ?_) #[Y,Y,Y,Y,Y,Y,Y,Y,Y,Y,Y,Y,Y,Y,Y,Y,Y,Y,Y,Y,Y,Y,Y,Y,Y,Y,N,N,N,N,N,N,N,N,N,N,N,N,N,N,N,N,N,N,N,N,N,N,N,N,N,N,N,N,N,N,N,N,N,N,N,N,N,N,N,N,N,N,N,N,N,N,N,N] rfl rfl (any_of HT_.out r6_) (fun _ _ _ h => h) (Or.inl ⟨by rfl, ?_⟩) ?_ ?_
 rotate_left
 ·intro w'
  go_simp
  with_reducible rfl
 rotate_left
 ·simp only [Act.put, sp_, i64_w, i32_w]
  rfl
 refine pure_ (i := 27) (N := some 87) (v := ?_) (a' := ?_) #[Y,Y,Y,Y,Y,Y,Y,Y,Y,Y,Y,Y,Y,Y,Y,Y,Y,Y,Y,Y,Y,Y,Y,Y,Y,Y,N,Y,N,N,N,N,N,N,N,N,N,N,N,N,N,N,N,N,N,N,N,N,N,N,N,N,N,N,N,N,N,N,N,N,N,N,N,N,N,N,N,N,N,N,N,N,N,N] rfl rfl (any_of HT_.out r6_) (fun _ _ _ h => h) (Or.inl ⟨by rfl, ?_⟩) ?_ ?_
 rotate_left
 ·intro w'
  go_simp
  with_reducible rfl
 rotate_left
 ·simp only [Act.put, sp_, i64_w, i32_w]
  rfl
 refine pure_ (i := 28) (N := some 88) (v := ?_) (a' := ?_) #[Y,Y,Y,Y,Y,Y,Y,Y,Y,Y,Y,Y,Y,Y,Y,Y,Y,Y,Y,Y,Y,Y,Y,Y,Y,Y,N,Y,Y,N,N,N,N,N,N,N,N,N,N,N,N,N,N,N,N,N,N,N,N,N,N,N,N,N,N,N,N,N,N,N,N,N,N,N,N,N,N,N,N,N,N,N,N,N] rfl rfl (any_of HT_.out r6_) (fun _ _ _ h => h) (Or.inl ⟨by rfl, ?_⟩) ?_ ?_
 rotate_left
 ·intro w'
  go_simp
  with_reducible rfl
 rotate_left
 ·simp only [Act.put, sp_, i64_w, i32_w]
  rfl
 refine pure_ (i := 29) (N := some 89) (v := ?_) (a' := ?_) #[Y,Y,Y,Y,Y,Y,Y,Y,Y,Y,Y,Y,Y,Y,Y,Y,Y,Y,Y,Y,Y,Y,Y,Y,Y,Y,N,Y,Y,Y,N,N,N,N,N,N,N,N,N,N,N,N,N,N,N,N,N,N,N,N,N,N,N,N,N,N,N,N,N,N,N,N,N,N,N,N,N,N,N,N,N,N,N,N] rfl rfl (any_of HT_.out r6_) (fun _ _ _ h => h) (Or.inl ⟨by rfl, ?_⟩) ?_ ?_
 rotate_left
 ·intro w'
  go_simp
  with_reducible rfl
 rotate_left
 ·simp only [Act.put, sp_, i64_w, i32_w]
  rfl
 refine take_ (i := 26) (N := some 86) (v := ?_) (a' := ?_) #[Y,Y,Y,Y,Y,Y,Y,Y,Y,Y,Y,Y,Y,Y,Y,Y,Y,Y,Y,Y,Y,Y,Y,Y,Y,Y,Y,Y,Y,Y,N,N,N,N,N,N,N,N,N,N,N,N,N,N,N,N,N,N,N,N,N,N,N,N,N,N,N,N,N,N,N,N,N,N,N,N,N,N,N,N,N,N,N,N] rfl rfl (take_ofW HT_.out HW_.out r6_) (fun _ _ _ h => h) (Or.inl ⟨by rfl, ?_⟩) hHeld ?_ ?_
 rotate_left
 ·rintro w' ⟨s0, s1, s2, s3, s4, s5, s6, s7, s8, s9, s10, s11, s12, s13, s14⟩
  go_simp
  with_reducible rfl
 rotate_left
 ·simp only [Act.put, sp_, i64_w, i32_w]
  rfl
 refine take_ (i := 30) (N := some 90) (v := ?_) (a' := ?_) #[Y,Y,Y,Y,Y,Y,Y,Y,Y,Y,Y,Y,Y,Y,Y,Y,Y,Y,Y,Y,Y,Y,Y,Y,Y,Y,Y,Y,Y,Y,Y,N,N,N,N,N,N,N,N,N,N,N,N,N,N,N,N,N,N,N,N,N,N,N,N,N,N,N,N,N,N,N,N,N,N,N,N,N,N,N,N,N,N,N] rfl rfl (take_ofW HT_.out HW_.out r6_) (fun _ _ _ h => h) (Or.inl ⟨by rfl, ?_⟩) hHeld ?_ ?_
 rotate_left
 ·rintro w' ⟨s0, s1, s2, s3, s4, s5, s6, s7, s8, s9, s10, s11, s12, s13, s14⟩
  go_simp
  with_reducible rfl
 rotate_left
 ·simp only [Act.put, sp_, i64_w, i32_w]
  rfl
 refine pure_ (i := 31) (N := some 91) (v := ?_) (a' := ?_) #[Y,Y,Y,Y,Y,Y,Y,Y,Y,Y,Y,Y,Y,Y,Y,Y,Y,Y,Y,Y,Y,Y,Y,Y,Y,Y,Y,Y,Y,Y,Y,Y,N,N,N,N,N,N,N,N,N,N,N,N,N,N,N,N,N,N,N,N,N,N,N,N,N,N,N,N,N,N,N,N,N,N,N,N,N,N,N,N,N,N] rfl rfl (any_of HT_.out r6_) (fun _ _ _ h => h) (Or.inl ⟨by rfl, ?_⟩) ?_ ?_
 rotate_left
 ·intro w'
  go_simp
  with_reducible rfl
 rotate_left
 ·simp only [Act.put, sp_, i64_w, i32_w]
  rfl
 refine pure_ (i := 32) (N := some 92) (v := ?_) (a' := ?_) #[Y,Y,Y,Y,Y,Y,Y,Y,Y,Y,Y,Y,Y,Y,Y,Y,Y,Y,Y,Y,Y,Y,Y,Y,Y,Y,Y,Y,Y,Y,Y,Y,Y,N,N,N,N,N,N,N,N,N,N,N,N,N,N,N,N,N,N,N,N,N,N,N,N,N,N,N,N,N,N,N,N,N,N,N,N,N,N,N,N,N] rfl rfl (any_of HT_.out r6_) (fun _ _ _ h => h) (Or.inl ⟨by rfl, ?_⟩) ?_ ?_
 rotate_left
 ·intro w'
  go_simp
  with_reducible rfl
 rotate_left
 ·simp only [Act.put, sp_, i64_w, i32_w]
  rfl
 refine pure_ (i := 33) (N := some 93) (v := ?_) (a' := ?_) #[Y,Y,Y,Y,Y,Y,Y,Y,Y,Y,Y,Y,Y,Y,Y,Y,Y,Y,Y,Y,Y,Y,Y,Y,Y,Y,Y,Y,Y,Y,Y,Y,Y,Y,N,N,N,N,N,N,N,N,N,N,N,N,N,N,N,N,N,N,N,N,N,N,N,N,N,N,N,N,N,N,N,N,N,N,N,N,N,N,N,N] rfl rfl (any_of HT_.out r6_) (fun _ _ _ h => h) (Or.inl ⟨by rfl, ?_⟩) ?_ ?_
 rotate_left
 ·intro w'
  go_simp
  with_reducible rfl
 rotate_left
 ·simp only [Act.put, sp_, i64_w, i32_w]
  rfl
 refine pure_ (i := 34) (N := some 94) (v := ?_) (a' := ?_) #[Y,Y,Y,Y,Y,Y,Y,Y,Y,Y,Y,Y,Y,Y,Y,Y,Y,Y,Y,Y,Y,Y,Y,Y,Y,Y,Y,Y,Y,Y,Y,Y,Y,Y,Y,N,N,N,N,N,N,N,N,N,N,N,N,N,N,N,N,N,N,N,N,N,N,N,N,N,N,N,N,N,N,N,N,N,N,N,N,N,N,N] rfl rfl (any_of HT_.out r6_) (fun _ _ _ h => h) (Or.inl ⟨by rfl, ?_⟩) ?_ ?_
 rotate_left
 ·intro w'
  go_simp
  with_reducible rfl
 rotate_left
 ·simp only [Act.put, sp_, i64_w, i32_w]
  rfl
 refine pure_ (i := 35) (N := some 95) (v := ?_) (a' := ?_) #[Y,Y,Y,Y,Y,Y,Y,Y,Y,Y,Y,Y,Y,Y,Y,Y,Y,Y,Y,Y,Y,Y,Y,Y,Y,Y,Y,Y,Y,Y,Y,Y,Y,Y,Y,Y,N,N,N,N,N,N,N,N,N,N,N,N,N,N,N,N,N,N,N,N,N,N,N,N,N,N,N,N,N,N,N,N,N,N,N,N,N,N] rfl rfl (any_of HT_.out r6_) (fun _ _ _ h => h) (Or.inl ⟨by rfl, ?_⟩) ?_ ?_
 rotate_left
 ·intro w'
  go_simp
  with_reducible rfl
 rotate_left
 ·simp only [Act.put, sp_, i64_w, i32_w]
  rfl
 refine pure_ (i := 36) (N := some 96) (v := ?_) (a' := ?_) #[Y,Y,Y,Y,Y,Y,Y,Y,Y,Y,Y,Y,Y,Y,Y,Y,Y,Y,Y,Y,Y,Y,Y,Y,Y,Y,Y,Y,Y,Y,Y,Y,Y,Y,Y,Y,Y,N,N,N,N,N,N,N,N,N,N,N,N,N,N,N,N,N,N,N,N,N,N,N,N,N,N,N,N,N,N,N,N,N,N,N,N,N] rfl rfl (any_of HT_.out r6_) (fun _ _ _ h => h) (Or.inl ⟨by rfl, ?_⟩) ?_ ?_
 rotate_left
 ·intro w'
  go_simp
  with_reducible rfl
 rotate_left
 ·simp only [Act.put, sp_, i64_w, i32_w]
  rfl
 refine pure_ (i := 37) (N := some 97) (v := ?_) (a' := ?_) #[Y,Y,Y,Y,Y,Y,Y,Y,Y,Y,Y,Y,Y,Y,Y,Y,Y,Y,Y,Y,Y,Y,Y,Y,Y,Y,Y,Y,Y,Y,Y,Y,Y,Y,Y,Y,Y,Y,N,N,N,N,N,N,N,N,N,N,N,N,N,N,N,N,N,N,N,N,N,N,N,N,N,N,N,N,N,N,N,N,N,N,N,N] rfl rfl (any_of HT_.out r6_) (fun _ _ _ h => h) (Or.inl ⟨by rfl, ?_⟩) ?_ ?_
 rotate_left
 ·intro w'
  go_simp
  with_reducible rfl
 rotate_left
 ·simp only [Act.put, sp_, i64_w, i32_w]
  rfl
 refine pure_ (i := 38) (N := some 98) (v := ?_) (a' := ?_) #[Y,Y,Y,Y,Y,Y,Y,Y,Y,Y,Y,Y,Y,Y,Y,Y,Y,Y,Y,Y,Y,Y,Y,Y,Y,Y,Y,Y,Y,Y,Y,Y,Y,Y,Y,Y,Y,Y,Y,N,N,N,N,N,N,N,N,N,N,N,N,N,N,N,N,N,N,N,N,N,N,N,N,N,N,N,N,N,N,N,N,N,N,N] rfl rfl (any_of HT_.out r6_) (fun _ _ _ h => h) (Or.inl ⟨by rfl, ?_⟩) ?_ ?_
 rotate_left
 ·intro w'
  go_simp
  with_reducible rfl
 rotate_left
 ·simp only [Act.put, sp_, i64_w, i32_w]
  rfl
 refine pure_ (i := 39) (N := some 99) (v := ?_) (a' := ?_) #[Y,Y,Y,Y,Y,Y,Y,Y,Y,Y,Y,Y,Y,Y,Y,Y,Y,Y,Y,Y,Y,Y,Y,Y,Y,Y,Y,Y,Y,Y,Y,Y,Y,Y,Y,Y,Y,Y,Y,Y,N,N,N,N,N,N,N,N,N,N,N,N,N,N,N,N,N,N,N,N,N,N,N,N,N,N,N,N,N,N,N,N,N,N] rfl rfl (any_of HT_.out r6_) (fun _ _ _ h => h) (Or.inl ⟨by rfl, ?_⟩) ?_ ?_
 rotate_left
 ·intro w'
  go_simp
  with_reducible rfl
 rotate_left
 ·simp only [Act.put, sp_, i64_w, i32_w]
  rfl
 refine pure_ (i := 40) (N := some 100) (v := ?_) (a' := ?_) #[Y,Y,Y,Y,Y,Y,Y,Y,Y,Y,Y,Y,Y,Y,Y,Y,Y,Y,Y,Y,Y,Y,Y,Y,Y,Y,Y,Y,Y,Y,Y,Y,Y,Y,Y,Y,Y,Y,Y,Y,Y,N,N,N,N,N,N,N,N,N,N,N,N,N,N,N,N,N,N,N,N,N,N,N,N,N,N,N,N,N,N,N,N,N] rfl rfl (any_of HT_.out r6_) (fun _ _ _ h => h) (Or.inl ⟨by rfl, ?_⟩) ?_ ?_
 rotate_left
 ·intro w'
  go_simp
  with_reducible rfl
 rotate_left
 ·simp only [Act.put, sp_, i64_w, i32_w]
  rfl
 refine pure_ (i := 41) (N := some 101) (v := ?_) (a' := ?_) #[Y,Y,Y,Y,Y,Y,Y,Y,Y,Y,Y,Y,Y,Y,Y,Y,Y,Y,Y,Y,Y,Y,Y,Y,Y,Y,Y,Y,Y,Y,Y,Y,Y,Y,Y,Y,Y,Y,Y,Y,Y,Y,N,N,N,N,N,N,N,N,N,N,N,N,N,N,N,N,N,N,N,N,N,N,N,N,N,N,N,N,N,N,N,N] rfl rfl (any_of HT_.out r6_) (fun _ _ _ h => h) (Or.inl ⟨by rfl, ?_⟩) ?_ ?_
 rotate_left
 ·intro w'
  go_simp
  with_reducible rfl
 rotate_left
 ·simp only [Act.put, sp_, i64_w, i32_w]
  rfl
 refine pure_ (i := 42) (N := some 102) (v := ?_) (a' := ?_) #[Y,Y,Y,Y,Y,Y,Y,Y,Y,Y,Y,Y,Y,Y,Y,Y,Y,Y,Y,Y,Y,Y,Y,Y,Y,Y,Y,Y,Y,Y,Y,Y,Y,Y,Y,Y,Y,Y,Y,Y,Y,Y,Y,N,N,N,N,N,N,N,N,N,N,N,N,N,N,N,N,N,N,N,N,N,N,N,N,N,N,N,N,N,N,N] rfl rfl (any_of HT_.out r6_) (fun _ _ _ h => h) (Or.inl ⟨by rfl, ?_⟩) ?_ ?_
 rotate_left
 ·intro w'
  go_simp
  with_reducible rfl
 rotate_left
 ·simp only [Act.put, sp_, i64_w, i32_w]
  rfl
 refine pure_ (i := 43) (N := some 103) (v := ?_) (a' := ?_) #[Y,Y,Y,Y,Y,Y,Y,Y,Y,Y,Y,Y,Y,Y,Y,Y,Y,Y,Y,Y,Y,Y,Y,Y,Y,Y,Y,Y,Y,Y,Y,Y,Y,Y,Y,Y,Y,Y,Y,Y,Y,Y,Y,Y,N,N,N,N,N,N,N,N,N,N,N,N,N,N,N,N,N,N,N,N,N,N,N,N,N,N,N,N,N,N] rfl rfl (any_of HT_.out r6_) (fun _ _ _ h => h) (Or.inl ⟨by rfl, ?_⟩) ?_ ?_
 rotate_left
 ·intro w'
  go_simp
  with_reducible rfl
 rotate_left
 ·simp only [Act.put, sp_, i64_w, i32_w]
  rfl
 refine pure_ (i := 44) (N := some 104) (v := ?_) (a' := ?_) #[Y,Y,Y,Y,Y,Y,Y,Y,Y,Y,Y,Y,Y,Y,Y,Y,Y,Y,Y,Y,Y,Y,Y,Y,Y,Y,Y,Y,Y,Y,Y,Y,Y,Y,Y,Y,Y,Y,Y,Y,Y,Y,Y,Y,Y,N,N,N,N,N,N,N,N,N,N,N,N,N,N,N,N,N,N,N,N,N,N,N,N,N,N,N,N,N] rfl rfl (any_of HT_.out r6_) (fun _ _ _ h => h) (Or.inl ⟨by rfl, ?_⟩) ?_ ?_
 rotate_left
 ·intro w'
  go_simp
  with_reducible rfl
 rotate_left
 ·simp only [Act.put, sp_, i64_w, i32_w]
  rfl
 refine pure_ (i := 45) (N := some 105) (v := ?_) (a' := ?_) #[Y,Y,Y,Y,Y,Y,Y,Y,Y,Y,Y,Y,Y,Y,Y,Y,Y,Y,Y,Y,Y,Y,Y,Y,Y,Y,Y,Y,Y,Y,Y,Y,Y,Y,Y,Y,Y,Y,Y,Y,Y,Y,Y,Y,Y,Y,N,N,N,N,N,N,N,N,N,N,N,N,N,N,N,N,N,N,N,N,N,N,N,N,N,N,N,N] rfl rfl (any_of HT_.out r6_) (fun _ _ _ h => h) (Or.inl ⟨by rfl, ?_⟩) ?_ ?_
 rotate_left
 ·intro w'
  go_simp
  with_reducible rfl
 rotate_left
 ·simp only [Act.put, sp_, i64_w, i32_w]
  rfl
 refine pure_ (i := 46) (N := some 106) (v := ?_) (a' := ?_) #[Y,Y,Y,Y,Y,Y,Y,Y,Y,Y,Y,Y,Y,Y,Y,Y,Y,Y,Y,Y,Y,Y,Y,Y,Y,Y,Y,Y,Y,Y,Y,Y,Y,Y,Y,Y,Y,Y,Y,Y,Y,Y,Y,Y,Y,Y,Y,N,N,N,N,N,N,N,N,N,N,N,N,N,N,N,N,N,N,N,N,N,N,N,N,N,N,N] rfl rfl (any_of HT_.out r6_) (fun _ _ _ h => h) (Or.inl ⟨by rfl, ?_⟩) ?_ ?_
 rotate_left
 ·intro w'
  go_simp
  with_reducible rfl
 rotate_left
 ·simp only [Act.put, sp_, i64_w, i32_w]
  rfl
 refine pure_ (i := 47) (N := some 107) (v := ?_) (a' := ?_) #[Y,Y,Y,Y,Y,Y,Y,Y,Y,Y,Y,Y,Y,Y,Y,Y,Y,Y,Y,Y,Y,Y,Y,Y,Y,Y,Y,Y,Y,Y,Y,Y,Y,Y,Y,Y,Y,Y,Y,Y,Y,Y,Y,Y,Y,Y,Y,Y,N,N,N,N,N,N,N,N,N,N,N,N,N,N,N,N,N,N,N,N,N,N,N,N,N,N] rfl rfl (any_of HT_.out r6_) (fun _ _ _ h => h) (Or.inl ⟨by rfl, ?_⟩) ?_ ?_
 rotate_left
 ·intro w'
  go_simp
  with_reducible rfl
 rotate_left
 ·simp only [Act.put, sp_, i64_w, i32_w]
  rfl
 refine pure_ (i := 48) (N := some 108) (v := ?_) (a' := ?_) #[Y,Y,Y,Y,Y,Y,Y,Y,Y,Y,Y,Y,Y,Y,Y,Y,Y,Y,Y,Y,Y,Y,Y,Y,Y,Y,Y,Y,Y,Y,Y,Y,Y,Y,Y,Y,Y,Y,Y,Y,Y,Y,Y,Y,Y,Y,Y,Y,Y,N,N,N,N,N,N,N,N,N,N,N,N,N,N,N,N,N,N,N,N,N,N,N,N,N] rfl rfl (any_of HT_.out r6_) (fun _ _ _ h => h) (Or.inl ⟨by rfl, ?_⟩) ?_ ?_
 rotate_left
 ·intro w'
  go_simp
  with_reducible rfl
 rotate_left
 ·simp only [Act.put, sp_, i64_w, i32_w]
  rfl
 refine pure_ (i := 49) (N := some 109) (v := ?_) (a' := ?_) #[Y,Y,Y,Y,Y,Y,Y,Y,Y,Y,Y,Y,Y,Y,Y,Y,Y,Y,Y,Y,Y,Y,Y,Y,Y,Y,Y,Y,Y,Y,Y,Y,Y,Y,Y,Y,Y,Y,Y,Y,Y,Y,Y,Y,Y,Y,Y,Y,Y,Y,N,N,N,N,N,N,N,N,N,N,N,N,N,N,N,N,N,N,N,N,N,N,N,N] rfl rfl (any_of HT_.out r6_) (fun _ _ _ h => h) (Or.inl ⟨by rfl, ?_⟩) ?_ ?_
 rotate_left
 ·intro w'
  go_simp
  with_reducible rfl
 rotate_left
 ·simp only [Act.put, sp_, i64_w, i32_w]
  rfl
 refine pure_ (i := 50) (N := some 110) (v := ?_) (a' := ?_) #[Y,Y,Y,Y,Y,Y,Y,Y,Y,Y,Y,Y,Y,Y,Y,Y,Y,Y,Y,Y,Y,Y,Y,Y,Y,Y,Y,Y,Y,Y,Y,Y,Y,Y,Y,Y,Y,Y,Y,Y,Y,Y,Y,Y,Y,Y,Y,Y,Y,Y,Y,N,N,N,N,N,N,N,N,N,N,N,N,N,N,N,N,N,N,N,N,N,N,N] rfl rfl (any_of HT_.out r6_) (fun _ _ _ h => h) (Or.inl ⟨by rfl, ?_⟩) ?_ ?_
 rotate_left
 ·intro w'
  go_simp
  with_reducible rfl
 rotate_left
 ·simp only [Act.put, sp_, i64_w, i32_w]
  rfl
 refine pure_ (i := 51) (N := some 111) (v := ?_) (a' := ?_) #[Y,Y,Y,Y,Y,Y,Y,Y,Y,Y,Y,Y,Y,Y,Y,Y,Y,Y,Y,Y,Y,Y,Y,Y,Y,Y,Y,Y,Y,Y,Y,Y,Y,Y,Y,Y,Y,Y,Y,Y,Y,Y,Y,Y,Y,Y,Y,Y,Y,Y,Y,Y,N,N,N,N,N,N,N,N,N,N,N,N,N,N,N,N,N,N,N,N,N,N] rfl rfl (any_of HT_.out r6_) (fun _ _ _ h => h) (Or.inl ⟨by rfl, ?_⟩) ?_ ?_
 rotate_left
 ·intro w'
  go_simp
  with_reducible rfl
 rotate_left
 ·simp only [Act.put, sp_, i64_w, i32_w]
  rfl
 refine pure_ (i := 52) (N := some 112) (v := ?_) (a' := ?_) #[Y,Y,Y,Y,Y,Y,Y,Y,Y,Y,Y,Y,Y,Y,Y,Y,Y,Y,Y,Y,Y,Y,Y,Y,Y,Y,Y,Y,Y,Y,Y,Y,Y,Y,Y,Y,Y,Y,Y,Y,Y,Y,Y,Y,Y,Y,Y,Y,Y,Y,Y,Y,Y,N,N,N,N,N,N,N,N,N,N,N,N,N,N,N,N,N,N,N,N,N] rfl rfl (any_of HT_.out r6_) (fun _ _ _ h => h) (Or.inl ⟨by rfl, ?_⟩) ?_ ?_
 rotate_left
 ·intro w'
  go_simp
  with_reducible rfl
 rotate_left
 ·simp only [Act.put, sp_, i64_w, i32_w]
  rfl
 refine pure_ (i := 53) (N := some 113) (v := ?_) (a' := ?_) #[Y,Y,Y,Y,Y,Y,Y,Y,Y,Y,Y,Y,Y,Y,Y,Y,Y,Y,Y,Y,Y,Y,Y,Y,Y,Y,Y,Y,Y,Y,Y,Y,Y,Y,Y,Y,Y,Y,Y,Y,Y,Y,Y,Y,Y,Y,Y,Y,Y,Y,Y,Y,Y,Y,N,N,N,N,N,N,N,N,N,N,N,N,N,N,N,N,N,N,N,N] rfl rfl (any_of HT_.out r6_) (fun _ _ _ h => h) (Or.inl ⟨by rfl, ?_⟩) ?_ ?_
 rotate_left
 ·intro w'
  go_simp
  with_reducible rfl
 rotate_left
 ·simp only [Act.put, sp_, i64_w, i32_w]
  rfl
 refine pure_ (i := 54) (N := some 114) (v := ?_) (a' := ?_) #[Y,Y,Y,Y,Y,Y,Y,Y,Y,Y,Y,Y,Y,Y,Y,Y,Y,Y,Y,Y,Y,Y,Y,Y,Y,Y,Y,Y,Y,Y,Y,Y,Y,Y,Y,Y,Y,Y,Y,Y,Y,Y,Y,Y,Y,Y,Y,Y,Y,Y,Y,Y,Y,Y,Y,N,N,N,N,N,N,N,N,N,N,N,N,N,N,N,N,N,N,N] rfl rfl (any_of HT_.out r6_) (fun _ _ _ h => h) (Or.inl ⟨by rfl, ?_⟩) ?_ ?_
 rotate_left
 ·intro w'
  go_simp
  with_reducible rfl
 rotate_left
 ·simp only [Act.put, sp_, i64_w, i32_w]
  rfl
 refine pure_ (i := 55) (N := some 115) (v := ?_) (a' := ?_) #[Y,Y,Y,Y,Y,Y,Y,Y,Y,Y,Y,Y,Y,Y,Y,Y,Y,Y,Y,Y,Y,Y,Y,Y,Y,Y,Y,Y,Y,Y,Y,Y,Y,Y,Y,Y,Y,Y,Y,Y,Y,Y,Y,Y,Y,Y,Y,Y,Y,Y,Y,Y,Y,Y,Y,Y,N,N,N,N,N,N,N,N,N,N,N,N,N,N,N,N,N,N] rfl rfl (any_of HT_.out r6_) (fun _ _ _ h => h) (Or.inl ⟨by rfl, ?_⟩) ?_ ?_
 rotate_left
 ·intro w'
  go_simp
  with_reducible rfl
 rotate_left
 ·simp only [Act.put, sp_, i64_w, i32_w]
  rfl
 refine pure_ (i := 56) (N := some 116) (v := ?_) (a' := ?_) #[Y,Y,Y,Y,Y,Y,Y,Y,Y,Y,Y,Y,Y,Y,Y,Y,Y,Y,Y,Y,Y,Y,Y,Y,Y,Y,Y,Y,Y,Y,Y,Y,Y,Y,Y,Y,Y,Y,Y,Y,Y,Y,Y,Y,Y,Y,Y,Y,Y,Y,Y,Y,Y,Y,Y,Y,Y,N,N,N,N,N,N,N,N,N,N,N,N,N,N,N,N,N] rfl rfl (any_of HT_.out r6_) (fun _ _ _ h => h) (Or.inl ⟨by rfl, ?_⟩) ?_ ?_
 rotate_left
 ·intro w'
  go_simp
  with_reducible rfl
 rotate_left
 ·simp only [Act.put, sp_, i64_w, i32_w]
  rfl
 refine pure_ (i := 57) (N := some 117) (v := ?_) (a' := ?_) #[Y,Y,Y,Y,Y,Y,Y,Y,Y,Y,Y,Y,Y,Y,Y,Y,Y,Y,Y,Y,Y,Y,Y,Y,Y,Y,Y,Y,Y,Y,Y,Y,Y,Y,Y,Y,Y,Y,Y,Y,Y,Y,Y,Y,Y,Y,Y,Y,Y,Y,Y,Y,Y,Y,Y,Y,Y,Y,N,N,N,N,N,N,N,N,N,N,N,N,N,N,N,N] rfl rfl (any_of HT_.out r6_) (fun _ _ _ h => h) (Or.inl ⟨by rfl, ?_⟩) ?_ ?_
 rotate_left
 ·intro w'
  go_simp
  with_reducible rfl
 rotate_left
 ·simp only [Act.put, sp_, i64_w, i32_w]
  rfl
 refine pure_ (i := 58) (N := some 118) (v := ?_) (a' := ?_) #[Y,Y,Y,Y,Y,Y,Y,Y,Y,Y,Y,Y,Y,Y,Y,Y,Y,Y,Y,Y,Y,Y,Y,Y,Y,Y,Y,Y,Y,Y,Y,Y,Y,Y,Y,Y,Y,Y,Y,Y,Y,Y,Y,Y,Y,Y,Y,Y,Y,Y,Y,Y,Y,Y,Y,Y,Y,Y,Y,N,N,N,N,N,N,N,N,N,N,N,N,N,N,N] rfl rfl (any_of HT_.out r6_) (fun _ _ _ h => h) (Or.inl ⟨by rfl, ?_⟩) ?_ ?_
 rotate_left
 ·intro w'
  go_simp
  with_reducible rfl
 rotate_left
 ·simp only [Act.put, sp_, i64_w, i32_w]
  rfl
 refine pure_ (i := 59) (N := some 119) (v := ?_) (a' := ?_) #[Y,Y,Y,Y,Y,Y,Y,Y,Y,Y,Y,Y,Y,Y,Y,Y,Y,Y,Y,Y,Y,Y,Y,Y,Y,Y,Y,Y,Y,Y,Y,Y,Y,Y,Y,Y,Y,Y,Y,Y,Y,Y,Y,Y,Y,Y,Y,Y,Y,Y,Y,Y,Y,Y,Y,Y,Y,Y,Y,Y,N,N,N,N,N,N,N,N,N,N,N,N,N,N] rfl rfl (any_of HT_.out r6_) (fun _ _ _ h => h) (Or.inl ⟨by rfl, ?_⟩) ?_ ?_
 rotate_left
 ·intro w'
  go_simp
  with_reducible rfl
 rotate_left
 ·simp only [Act.put, sp_, i64_w, i32_w]
  rfl
 refine pure_ (i := 60) (N := some 120) (v := ?_) (a' := ?_) #[Y,Y,Y,Y,Y,Y,Y,Y,Y,Y,Y,Y,Y,Y,Y,Y,Y,Y,Y,Y,Y,Y,Y,Y,Y,Y,Y,Y,Y,Y,Y,Y,Y,Y,Y,Y,Y,Y,Y,Y,Y,Y,Y,Y,Y,Y,Y,Y,Y,Y,Y,Y,Y,Y,Y,Y,Y,Y,Y,Y,Y,N,N,N,N,N,N,N,N,N,N,N,N,N] rfl rfl (any_of HT_.out r6_) (fun _ _ _ h => h) (Or.inl ⟨by rfl, ?_⟩) ?_ ?_
 rotate_left
 ·intro w'
  go_simp
  with_reducible rfl
 rotate_left
 ·simp only [Act.put, sp_, i64_w, i32_w]
  rfl
 refine pure_ (i := 61) (N := some 121) (v := ?_) (a' := ?_) #[Y,Y,Y,Y,Y,Y,Y,Y,Y,Y,Y,Y,Y,Y,Y,Y,Y,Y,Y,Y,Y,Y,Y,Y,Y,Y,Y,Y,Y,Y,Y,Y,Y,Y,Y,Y,Y,Y,Y,Y,Y,Y,Y,Y,Y,Y,Y,Y,Y,Y,Y,Y,Y,Y,Y,Y,Y,Y,Y,Y,Y,Y,N,N,N,N,N,N,N,N,N,N,N,N] rfl rfl (any_of HT_.out r6_) (fun _ _ _ h => h) (Or.inl ⟨by rfl, ?_⟩) ?_ ?_
 rotate_left
 ·intro w'
  go_simp
  with_reducible rfl
 rotate_left
 ·simp only [Act.put, sp_, i64_w, i32_w]
  rfl
 refine pure_ (i := 62) (N := some 122) (v := ?_) (a' := ?_) #[Y,Y,Y,Y,Y,Y,Y,Y,Y,Y,Y,Y,Y,Y,Y,Y,Y,Y,Y,Y,Y,Y,Y,Y,Y,Y,Y,Y,Y,Y,Y,Y,Y,Y,Y,Y,Y,Y,Y,Y,Y,Y,Y,Y,Y,Y,Y,Y,Y,Y,Y,Y,Y,Y,Y,Y,Y,Y,Y,Y,Y,Y,Y,N,N,N,N,N,N,N,N,N,N,N] rfl rfl (any_of HT_.out r6_) (fun _ _ _ h => h) (Or.inl ⟨by rfl, ?_⟩) ?_ ?_
 rotate_left
 ·intro w'
  go_simp
  with_reducible rfl
 rotate_left
 ·simp only [Act.put, sp_, i64_w, i32_w]
  rfl
 refine pure_ (i := 63) (N := some 123) (v := ?_) (a' := ?_) #[Y,Y,Y,Y,Y,Y,Y,Y,Y,Y,Y,Y,Y,Y,Y,Y,Y,Y,Y,Y,Y,Y,Y,Y,Y,Y,Y,Y,Y,Y,Y,Y,Y,Y,Y,Y,Y,Y,Y,Y,Y,Y,Y,Y,Y,Y,Y,Y,Y,Y,Y,Y,Y,Y,Y,Y,Y,Y,Y,Y,Y,Y,Y,Y,N,N,N,N,N,N,N,N,N,N] rfl rfl (any_of HT_.out r6_) (fun _ _ _ h => h) (Or.inl ⟨by rfl, ?_⟩) ?_ ?_
 rotate_left
 ·intro w'
  go_simp
  with_reducible rfl
 rotate_left
 ·simp only [Act.put, sp_, i64_w, i32_w]
  rfl
 refine pure_ (i := 64) (N := some 124) (v := ?_) (a' := ?_) #[Y,Y,Y,Y,Y,Y,Y,Y,Y,Y,Y,Y,Y,Y,Y,Y,Y,Y,Y,Y,Y,Y,Y,Y,Y,Y,Y,Y,Y,Y,Y,Y,Y,Y,Y,Y,Y,Y,Y,Y,Y,Y,Y,Y,Y,Y,Y,Y,Y,Y,Y,Y,Y,Y,Y,Y,Y,Y,Y,Y,Y,Y,Y,Y,Y,N,N,N,N,N,N,N,N,N] rfl rfl (any_of HT_.out r6_) (fun _ _ _ h => h) (Or.inl ⟨by rfl, ?_⟩) ?_ ?_
 rotate_left
 ·intro w'
  go_simp
  with_reducible rfl
 rotate_left
 ·simp only [Act.put, sp_, i64_w, i32_w]
  rfl
 refine pure_ (i := 65) (N := some 125) (v := ?_) (a' := ?_) #[Y,Y,Y,Y,Y,Y,Y,Y,Y,Y,Y,Y,Y,Y,Y,Y,Y,Y,Y,Y,Y,Y,Y,Y,Y,Y,Y,Y,Y,Y,Y,Y,Y,Y,Y,Y,Y,Y,Y,Y,Y,Y,Y,Y,Y,Y,Y,Y,Y,Y,Y,Y,Y,Y,Y,Y,Y,Y,Y,Y,Y,Y,Y,Y,Y,Y,N,N,N,N,N,N,N,N] rfl rfl (any_of HT_.out r6_) (fun _ _ _ h => h) (Or.inl ⟨by rfl, ?_⟩) ?_ ?_
 rotate_left
 ·intro w'
  go_simp
  with_reducible rfl
 rotate_left
 ·simp only [Act.put, sp_, i64_w, i32_w]
  rfl
 refine pure_ (i := 66) (N := some 126) (v := ?_) (a' := ?_) #[Y,Y,Y,Y,Y,Y,Y,Y,Y,Y,Y,Y,Y,Y,Y,Y,Y,Y,Y,Y,Y,Y,Y,Y,Y,Y,Y,Y,Y,Y,Y,Y,Y,Y,Y,Y,Y,Y,Y,Y,Y,Y,Y,Y,Y,Y,Y,Y,Y,Y,Y,Y,Y,Y,Y,Y,Y,Y,Y,Y,Y,Y,Y,Y,Y,Y,Y,N,N,N,N,N,N,N] rfl rfl (any_of HT_.out r6_) (fun _ _ _ h => h) (Or.inl ⟨by rfl, ?_⟩) ?_ ?_
 rotate_left
 ·intro w'
  go_simp
  with_reducible rfl
 rotate_left
 ·simp only [Act.put, sp_, i64_w, i32_w]
  rfl
 refine pure_ (i := 67) (N := some 127) (v := ?_) (a' := ?_) #[Y,Y,Y,Y,Y,Y,Y,Y,Y,Y,Y,Y,Y,Y,Y,Y,Y,Y,Y,Y,Y,Y,Y,Y,Y,Y,Y,Y,Y,Y,Y,Y,Y,Y,Y,Y,Y,Y,Y,Y,Y,Y,Y,Y,Y,Y,Y,Y,Y,Y,Y,Y,Y,Y,Y,Y,Y,Y,Y,Y,Y,Y,Y,Y,Y,Y,Y,Y,N,N,N,N,N,N] rfl rfl (any_of HT_.out r6_) (fun _ _ _ h => h) (Or.inl ⟨by rfl, ?_⟩) ?_ ?_
 rotate_left
 ·intro w'
  go_simp
  with_reducible rfl
 rotate_left
 ·simp only [Act.put, sp_, i64_w, i32_w]
  rfl
 refine pure_ (i := 68) (N := some 128) (v := ?_) (a' := ?_) #[Y,Y,Y,Y,Y,Y,Y,Y,Y,Y,Y,Y,Y,Y,Y,Y,Y,Y,Y,Y,Y,Y,Y,Y,Y,Y,Y,Y,Y,Y,Y,Y,Y,Y,Y,Y,Y,Y,Y,Y,Y,Y,Y,Y,Y,Y,Y,Y,Y,Y,Y,Y,Y,Y,Y,Y,Y,Y,Y,Y,Y,Y,Y,Y,Y,Y,Y,Y,Y,N,N,N,N,N] rfl rfl (any_of HT_.out r6_) (fun _ _ _ h => h) (Or.inl ⟨by rfl, ?_⟩) ?_ ?_
 rotate_left
 ·intro w'
  go_simp
  with_reducible rfl
 rotate_left
 ·simp only [Act.put, sp_, i64_w, i32_w]
  rfl
 refine pure_ (i := 69) (N := some 129) (v := ?_) (a' := ?_) #[Y,Y,Y,Y,Y,Y,Y,Y,Y,Y,Y,Y,Y,Y,Y,Y,Y,Y,Y,Y,Y,Y,Y,Y,Y,Y,Y,Y,Y,Y,Y,Y,Y,Y,Y,Y,Y,Y,Y,Y,Y,Y,Y,Y,Y,Y,Y,Y,Y,Y,Y,Y,Y,Y,Y,Y,Y,Y,Y,Y,Y,Y,Y,Y,Y,Y,Y,Y,Y,Y,N,N,N,N] rfl rfl (any_of HT_.out r6_) (fun _ _ _ h => h) (Or.inl ⟨by rfl, ?_⟩) ?_ ?_
 rotate_left
 ·intro w'
  go_simp
  with_reducible rfl
 rotate_left
 ·simp only [Act.put, sp_, i64_w, i32_w]
  rfl
 refine pure_ (i := 70) (N := some 130) (v := ?_) (a' := ?_) #[Y,Y,Y,Y,Y,Y,Y,Y,Y,Y,Y,Y,Y,Y,Y,Y,Y,Y,Y,Y,Y,Y,Y,Y,Y,Y,Y,Y,Y,Y,Y,Y,Y,Y,Y,Y,Y,Y,Y,Y,Y,Y,Y,Y,Y,Y,Y,Y,Y,Y,Y,Y,Y,Y,Y,Y,Y,Y,Y,Y,Y,Y,Y,Y,Y,Y,Y,Y,Y,Y,Y,N,N,N] rfl rfl (any_of HT_.out r6_) (fun _ _ _ h => h) (Or.inl ⟨by rfl, ?_⟩) ?_ ?_
 rotate_left
 ·intro w'
  go_simp
  with_reducible rfl
 rotate_left
 ·simp only [Act.put, sp_, i64_w, i32_w]
  rfl
 refine pure_ (i := 71) (N := some 131) (v := ?_) (a' := ?_) #[Y,Y,Y,Y,Y,Y,Y,Y,Y,Y,Y,Y,Y,Y,Y,Y,Y,Y,Y,Y,Y,Y,Y,Y,Y,Y,Y,Y,Y,Y,Y,Y,Y,Y,Y,Y,Y,Y,Y,Y,Y,Y,Y,Y,Y,Y,Y,Y,Y,Y,Y,Y,Y,Y,Y,Y,Y,Y,Y,Y,Y,Y,Y,Y,Y,Y,Y,Y,Y,Y,Y,Y,N,N] rfl rfl (any_of HT_.out r6_) (fun _ _ _ h => h) (Or.inl ⟨by rfl, ?_⟩) ?_ ?_
 rotate_left
 ·intro w'
  go_simp
  with_reducible rfl
 rotate_left
 ·simp only [Act.put, sp_, i64_w, i32_w]
  rfl
 refine pure_ (i := 72) (N := some 132) (v := ?_) (a' := ?_) #[Y,Y,Y,Y,Y,Y,Y,Y,Y,Y,Y,Y,Y,Y,Y,Y,Y,Y,Y,Y,Y,Y,Y,Y,Y,Y,Y,Y,Y,Y,Y,Y,Y,Y,Y,Y,Y,Y,Y,Y,Y,Y,Y,Y,Y,Y,Y,Y,Y,Y,Y,Y,Y,Y,Y,Y,Y,Y,Y,Y,Y,Y,Y,Y,Y,Y,Y,Y,Y,Y,Y,Y,Y,N] rfl rfl (any_of HT_.out r6_) (fun _ _ _ h => h) (Or.inl ⟨by rfl, ?_⟩) ?_ ?_
 rotate_left
 ·intro w'
  go_simp
  with_reducible rfl
 rotate_left
 ·simp only [Act.put, sp_, i64_w, i32_w]
  rfl
 refine pure_ (i := 73) (N := some 0) (v := ?_) (a' := ?_) #[Y,Y,Y,Y,Y,Y,Y,Y,Y,Y,Y,Y,Y,Y,Y,Y,Y,Y,Y,Y,Y,Y,Y,Y,Y,Y,Y,Y,Y,Y,Y,Y,Y,Y,Y,Y,Y,Y,Y,Y,Y,Y,Y,Y,Y,Y,Y,Y,Y,Y,Y,Y,Y,Y,Y,Y,Y,Y,Y,Y,Y,Y,Y,Y,Y,Y,Y,Y,Y,Y,Y,Y,Y,Y] rfl rfl (any_of HT_.out r6_) (fun _ _ _ h => h) (Or.inl ⟨by rfl, ?_⟩) ?_ ?_
 rotate_left
 ·intro w'
  go_simp
  with_reducible rfl
 rotate_left
 ·simp only [Act.put, sp_, i64_w, i32_w]
  rfl
 refine done_ (done_of HT_.out r6_) ?_
 (try clear hHeld)
 try go_wp2
 go_ret
 exact ⟨rf_, hB_⟩

end Go.Proofs.Ytcdadhgcjkgnoaa.P
