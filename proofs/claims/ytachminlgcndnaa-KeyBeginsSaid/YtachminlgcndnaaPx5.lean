-- Printed by a program of this session's own (wip/tools/pprint.sh, over the kit's print, with given contracts): not typed by hand.
import Derived.Test.YtachminlgcndnaaPx0
import Derived.Test.YtachminlgcndnaaPx1
import Derived.Test.YtachminlgcndnaaPx3
import Derived.Test.YtachminlgcndnaaPx4
namespace Go.Proofs.Ytachminlgcndnaa.P
open Go.RowKit Go.Proofs.YtachminlgcndnaaW.PrintWords Go.Proofs.YtachminlgcndnaaW.PrintLast Go.Proofs.YtachminlgcndnaaW.PrintMore
attribute [local go_sem] max2_int min2_int max_two min_two max_three min_three max_four min_four   -- for this text's walks alone
set_option linter.unusedVariables false
set_option linter.unusedSimpArgs false

attribute [local go_sem high] eqA24
/-! ### screelaw02_awake: function 10 -/
def screelaw02_awake.f (k : Nat)  : Option (Bool) := (key_Make.f k 2 (⟨#[97]⟩ : ByteArray) 300).bind fun bt131 => ((key_Read.f k bt131.1).bind fun bt133 => ((key_Escape.f (⟨#[97, 0, 98]⟩ : ByteArray)).bind fun bt138 => (if bt138.1.size + 2 ≤ 9223372036854775807 then ((key_Unescape.f (bt138.1 ++ (⟨#[122, 122]⟩ : ByteArray))).bind fun bt140 => ((key_Make.f k 9 (⟨#[97]⟩ : ByteArray) 0).bind fun bt143 => ((key_First.f 1 (⟨#[97]⟩ : ByteArray)).bind fun bt145 => ((key_Behind.f 1 (⟨#[97]⟩ : ByteArray)).bind fun bt147 => ((key_Family.f 3).bind fun bt149 => (if bt131.1.toList = ([2, 97, 0, 1, 255, 255, 255, 255, 255, 255, 254, 211] : List UInt8) then (if bt131.2 = 0 then (if (bt133.1 == 2 && (bt133.2.1.toList == ([97] : List UInt8) && (bt133.2.2.1 == 300))) = true then (if bt133.2.2.2 = 0 then (if bt138.1.toList = ([97, 0, 255, 98, 0, 1] : List UInt8) then (if bt138.2 = 0 then (if bt140.1.toList = ([97, 0, 98] : List UInt8) then (if bt140.2.1.toList = ([122, 122] : List UInt8) then (if bt140.2.2 = 0 then (if bt143.2 = 1 then (if bt145.1.toList = ([1, 97, 0, 1] : List UInt8) then (if bt145.2 = 0 then (if bt147.1.toList = ([1, 97, 0, 2] : List UInt8) then (if bt147.2 = 0 then (if bt149.1.toList = ([3] : List UInt8) then (if bt149.2.1.toList = ([4] : List UInt8) then (if bt149.2.2 = 0 then ((key_May.f (⟨#[97]⟩ : ByteArray)).bind fun t152 => (if t152 = true then ((key_May.f (⟨#[]⟩ : ByteArray)).bind fun t153 => (some (!t153))) else (none))) else (none)) else (none)) else (none)) else (none)) else (none)) else (none)) else (none)) else (none)) else (none)) else (none)) else (none)) else (none)) else (none)) else (none)) else (none)) else (none)) else (none))))))) else (none))))
theorem screelaw02_awake.mono : ∀ k, LeO (screelaw02_awake.f k ) (screelaw02_awake.f (k + 1) ) := by
  intro  k
  unfold screelaw02_awake.f
  repeat' first
      | (with_reducible exact key_Make.mono _ _ _ _)
      | (with_reducible exact key_Read.mono _ _)
      | (with_reducible exact LeO.refl _)
      | (with_reducible exact LeO.none _)
      | (with_reducible refine LeO.ite ?_ ?_)
      | (with_reducible refine LeO.bind ?_ (fun _ => ?_))
      | exact key_Make.mono _ _ _ _
      | exact key_Read.mono _ _
      | exact LeO.none _
      | refine LeO.ite ?_ ?_
      | refine LeO.bind ?_ (fun _ => ?_)
set_option maxHeartbeats 8000000 in
set_option maxRecDepth 100000 in
theorem screelaw02_awake.calls (k : Nat)  (r : Bool) (w : World) (h : screelaw02_awake.f k  = some r) :
    Calls Try.prog 10 #[] w fun e w' => e = .returned (.bool r) ∧ Below w.heap.size w w' := by
  have hu24 := Try.underlying24
  have HB := Aside0.mk (Below.refl w.heap.size w)
  have H : ((key_Make.f k 2 (⟨#[97]⟩ : ByteArray) 300).bind fun bt131 => ((key_Read.f k bt131.1).bind fun bt133 => ((key_Escape.f (⟨#[97, 0, 98]⟩ : ByteArray)).bind fun bt138 => (if bt138.1.size + 2 ≤ 9223372036854775807 then ((key_Unescape.f (bt138.1 ++ (⟨#[122, 122]⟩ : ByteArray))).bind fun bt140 => ((key_Make.f k 9 (⟨#[97]⟩ : ByteArray) 0).bind fun bt143 => ((key_First.f 1 (⟨#[97]⟩ : ByteArray)).bind fun bt145 => ((key_Behind.f 1 (⟨#[97]⟩ : ByteArray)).bind fun bt147 => ((key_Family.f 3).bind fun bt149 => (if bt131.1.toList = ([2, 97, 0, 1, 255, 255, 255, 255, 255, 255, 254, 211] : List UInt8) then (if bt131.2 = 0 then (if (bt133.1 == 2 && (bt133.2.1.toList == ([97] : List UInt8) && (bt133.2.2.1 == 300))) = true then (if bt133.2.2.2 = 0 then (if bt138.1.toList = ([97, 0, 255, 98, 0, 1] : List UInt8) then (if bt138.2 = 0 then (if bt140.1.toList = ([97, 0, 98] : List UInt8) then (if bt140.2.1.toList = ([122, 122] : List UInt8) then (if bt140.2.2 = 0 then (if bt143.2 = 1 then (if bt145.1.toList = ([1, 97, 0, 1] : List UInt8) then (if bt145.2 = 0 then (if bt147.1.toList = ([1, 97, 0, 2] : List UInt8) then (if bt147.2 = 0 then (if bt149.1.toList = ([3] : List UInt8) then (if bt149.2.1.toList = ([4] : List UInt8) then (if bt149.2.2 = 0 then ((key_May.f (⟨#[97]⟩ : ByteArray)).bind fun t152 => (if t152 = true then ((key_May.f (⟨#[]⟩ : ByteArray)).bind fun t153 => (some (!t153))) else (none))) else (none)) else (none)) else (none)) else (none)) else (none)) else (none)) else (none)) else (none)) else (none)) else (none)) else (none)) else (none)) else (none)) else (none)) else (none)) else (none)) else (none))))))) else (none))))) = some r := h
  clear h
  replace H := Option.bind_eq_some_iff.mp H
  obtain ⟨⟨t131, t132⟩, A10, H⟩ := H
  replace H : ((key_Read.f k t131).bind fun bt133 => ((key_Escape.f (⟨#[97, 0, 98]⟩ : ByteArray)).bind fun bt138 => (if bt138.1.size + 2 ≤ 9223372036854775807 then ((key_Unescape.f (bt138.1 ++ (⟨#[122, 122]⟩ : ByteArray))).bind fun bt140 => ((key_Make.f k 9 (⟨#[97]⟩ : ByteArray) 0).bind fun bt143 => ((key_First.f 1 (⟨#[97]⟩ : ByteArray)).bind fun bt145 => ((key_Behind.f 1 (⟨#[97]⟩ : ByteArray)).bind fun bt147 => ((key_Family.f 3).bind fun bt149 => (if t131.toList = ([2, 97, 0, 1, 255, 255, 255, 255, 255, 255, 254, 211] : List UInt8) then (if t132 = 0 then (if (bt133.1 == 2 && (bt133.2.1.toList == ([97] : List UInt8) && (bt133.2.2.1 == 300))) = true then (if bt133.2.2.2 = 0 then (if bt138.1.toList = ([97, 0, 255, 98, 0, 1] : List UInt8) then (if bt138.2 = 0 then (if bt140.1.toList = ([97, 0, 98] : List UInt8) then (if bt140.2.1.toList = ([122, 122] : List UInt8) then (if bt140.2.2 = 0 then (if bt143.2 = 1 then (if bt145.1.toList = ([1, 97, 0, 1] : List UInt8) then (if bt145.2 = 0 then (if bt147.1.toList = ([1, 97, 0, 2] : List UInt8) then (if bt147.2 = 0 then (if bt149.1.toList = ([3] : List UInt8) then (if bt149.2.1.toList = ([4] : List UInt8) then (if bt149.2.2 = 0 then ((key_May.f (⟨#[97]⟩ : ByteArray)).bind fun t152 => (if t152 = true then ((key_May.f (⟨#[]⟩ : ByteArray)).bind fun t153 => (some (!t153))) else (none))) else (none)) else (none)) else (none)) else (none)) else (none)) else (none)) else (none)) else (none)) else (none)) else (none)) else (none)) else (none)) else (none)) else (none)) else (none)) else (none)) else (none))))))) else (none)))) = some r := H
  have A1 := Aside0.mk A10
  clear A10
  replace H := Option.bind_eq_some_iff.mp H
  obtain ⟨⟨t133, t134, t135, t136⟩, A20, H⟩ := H
  replace H : ((key_Escape.f (⟨#[97, 0, 98]⟩ : ByteArray)).bind fun bt138 => (if bt138.1.size + 2 ≤ 9223372036854775807 then ((key_Unescape.f (bt138.1 ++ (⟨#[122, 122]⟩ : ByteArray))).bind fun bt140 => ((key_Make.f k 9 (⟨#[97]⟩ : ByteArray) 0).bind fun bt143 => ((key_First.f 1 (⟨#[97]⟩ : ByteArray)).bind fun bt145 => ((key_Behind.f 1 (⟨#[97]⟩ : ByteArray)).bind fun bt147 => ((key_Family.f 3).bind fun bt149 => (if t131.toList = ([2, 97, 0, 1, 255, 255, 255, 255, 255, 255, 254, 211] : List UInt8) then (if t132 = 0 then (if (t133 == 2 && (t134.toList == ([97] : List UInt8) && (t135 == 300))) = true then (if t136 = 0 then (if bt138.1.toList = ([97, 0, 255, 98, 0, 1] : List UInt8) then (if bt138.2 = 0 then (if bt140.1.toList = ([97, 0, 98] : List UInt8) then (if bt140.2.1.toList = ([122, 122] : List UInt8) then (if bt140.2.2 = 0 then (if bt143.2 = 1 then (if bt145.1.toList = ([1, 97, 0, 1] : List UInt8) then (if bt145.2 = 0 then (if bt147.1.toList = ([1, 97, 0, 2] : List UInt8) then (if bt147.2 = 0 then (if bt149.1.toList = ([3] : List UInt8) then (if bt149.2.1.toList = ([4] : List UInt8) then (if bt149.2.2 = 0 then ((key_May.f (⟨#[97]⟩ : ByteArray)).bind fun t152 => (if t152 = true then ((key_May.f (⟨#[]⟩ : ByteArray)).bind fun t153 => (some (!t153))) else (none))) else (none)) else (none)) else (none)) else (none)) else (none)) else (none)) else (none)) else (none)) else (none)) else (none)) else (none)) else (none)) else (none)) else (none)) else (none)) else (none)) else (none))))))) else (none))) = some r := H
  have A2 := Aside0.mk A20
  clear A20
  replace H := Option.bind_eq_some_iff.mp H
  obtain ⟨⟨t138, t139⟩, A30, H⟩ := H
  replace H : (if t138.size + 2 ≤ 9223372036854775807 then ((key_Unescape.f (t138 ++ (⟨#[122, 122]⟩ : ByteArray))).bind fun bt140 => ((key_Make.f k 9 (⟨#[97]⟩ : ByteArray) 0).bind fun bt143 => ((key_First.f 1 (⟨#[97]⟩ : ByteArray)).bind fun bt145 => ((key_Behind.f 1 (⟨#[97]⟩ : ByteArray)).bind fun bt147 => ((key_Family.f 3).bind fun bt149 => (if t131.toList = ([2, 97, 0, 1, 255, 255, 255, 255, 255, 255, 254, 211] : List UInt8) then (if t132 = 0 then (if (t133 == 2 && (t134.toList == ([97] : List UInt8) && (t135 == 300))) = true then (if t136 = 0 then (if t138.toList = ([97, 0, 255, 98, 0, 1] : List UInt8) then (if t139 = 0 then (if bt140.1.toList = ([97, 0, 98] : List UInt8) then (if bt140.2.1.toList = ([122, 122] : List UInt8) then (if bt140.2.2 = 0 then (if bt143.2 = 1 then (if bt145.1.toList = ([1, 97, 0, 1] : List UInt8) then (if bt145.2 = 0 then (if bt147.1.toList = ([1, 97, 0, 2] : List UInt8) then (if bt147.2 = 0 then (if bt149.1.toList = ([3] : List UInt8) then (if bt149.2.1.toList = ([4] : List UInt8) then (if bt149.2.2 = 0 then ((key_May.f (⟨#[97]⟩ : ByteArray)).bind fun t152 => (if t152 = true then ((key_May.f (⟨#[]⟩ : ByteArray)).bind fun t153 => (some (!t153))) else (none))) else (none)) else (none)) else (none)) else (none)) else (none)) else (none)) else (none)) else (none)) else (none)) else (none)) else (none)) else (none)) else (none)) else (none)) else (none)) else (none)) else (none))))))) else (none)) = some r := H
  have A3 := Aside0.mk A30
  clear A30
  by_cases c4 : t138.size + 2 ≤ 9223372036854775807
  · rw [if_pos c4] at H
    have c4b0 := eq_true c4
    have c4b1 : decide (t138.size + 2 ≤ 9223372036854775807) = true := decide_eq_true c4
    try have c4b2 : (9223372036854775807 < t138.size + 2) = False := eq_false (Nat.not_lt.2 c4)
    try (have c4b3 := c4b2; simp only [ByteArray.size_append] at c4b3)
    try (have c4b4 := c4b2; simp only [ByteArray.size_extract, ByteArray.size_append, Nat.sub_zero] at c4b4)
    replace H := Option.bind_eq_some_iff.mp H
    obtain ⟨⟨t140, t141, t142⟩, A50, H⟩ := H
    replace H : ((key_Make.f k 9 (⟨#[97]⟩ : ByteArray) 0).bind fun bt143 => ((key_First.f 1 (⟨#[97]⟩ : ByteArray)).bind fun bt145 => ((key_Behind.f 1 (⟨#[97]⟩ : ByteArray)).bind fun bt147 => ((key_Family.f 3).bind fun bt149 => (if t131.toList = ([2, 97, 0, 1, 255, 255, 255, 255, 255, 255, 254, 211] : List UInt8) then (if t132 = 0 then (if (t133 == 2 && (t134.toList == ([97] : List UInt8) && (t135 == 300))) = true then (if t136 = 0 then (if t138.toList = ([97, 0, 255, 98, 0, 1] : List UInt8) then (if t139 = 0 then (if t140.toList = ([97, 0, 98] : List UInt8) then (if t141.toList = ([122, 122] : List UInt8) then (if t142 = 0 then (if bt143.2 = 1 then (if bt145.1.toList = ([1, 97, 0, 1] : List UInt8) then (if bt145.2 = 0 then (if bt147.1.toList = ([1, 97, 0, 2] : List UInt8) then (if bt147.2 = 0 then (if bt149.1.toList = ([3] : List UInt8) then (if bt149.2.1.toList = ([4] : List UInt8) then (if bt149.2.2 = 0 then ((key_May.f (⟨#[97]⟩ : ByteArray)).bind fun t152 => (if t152 = true then ((key_May.f (⟨#[]⟩ : ByteArray)).bind fun t153 => (some (!t153))) else (none))) else (none)) else (none)) else (none)) else (none)) else (none)) else (none)) else (none)) else (none)) else (none)) else (none)) else (none)) else (none)) else (none)) else (none)) else (none)) else (none)) else (none)))))) = some r := H
    have A5 := Aside0.mk A50
    clear A50
    replace H := Option.bind_eq_some_iff.mp H
    obtain ⟨⟨t143, t144⟩, A60, H⟩ := H
    replace H : ((key_First.f 1 (⟨#[97]⟩ : ByteArray)).bind fun bt145 => ((key_Behind.f 1 (⟨#[97]⟩ : ByteArray)).bind fun bt147 => ((key_Family.f 3).bind fun bt149 => (if t131.toList = ([2, 97, 0, 1, 255, 255, 255, 255, 255, 255, 254, 211] : List UInt8) then (if t132 = 0 then (if (t133 == 2 && (t134.toList == ([97] : List UInt8) && (t135 == 300))) = true then (if t136 = 0 then (if t138.toList = ([97, 0, 255, 98, 0, 1] : List UInt8) then (if t139 = 0 then (if t140.toList = ([97, 0, 98] : List UInt8) then (if t141.toList = ([122, 122] : List UInt8) then (if t142 = 0 then (if t144 = 1 then (if bt145.1.toList = ([1, 97, 0, 1] : List UInt8) then (if bt145.2 = 0 then (if bt147.1.toList = ([1, 97, 0, 2] : List UInt8) then (if bt147.2 = 0 then (if bt149.1.toList = ([3] : List UInt8) then (if bt149.2.1.toList = ([4] : List UInt8) then (if bt149.2.2 = 0 then ((key_May.f (⟨#[97]⟩ : ByteArray)).bind fun t152 => (if t152 = true then ((key_May.f (⟨#[]⟩ : ByteArray)).bind fun t153 => (some (!t153))) else (none))) else (none)) else (none)) else (none)) else (none)) else (none)) else (none)) else (none)) else (none)) else (none)) else (none)) else (none)) else (none)) else (none)) else (none)) else (none)) else (none)) else (none))))) = some r := H
    have A6 := Aside0.mk A60
    clear A60
    replace H := Option.bind_eq_some_iff.mp H
    obtain ⟨⟨t145, t146⟩, A70, H⟩ := H
    replace H : ((key_Behind.f 1 (⟨#[97]⟩ : ByteArray)).bind fun bt147 => ((key_Family.f 3).bind fun bt149 => (if t131.toList = ([2, 97, 0, 1, 255, 255, 255, 255, 255, 255, 254, 211] : List UInt8) then (if t132 = 0 then (if (t133 == 2 && (t134.toList == ([97] : List UInt8) && (t135 == 300))) = true then (if t136 = 0 then (if t138.toList = ([97, 0, 255, 98, 0, 1] : List UInt8) then (if t139 = 0 then (if t140.toList = ([97, 0, 98] : List UInt8) then (if t141.toList = ([122, 122] : List UInt8) then (if t142 = 0 then (if t144 = 1 then (if t145.toList = ([1, 97, 0, 1] : List UInt8) then (if t146 = 0 then (if bt147.1.toList = ([1, 97, 0, 2] : List UInt8) then (if bt147.2 = 0 then (if bt149.1.toList = ([3] : List UInt8) then (if bt149.2.1.toList = ([4] : List UInt8) then (if bt149.2.2 = 0 then ((key_May.f (⟨#[97]⟩ : ByteArray)).bind fun t152 => (if t152 = true then ((key_May.f (⟨#[]⟩ : ByteArray)).bind fun t153 => (some (!t153))) else (none))) else (none)) else (none)) else (none)) else (none)) else (none)) else (none)) else (none)) else (none)) else (none)) else (none)) else (none)) else (none)) else (none)) else (none)) else (none)) else (none)) else (none)))) = some r := H
    have A7 := Aside0.mk A70
    clear A70
    replace H := Option.bind_eq_some_iff.mp H
    obtain ⟨⟨t147, t148⟩, A80, H⟩ := H
    replace H : ((key_Family.f 3).bind fun bt149 => (if t131.toList = ([2, 97, 0, 1, 255, 255, 255, 255, 255, 255, 254, 211] : List UInt8) then (if t132 = 0 then (if (t133 == 2 && (t134.toList == ([97] : List UInt8) && (t135 == 300))) = true then (if t136 = 0 then (if t138.toList = ([97, 0, 255, 98, 0, 1] : List UInt8) then (if t139 = 0 then (if t140.toList = ([97, 0, 98] : List UInt8) then (if t141.toList = ([122, 122] : List UInt8) then (if t142 = 0 then (if t144 = 1 then (if t145.toList = ([1, 97, 0, 1] : List UInt8) then (if t146 = 0 then (if t147.toList = ([1, 97, 0, 2] : List UInt8) then (if t148 = 0 then (if bt149.1.toList = ([3] : List UInt8) then (if bt149.2.1.toList = ([4] : List UInt8) then (if bt149.2.2 = 0 then ((key_May.f (⟨#[97]⟩ : ByteArray)).bind fun t152 => (if t152 = true then ((key_May.f (⟨#[]⟩ : ByteArray)).bind fun t153 => (some (!t153))) else (none))) else (none)) else (none)) else (none)) else (none)) else (none)) else (none)) else (none)) else (none)) else (none)) else (none)) else (none)) else (none)) else (none)) else (none)) else (none)) else (none)) else (none))) = some r := H
    have A8 := Aside0.mk A80
    clear A80
    replace H := Option.bind_eq_some_iff.mp H
    obtain ⟨⟨t149, t150, t151⟩, A90, H⟩ := H
    replace H : (if t131.toList = ([2, 97, 0, 1, 255, 255, 255, 255, 255, 255, 254, 211] : List UInt8) then (if t132 = 0 then (if (t133 == 2 && (t134.toList == ([97] : List UInt8) && (t135 == 300))) = true then (if t136 = 0 then (if t138.toList = ([97, 0, 255, 98, 0, 1] : List UInt8) then (if t139 = 0 then (if t140.toList = ([97, 0, 98] : List UInt8) then (if t141.toList = ([122, 122] : List UInt8) then (if t142 = 0 then (if t144 = 1 then (if t145.toList = ([1, 97, 0, 1] : List UInt8) then (if t146 = 0 then (if t147.toList = ([1, 97, 0, 2] : List UInt8) then (if t148 = 0 then (if t149.toList = ([3] : List UInt8) then (if t150.toList = ([4] : List UInt8) then (if t151 = 0 then ((key_May.f (⟨#[97]⟩ : ByteArray)).bind fun t152 => (if t152 = true then ((key_May.f (⟨#[]⟩ : ByteArray)).bind fun t153 => (some (!t153))) else (none))) else (none)) else (none)) else (none)) else (none)) else (none)) else (none)) else (none)) else (none)) else (none)) else (none)) else (none)) else (none)) else (none)) else (none)) else (none)) else (none)) else (none)) = some r := H
    have A9 := Aside0.mk A90
    clear A90
    by_cases c10 : t131.toList = ([2, 97, 0, 1, 255, 255, 255, 255, 255, 255, 254, 211] : List UInt8)
    · rw [if_pos c10] at H
      have c10b0 : (t131.toList == ([2, 97, 0, 1, 255, 255, 255, 255, 255, 255, 254, 211] : List UInt8)) = true := beq_iff_eq.mpr c10
      have c10b1 : (t131.toList != ([2, 97, 0, 1, 255, 255, 255, 255, 255, 255, 254, 211] : List UInt8)) = false := bne_eq_false_iff_eq.mpr c10
      clear c10
      by_cases c11 : t132 = 0
      · rw [if_pos c11] at H
        have c11b0 : (t132 == 0) = true := beq_iff_eq.mpr c11
        have c11b1 : (t132 != 0) = false := bne_eq_false_iff_eq.mpr c11
        clear c11
        by_cases c12 : (t133 == 2 && (t134.toList == ([97] : List UInt8) && (t135 == 300))) = true
        · rw [if_pos c12] at H
          have c12b0 : (t133 == 2 && (t134.toList == ([97] : List UInt8) && (t135 == 300))) = true := c12
          (try (have c12b1 : decide (t133 = 2 && (t134.toList == ([97] : List UInt8) && (t135 == 300))) = true := by simpa using c12))
          (try (have c12b2 : (t133 == 2 && (t134.toList == ([97] : List UInt8) && (t135 == 300))) = true := by simpa using c12))
          clear c12
          by_cases c13 : t136 = 0
          · rw [if_pos c13] at H
            have c13b0 : (t136 == 0) = true := beq_iff_eq.mpr c13
            have c13b1 : (t136 != 0) = false := bne_eq_false_iff_eq.mpr c13
            clear c13
            by_cases c14 : t138.toList = ([97, 0, 255, 98, 0, 1] : List UInt8)
            · rw [if_pos c14] at H
              have c14b0 : (t138.toList == ([97, 0, 255, 98, 0, 1] : List UInt8)) = true := beq_iff_eq.mpr c14
              have c14b1 : (t138.toList != ([97, 0, 255, 98, 0, 1] : List UInt8)) = false := bne_eq_false_iff_eq.mpr c14
              clear c14
              by_cases c15 : t139 = 0
              · rw [if_pos c15] at H
                have c15b0 : (t139 == 0) = true := beq_iff_eq.mpr c15
                have c15b1 : (t139 != 0) = false := bne_eq_false_iff_eq.mpr c15
                clear c15
                by_cases c16 : t140.toList = ([97, 0, 98] : List UInt8)
                · rw [if_pos c16] at H
                  have c16b0 : (t140.toList == ([97, 0, 98] : List UInt8)) = true := beq_iff_eq.mpr c16
                  have c16b1 : (t140.toList != ([97, 0, 98] : List UInt8)) = false := bne_eq_false_iff_eq.mpr c16
                  clear c16
                  by_cases c17 : t141.toList = ([122, 122] : List UInt8)
                  · rw [if_pos c17] at H
                    have c17b0 : (t141.toList == ([122, 122] : List UInt8)) = true := beq_iff_eq.mpr c17
                    have c17b1 : (t141.toList != ([122, 122] : List UInt8)) = false := bne_eq_false_iff_eq.mpr c17
                    clear c17
                    by_cases c18 : t142 = 0
                    · rw [if_pos c18] at H
                      have c18b0 : (t142 == 0) = true := beq_iff_eq.mpr c18
                      have c18b1 : (t142 != 0) = false := bne_eq_false_iff_eq.mpr c18
                      clear c18
                      by_cases c19 : t144 = 1
                      · rw [if_pos c19] at H
                        have c19b0 : (t144 == 1) = true := beq_iff_eq.mpr c19
                        have c19b1 : (t144 != 1) = false := bne_eq_false_iff_eq.mpr c19
                        clear c19
                        by_cases c20 : t145.toList = ([1, 97, 0, 1] : List UInt8)
                        · rw [if_pos c20] at H
                          have c20b0 : (t145.toList == ([1, 97, 0, 1] : List UInt8)) = true := beq_iff_eq.mpr c20
                          have c20b1 : (t145.toList != ([1, 97, 0, 1] : List UInt8)) = false := bne_eq_false_iff_eq.mpr c20
                          clear c20
                          by_cases c21 : t146 = 0
                          · rw [if_pos c21] at H
                            have c21b0 : (t146 == 0) = true := beq_iff_eq.mpr c21
                            have c21b1 : (t146 != 0) = false := bne_eq_false_iff_eq.mpr c21
                            clear c21
                            by_cases c22 : t147.toList = ([1, 97, 0, 2] : List UInt8)
                            · rw [if_pos c22] at H
                              have c22b0 : (t147.toList == ([1, 97, 0, 2] : List UInt8)) = true := beq_iff_eq.mpr c22
                              have c22b1 : (t147.toList != ([1, 97, 0, 2] : List UInt8)) = false := bne_eq_false_iff_eq.mpr c22
                              clear c22
                              by_cases c23 : t148 = 0
                              · rw [if_pos c23] at H
                                have c23b0 : (t148 == 0) = true := beq_iff_eq.mpr c23
                                have c23b1 : (t148 != 0) = false := bne_eq_false_iff_eq.mpr c23
                                clear c23
                                by_cases c24 : t149.toList = ([3] : List UInt8)
                                · rw [if_pos c24] at H
                                  have c24b0 : (t149.toList == ([3] : List UInt8)) = true := beq_iff_eq.mpr c24
                                  have c24b1 : (t149.toList != ([3] : List UInt8)) = false := bne_eq_false_iff_eq.mpr c24
                                  clear c24
                                  by_cases c25 : t150.toList = ([4] : List UInt8)
                                  · rw [if_pos c25] at H
                                    have c25b0 : (t150.toList == ([4] : List UInt8)) = true := beq_iff_eq.mpr c25
                                    have c25b1 : (t150.toList != ([4] : List UInt8)) = false := bne_eq_false_iff_eq.mpr c25
                                    clear c25
                                    by_cases c26 : t151 = 0
                                    · rw [if_pos c26] at H
                                      have c26b0 : (t151 == 0) = true := beq_iff_eq.mpr c26
                                      have c26b1 : (t151 != 0) = false := bne_eq_false_iff_eq.mpr c26
                                      clear c26
                                      replace H := Option.bind_eq_some_iff.mp H
                                      obtain ⟨t152, A270, H⟩ := H
                                      replace H : (if t152 = true then ((key_May.f (⟨#[]⟩ : ByteArray)).bind fun t153 => (some (!t153))) else (none)) = some r := H
                                      have A27 := Aside0.mk A270
                                      clear A270
                                      by_cases c28 : t152 = true
                                      · subst c28
                                        have H1 : ((key_May.f (⟨#[]⟩ : ByteArray)).bind fun t153 => (some (!t153))) = some r := by rw [if_pos rfl] at H; exact H
                                        clear H
                                        have H := H1
                                        clear H1
                                        replace H := Option.bind_eq_some_iff.mp H
                                        obtain ⟨t153, A290, H⟩ := H
                                        replace H : (some (!t153)) = some r := H
                                        have A29 := Aside0.mk A290
                                        clear A290
                                        obtain rfl := Option.some.inj H
                                        go_enter Try.func10, Try.ntmps10
                                        go_wp2_with (first | ((with_reducible refine gate_callee (f := 11) rfl ?_); refine goesL_ (some 21) rfl rfl Try.func11 (by kernel_rfl) rfl #[.agg #[.int .i64 2, .string (⟨#[97]⟩ : ByteArray), .int .u64 300]] rfl (by (try simp only [List.map_toArray, List.map_cons, List.map_nil]); first | done | rfl | (simp only [List.length_drop, List.length_take]; rfl) | (simp (disch := omega) only [IntWalk.u64_in, IntWalk.i64_in, IntWalk.u8_in]; rfl)) ?_; (with_reducible refine (key_Make.calls k 2 (⟨#[97]⟩ : ByteArray) 300 t131 t132 _ A1.out).mono ?_); rintro e w30 ⟨rfl, hb⟩; refine ⟨_, rfl, ?_⟩; have n0_ := Aside0.mk (below_step (by repeat (first | (with_reducible first | exact HB.out | apply below_alloc | apply pw_below_drewN | apply below_drew1) | exact HB.out)) hb); clear HB; have HB := n0_; clear n0_; (try clear hb); (try clear hb2); (try clear hk); (try clear hi); (try clear A1)) | ((with_reducible refine gate_callee (f := 22) rfl ?_); refine goesL_ (some 26) rfl rfl Try.func22 (by kernel_rfl) rfl #[.string t131] rfl (by (try simp only [List.map_toArray, List.map_cons, List.map_nil]); first | done | rfl | (simp only [List.length_drop, List.length_take]; rfl) | (simp (disch := omega) only [IntWalk.u64_in, IntWalk.i64_in, IntWalk.u8_in]; rfl)) ?_; (with_reducible refine (key_Read.calls k t131 t133 t134 t135 t136 _ A2.out).mono ?_); rintro e w31 ⟨rfl, hb⟩; refine ⟨_, rfl, ?_⟩; have n0_ := Aside0.mk (below_step (by repeat (first | (with_reducible first | exact HB.out | apply below_alloc | apply pw_below_drewN | apply below_drew1) | exact HB.out)) hb); clear HB; have HB := n0_; clear n0_; (try clear hb); (try clear hb2); (try clear hk); (try clear hi); (try clear A2)) | ((with_reducible refine gate_dst (N := 3) rfl ?_); refine box_event ?hg (N := 3) ?hd (cs := #[.int .i64 0, .string (⟨#[]⟩ : ByteArray), .int .u64 0]) (t := 24) ?hr ?_; (case hd => rfl); (case hg => rfl); (case hr => first | (go_simp; done) | (go_simp; rfl)); intro gb137 hg w32 hbox hb; have n0_ := Aside0.mk (below_step (by repeat (first | (with_reducible first | exact HB.out | apply below_alloc | apply pw_below_drewN | apply below_drew1) | exact HB.out)) hb); have n1_ := Aside0.mk (hbox); have n2_ := Aside0.mk ((by rw [hg]; exact (below_size (by repeat (first | (with_reducible first | exact HB.out | apply below_alloc | apply pw_below_drewN | apply below_drew1) | exact HB.out))) : w.heap.size ≤ gb137)); have n3_ := Aside0.mk ((by rw [hg]; exact (below_size (by repeat (first | (with_reducible first | exact HB.out | apply below_alloc | apply pw_below_drewN | apply below_drew1) | exact HB.out))) : w.heap.size ≤ gb137)); clear HB; have HB := n0_; have BK137 := n1_; have GW137 := n2_; have GE137 := n3_; clear n0_ n1_ n2_ n3_; clear hb hbox hg; have hcz33_0 : w32.cell? ⟨gb137, 0, none⟩ = some (.int .i64 0) := (blk_cell BK137.out 0).trans rfl; have hcz33_1 : w32.cell? ⟨gb137, 1, none⟩ = some (.string (⟨#[]⟩ : ByteArray)) := (blk_cell BK137.out 1).trans rfl; have hcz33_2 : w32.cell? ⟨gb137, 2, none⟩ = some (.int .u64 0) := (blk_cell BK137.out 2).trans rfl; have hfz33_0 := blk_frozen BK137.out 0; have hfz33_1 := blk_frozen BK137.out 1; have hfz33_2 := blk_frozen BK137.out 2) | ((with_reducible refine gate_callee (f := 20) rfl ?_); refine goesL_ (some 30) rfl rfl Try.func20 (by kernel_rfl) rfl #[.string (⟨#[97, 0, 98]⟩ : ByteArray)] rfl (by (try simp only [List.map_toArray, List.map_cons, List.map_nil]); first | done | rfl | (simp only [List.length_drop, List.length_take]; rfl) | (simp (disch := omega) only [IntWalk.u64_in, IntWalk.i64_in, IntWalk.u8_in]; rfl)) ?_; (with_reducible refine (key_Escape.calls (⟨#[97, 0, 98]⟩ : ByteArray) t138 t139 _ A3.out).mono ?_); rintro e w34 ⟨rfl, hb⟩; refine ⟨_, rfl, ?_⟩; have n0_ := Aside0.mk (blk_below (g := gb137) (o := .cells #[.int .i64 t133, .string t134, .int .u64 t135] 24 (0, 0)) (by (with_reducible repeat (first | refine blk_drewN ?_ _ | refine blk_drew ?_ | refine blk_alloc ?_ _)); refine blk_put (cs := #[.int .i64 t133, .string t134, .int .u64 0]) ?_ 2 _ rfl; (with_reducible repeat (first | refine blk_drewN ?_ _ | refine blk_drew ?_ | refine blk_alloc ?_ _)); refine blk_put (cs := #[.int .i64 t133, .string (⟨#[]⟩ : ByteArray), .int .u64 0]) ?_ 1 _ rfl; (with_reducible repeat (first | refine blk_drewN ?_ _ | refine blk_drew ?_ | refine blk_alloc ?_ _)); refine blk_put (cs := #[.int .i64 0, .string (⟨#[]⟩ : ByteArray), .int .u64 0]) ?_ 0 _ rfl; (with_reducible repeat (first | refine blk_drewN ?_ _ | refine blk_drew ?_ | refine blk_alloc ?_ _)); exact BK137.out) hb); have n1_ := Aside0.mk (below_step (by repeat (first | (with_reducible first | exact HB.out | apply below_alloc | apply pw_below_drewN | apply below_drew1 | refine below_set ?_ GE137.out) | exact HB.out)) hb); clear BK137; clear HB; have BK137 := n0_; have HB := n1_; clear n0_ n1_; (try clear hb); (try clear hb2); (try clear hk); (try clear hi); (try clear A3)) | ((with_reducible refine gate_callee (f := 24) rfl ?_); refine goesL_ (some 36) rfl rfl Try.func24 (by kernel_rfl) rfl #[.string (t138 ++ (⟨#[122, 122]⟩ : ByteArray))] rfl (by (try simp only [List.map_toArray, List.map_cons, List.map_nil]); first | done | rfl | (simp only [List.length_drop, List.length_take]; rfl) | (simp (disch := omega) only [IntWalk.u64_in, IntWalk.i64_in, IntWalk.u8_in]; rfl)) ?_; (with_reducible refine (key_Unescape.calls (t138 ++ (⟨#[122, 122]⟩ : ByteArray)) t140 t141 t142 _ A5.out).mono ?_); rintro e w35 ⟨rfl, hb⟩; refine ⟨_, rfl, ?_⟩; have n0_ := Aside0.mk (blk_below (g := gb137) (o := .cells #[.int .i64 t133, .string t134, .int .u64 t135] 24 (0, 0)) (by (with_reducible repeat (first | refine blk_drewN ?_ _ | refine blk_drew ?_ | refine blk_alloc ?_ _)); exact BK137.out) hb); have n1_ := Aside0.mk (below_step (by repeat (first | (with_reducible first | exact HB.out | apply below_alloc | apply pw_below_drewN | apply below_drew1 | refine below_set ?_ GE137.out) | exact HB.out)) hb); clear BK137; clear HB; have BK137 := n0_; have HB := n1_; clear n0_ n1_; (try clear hb); (try clear hb2); (try clear hk); (try clear hi); (try clear A5)) | ((with_reducible refine gate_callee (f := 11) rfl ?_); refine goesL_ (some 42) rfl rfl Try.func11 (by kernel_rfl) rfl #[.agg #[.int .i64 9, .string (⟨#[97]⟩ : ByteArray), .int .u64 0]] rfl (by (try simp only [List.map_toArray, List.map_cons, List.map_nil]); first | done | rfl | (simp only [List.length_drop, List.length_take]; rfl) | (simp (disch := omega) only [IntWalk.u64_in, IntWalk.i64_in, IntWalk.u8_in]; rfl)) ?_; (with_reducible refine (key_Make.calls k 9 (⟨#[97]⟩ : ByteArray) 0 t143 t144 _ A6.out).mono ?_); rintro e w36 ⟨rfl, hb⟩; refine ⟨_, rfl, ?_⟩; have n0_ := Aside0.mk (blk_below (g := gb137) (o := .cells #[.int .i64 t133, .string t134, .int .u64 t135] 24 (0, 0)) (by (with_reducible repeat (first | refine blk_drewN ?_ _ | refine blk_drew ?_ | refine blk_alloc ?_ _)); exact BK137.out) hb); have n1_ := Aside0.mk (below_step (by repeat (first | (with_reducible first | exact HB.out | apply below_alloc | apply pw_below_drewN | apply below_drew1 | refine below_set ?_ GE137.out) | exact HB.out)) hb); clear BK137; clear HB; have BK137 := n0_; have HB := n1_; clear n0_ n1_; (try clear hb); (try clear hb2); (try clear hk); (try clear hi); (try clear A6)) | ((with_reducible refine gate_callee (f := 16) rfl ?_); refine goesL_ (some 46) rfl rfl Try.func16 (by kernel_rfl) rfl #[.int .i64 1, .string (⟨#[97]⟩ : ByteArray)] rfl (by (try simp only [List.map_toArray, List.map_cons, List.map_nil]); first | done | rfl | (simp only [List.length_drop, List.length_take]; rfl) | (simp (disch := omega) only [IntWalk.u64_in, IntWalk.i64_in, IntWalk.u8_in]; rfl)) ?_; (with_reducible refine (key_First.calls 1 (⟨#[97]⟩ : ByteArray) t145 t146 _ A7.out).mono ?_); rintro e w37 ⟨rfl, hb⟩; refine ⟨_, rfl, ?_⟩; have n0_ := Aside0.mk (blk_below (g := gb137) (o := .cells #[.int .i64 t133, .string t134, .int .u64 t135] 24 (0, 0)) (by (with_reducible repeat (first | refine blk_drewN ?_ _ | refine blk_drew ?_ | refine blk_alloc ?_ _)); exact BK137.out) hb); have n1_ := Aside0.mk (below_step (by repeat (first | (with_reducible first | exact HB.out | apply below_alloc | apply pw_below_drewN | apply below_drew1 | refine below_set ?_ GE137.out) | exact HB.out)) hb); clear BK137; clear HB; have BK137 := n0_; have HB := n1_; clear n0_ n1_; (try clear hb); (try clear hb2); (try clear hk); (try clear hi); (try clear A7)) | ((with_reducible refine gate_callee (f := 18) rfl ?_); refine goesL_ (some 50) rfl rfl Try.func18 (by kernel_rfl) rfl #[.int .i64 1, .string (⟨#[97]⟩ : ByteArray)] rfl (by (try simp only [List.map_toArray, List.map_cons, List.map_nil]); first | done | rfl | (simp only [List.length_drop, List.length_take]; rfl) | (simp (disch := omega) only [IntWalk.u64_in, IntWalk.i64_in, IntWalk.u8_in]; rfl)) ?_; (with_reducible refine (key_Behind.calls 1 (⟨#[97]⟩ : ByteArray) t147 t148 _ A8.out).mono ?_); rintro e w38 ⟨rfl, hb⟩; refine ⟨_, rfl, ?_⟩; have n0_ := Aside0.mk (blk_below (g := gb137) (o := .cells #[.int .i64 t133, .string t134, .int .u64 t135] 24 (0, 0)) (by (with_reducible repeat (first | refine blk_drewN ?_ _ | refine blk_drew ?_ | refine blk_alloc ?_ _)); exact BK137.out) hb); have n1_ := Aside0.mk (below_step (by repeat (first | (with_reducible first | exact HB.out | apply below_alloc | apply pw_below_drewN | apply below_drew1 | refine below_set ?_ GE137.out) | exact HB.out)) hb); clear BK137; clear HB; have BK137 := n0_; have HB := n1_; clear n0_ n1_; (try clear hb); (try clear hb2); (try clear hk); (try clear hi); (try clear A8)) | ((with_reducible refine gate_callee (f := 26) rfl ?_); refine goesL_ (some 54) rfl rfl Try.func26 (by kernel_rfl) rfl #[.int .i64 3] rfl (by (try simp only [List.map_toArray, List.map_cons, List.map_nil]); first | done | rfl | (simp only [List.length_drop, List.length_take]; rfl) | (simp (disch := omega) only [IntWalk.u64_in, IntWalk.i64_in, IntWalk.u8_in]; rfl)) ?_; (with_reducible refine (key_Family.calls 3 t149 t150 t151 _ A9.out).mono ?_); rintro e w39 ⟨rfl, hb⟩; refine ⟨_, rfl, ?_⟩; have n0_ := Aside0.mk (blk_below (g := gb137) (o := .cells #[.int .i64 t133, .string t134, .int .u64 t135] 24 (0, 0)) (by (with_reducible repeat (first | refine blk_drewN ?_ _ | refine blk_drew ?_ | refine blk_alloc ?_ _)); exact BK137.out) hb); have n1_ := Aside0.mk (below_step (by repeat (first | (with_reducible first | exact HB.out | apply below_alloc | apply pw_below_drewN | apply below_drew1 | refine below_set ?_ GE137.out) | exact HB.out)) hb); clear BK137; clear HB; have BK137 := n0_; have HB := n1_; clear n0_ n1_; (try clear hb); (try clear hb2); (try clear hk); (try clear hi); (try clear A9); have hcz40_0 : w39.cell? ⟨gb137, 0, none⟩ = some (.int .i64 t133) := (blk_cell BK137.out 0).trans rfl; have hcz40_1 : w39.cell? ⟨gb137, 1, none⟩ = some (.string t134) := (blk_cell BK137.out 1).trans rfl; have hcz40_2 : w39.cell? ⟨gb137, 2, none⟩ = some (.int .u64 t135) := (blk_cell BK137.out 2).trans rfl; have hfz40_0 := blk_frozen BK137.out 0; have hfz40_1 := blk_frozen BK137.out 1; have hfz40_2 := blk_frozen BK137.out 2) | (go_at_call 14; (with_reducible refine (key_May.calls (⟨#[97]⟩ : ByteArray) true _ A27.out).mono ?_); rintro e w' ⟨rfl, ⟨nd, rfl⟩⟩) | (go_at_call 14; (with_reducible refine (key_May.calls (⟨#[]⟩ : ByteArray) t153 _ A29.out).mono ?_); rintro e w' ⟨rfl, ⟨nd, rfl⟩⟩))
                                        go_ret
                                        exact ⟨by first | rfl | (simp [errW_none, errW_some] <;> rfl) | (simp (disch := omega) only [← i64_w, IntWalk.i64_in]; rfl) | (simp [*, errW_none, errW_some] <;> rfl), by repeat (first | (with_reducible first | exact HB.out | apply below_alloc | apply pw_below_drewN | apply below_drew1 | refine below_set ?_ GE137.out) | exact HB.out)⟩
                                      · replace c28 := Bool.eq_false_iff.mpr c28
                                        subst c28
                                        have H1 : (none) = some r := by rw [if_neg (show ¬ (false = true) by decide)] at H; exact H
                                        clear H
                                        have H := H1
                                        clear H1
                                        exact absurd H (by simp)
                                    · rw [if_neg c26] at H
                                      exact absurd H (by simp)
                                  · rw [if_neg c25] at H
                                    exact absurd H (by simp)
                                · rw [if_neg c24] at H
                                  exact absurd H (by simp)
                              · rw [if_neg c23] at H
                                exact absurd H (by simp)
                            · rw [if_neg c22] at H
                              exact absurd H (by simp)
                          · rw [if_neg c21] at H
                            exact absurd H (by simp)
                        · rw [if_neg c20] at H
                          exact absurd H (by simp)
                      · rw [if_neg c19] at H
                        exact absurd H (by simp)
                    · rw [if_neg c18] at H
                      exact absurd H (by simp)
                  · rw [if_neg c17] at H
                    exact absurd H (by simp)
                · rw [if_neg c16] at H
                  exact absurd H (by simp)
              · rw [if_neg c15] at H
                exact absurd H (by simp)
            · rw [if_neg c14] at H
              exact absurd H (by simp)
          · rw [if_neg c13] at H
            exact absurd H (by simp)
        · rw [if_neg c12] at H
          exact absurd H (by simp)
      · rw [if_neg c11] at H
        exact absurd H (by simp)
    · rw [if_neg c10] at H
      exact absurd H (by simp)
  · rw [if_neg c4] at H
    exact absurd H (by simp)

/-! ### screeref02_May: function 15 -/
def screeref02_May.f (a0 : ByteArray) : Option (Bool) := if (a0.size : Int) ≥ 1 then (some (decide ((a0.size : Int) ≤ 24))) else (some false)
set_option maxHeartbeats 8000000 in
set_option maxRecDepth 100000 in
theorem screeref02_May.calls (a0 : ByteArray) (r : Bool) (w : World) (h : screeref02_May.f a0 = some r) :
    Calls Try.prog 15 #[.string a0] w fun e w' => e = .returned (.bool r) ∧ Drawn0 w w' := by
  have H : (if (a0.size : Int) ≥ 1 then (some (decide ((a0.size : Int) ≤ 24))) else (some false)) = some r := h
  clear h
  by_cases c2 : (a0.size : Int) ≥ 1
  · rw [if_pos c2] at H
    have c2b0 : decide (1 ≤ (a0.size : Int)) = true := decide_eq_true c2
    have c2b1 : decide (1 ≤ a0.size) = true := decide_eq_true (by omega)
    clear c2
    obtain rfl := Option.some.inj H
    go_enter Try.func15, Try.ntmps15
    go_wp2
    go_ret
    exact ⟨by first | rfl | (simp; done) | (simp [*]; done), by repeat (first | exact Drawn0.refl _ | apply Drawn0.step)⟩
  · rw [if_neg c2] at H
    have c2b0 : decide (1 ≤ (a0.size : Int)) = false := decide_eq_false c2
    have c2b1 : decide (1 ≤ a0.size) = false := decide_eq_false (by omega)
    clear c2
    obtain rfl := Option.some.inj H
    go_enter Try.func15, Try.ntmps15
    go_wp2
    go_ret
    exact ⟨by first | rfl | (simp; done) | (simp [*]; done), by repeat (first | exact Drawn0.refl _ | apply Drawn0.step)⟩

/-! ### screeref02_Escape: function 21 -/
def screeref02_Escape.l0 : Nat → ByteArray → List Int → Int → Option (ByteArray × Int)
  | 0, _, _, _ => none
  | k + 1, x0, x4, x5 => if x5 < (x0.size : Int) then (if 0 ≤ x5 then (if x4.length < 140737488355328 then ((some (x4 ++ [bt x0 x5] : List Int)).bind fun y158 => (if (bt x0 x5) = 0 then (if y158.length < 140737488355328 then (screeref02_Escape.l0 k x0 (y158 ++ [255]) (wrap64 (x5 + 1))) else (none)) else (screeref02_Escape.l0 k x0 y158 (wrap64 (x5 + 1))))) else (none)) else (none)) else ((some (([0, 1] : List Int) : List Int)).bind fun y164 => (if x4.length + y164.length < 140737488355328 then (some (strOfNums (x4 ++ y164), 0)) else (none)))
def screeref02_Escape.f (k : Nat) (a0 : ByteArray) : Option (ByteArray × Int) := (screeref02_May.f a0).bind fun t154 => (if t154 = true then (screeref02_Escape.l0 k a0 (([] : List Int)) 0) else (some ((⟨#[]⟩ : ByteArray), 20)))
theorem screeref02_Escape.mono_l : ∀ k, (∀ y0 y1 y2, LeO (screeref02_Escape.l0 k y0 y1 y2) (screeref02_Escape.l0 (k + 1) y0 y1 y2))
  | 0 => fun _ _ _ r h => by simp [screeref02_Escape.l0] at h
  | k + 1 => by
    have ih0 := screeref02_Escape.mono_l k
    · intro y0 y1 y2
      unfold screeref02_Escape.l0
      repeat' first
      | (with_reducible exact ih0 _ _ _)
      | (with_reducible exact LeO.refl _)
      | (with_reducible exact LeO.none _)
      | (with_reducible refine LeO.ite ?_ ?_)
      | (with_reducible refine LeO.bind ?_ (fun _ => ?_))
      | exact ih0 _ _ _
      | exact LeO.none _
      | refine LeO.ite ?_ ?_
      | refine LeO.bind ?_ (fun _ => ?_)
theorem screeref02_Escape.mono : ∀ a0 k, LeO (screeref02_Escape.f k a0) (screeref02_Escape.f (k + 1) a0) := by
  intro a0 k
  have ih0 := screeref02_Escape.mono_l k
  unfold screeref02_Escape.f
  repeat' first
      | (with_reducible exact ih0 _ _ _)
      | (with_reducible exact LeO.refl _)
      | (with_reducible exact LeO.none _)
      | (with_reducible refine LeO.ite ?_ ?_)
      | (with_reducible refine LeO.bind ?_ (fun _ => ?_))
      | exact ih0 _ _ _
      | exact LeO.none _
      | refine LeO.ite ?_ ?_
      | refine LeO.bind ?_ (fun _ => ?_)
set_option maxHeartbeats 8000000 in
set_option maxRecDepth 100000 in
theorem screeref02_Escape.calls (k : Nat) (a0 : ByteArray) (r1 : ByteArray) (r2 : Int) (w : World) (h : screeref02_Escape.f k a0 = some (r1, r2)) :
    Calls Try.prog 21 #[.string a0] w fun e w' => e = .returned (.tuple #[.string r1, .int .i64 r2]) ∧ Below w.heap.size w w' := by
  have HB := Aside0.mk (Below.refl w.heap.size w)
  have H : ((screeref02_May.f a0).bind fun t154 => (if t154 = true then (screeref02_Escape.l0 k a0 (([] : List Int)) 0) else (some ((⟨#[]⟩ : ByteArray), 20)))) = some (r1, r2) := h
  clear h
  replace H := Option.bind_eq_some_iff.mp H
  obtain ⟨t154, A20, H⟩ := H
  replace H : (if t154 = true then (screeref02_Escape.l0 k a0 (([] : List Int)) 0) else (some ((⟨#[]⟩ : ByteArray), 20))) = some (r1, r2) := H
  have A2 := Aside0.mk A20
  clear A20
  by_cases c3 : t154 = true
  · subst c3
    have H1 : (screeref02_Escape.l0 k a0 (([] : List Int)) 0) = some (r1, r2) := by rw [if_pos rfl] at H; exact H
    clear H
    have H := H1
    clear H1
    obtain ⟨y155, hy155⟩ : ∃ y_ : List Int, y_ = (([] : List Int)) := ⟨_, rfl⟩
    replace H : (screeref02_Escape.l0 k a0 y155 0) = some (r1, r2) := by first | (rw [hy155]; with_reducible exact H) | (have H2_ := (Option.bind_some _ _).symm.trans H; rw [hy155]; with_reducible exact H2_) | (have H2_ := (Option.bind_some _ _).symm.trans H; with_reducible exact H2_) | with_reducible exact H | (rw [hy155]; exact H) | exact H
    have Ny155 := Aside0.mk hy155
    clear hy155
    have H' := Aside0.mk H
    clear H
    go_enter Try.func21, Try.ntmps21
    go_wp2_with (first | ((with_reducible refine gate_callee (f := 15) rfl ?_); refine goesL_ (some 7) rfl rfl Try.func15 (by kernel_rfl) rfl #[.string a0] rfl (by (try simp only [List.map_toArray, List.map_cons, List.map_nil]); first | done | rfl | (simp only [List.length_drop, List.length_take]; rfl) | (simp (disch := omega) only [IntWalk.u64_in, IntWalk.i64_in, IntWalk.u8_in]; rfl)) ?_; (with_reducible refine (screeref02_May.calls a0 true _ A2.out).mono ?_); rintro e w' ⟨rfl, ⟨nd, rfl⟩⟩; refine ⟨_, rfl, ?_⟩) | ((with_reducible refine gate_dst (N := 9) rfl ?_); refine Kd.R_lit (Kd.int .u8) _ 5 ?hg (N := 9) ?hd (xs := ([] : List Int)) (inner := []) (ok := fun _ => True) (okp := fun _ => True) ?hr ?hp (fun _ hk => hk) trivial (Below.refl _ _) (Nat.le_refl _) (by simp) ?_; (case hd => rfl); (case hg => rfl); (case hr => first | (go_simp; done) | (go_simp; rfl)); (case hp => exact (Reps.none _ _)); intro v156 w4 ho5 hb hg_ hnew_; clear hg_ hnew_; (first | rw [← Ny155.out] at ho5 | (simp only [Int.reduceToNat] at ho5; rw [← Ny155.out] at ho5)); have n0_ := Aside0.mk (Kd.R_lower ho5 (below_size (by repeat (first | (with_reducible first | exact HB.out | apply below_alloc | apply pw_below_drewN | apply below_drew1) | exact HB.out)))); have n1_ := Aside0.mk (below_step (by repeat (first | (with_reducible first | exact HB.out | apply below_alloc | apply pw_below_drewN | apply below_drew1) | exact HB.out)) hb); clear HB; have HO157 := n0_; have HB := n1_; clear n0_ n1_; clear hb ho5))
    go_loopg [4, 5] k (fun kq v4 v5 w' => ∃ (x4_1 : List Int) (x5_1 : Int), v5 = .int .i64 x5_1 ∧ Aside0 (screeref02_Escape.l0 kq a0 x4_1 x5_1 = some (r1, r2)) ∧ Aside0 (kq ≤ k) ∧ Aside0 (Kd.R (Kd.int .u8) 5 w' w.heap.size (fun _ => True) v4 x4_1) ∧ Aside0 (Below w.heap.size w w'))
    case atStart => exact ⟨(y155), (0), (by first | rfl | (simp; done) | (simp [*]; done)), H', ⟨Nat.le_refl _⟩, ⟨by (with_reducible repeat (first | apply Kd.R_alloc | apply Kd.R_drewN | apply Kd.R_drew)); exact HO157.out⟩, ⟨by repeat (first | (with_reducible first | exact HB.out | apply below_alloc | apply pw_below_drewN | apply below_drew1) | exact HB.out)⟩⟩
    case round =>
      clear H'
      try clear c1
      try clear c2
      try clear p2
      try clear c3
      obtain ⟨x4_1, x5_1, rfl, HA, HK1, HO_4, HB⟩ := hrel
      cases gk with
      | zero => exact absurd HA.out (by simp [screeref02_Escape.l0])
      | succ k1 =>
        have H := HA.out
        clear HA
        simp only [screeref02_Escape.l0] at H
        by_cases c6 : x5_1 < (a0.size : Int)
        · rw [if_pos c6] at H
          have c6b0 : decide (x5_1 < (a0.size : Int)) = true := decide_eq_true c6
          clear c6
          by_cases c7 : 0 ≤ x5_1
          · rw [if_pos c7] at H
            have c7b0 : decide (0 ≤ x5_1) = true := decide_eq_true c7
            clear c7
            by_cases c9 : x4_1.length < 140737488355328
            · rw [if_pos c9] at H
              have LMc9 := Aside0.mk c9
              clear c9
              obtain ⟨y158, hy158⟩ : ∃ y_ : List Int, y_ = (x4_1 ++ [bt a0 x5_1]) := ⟨_, rfl⟩
              replace H : (if (bt a0 x5_1) = 0 then (if y158.length < 140737488355328 then (screeref02_Escape.l0 k1 a0 (y158 ++ [255]) (wrap64 (x5_1 + 1))) else (none)) else (screeref02_Escape.l0 k1 a0 y158 (wrap64 (x5_1 + 1)))) = some (r1, r2) := by first | (rw [hy158]; with_reducible exact H) | (have H2_ := (Option.bind_some _ _).symm.trans H; rw [hy158]; with_reducible exact H2_) | (have H2_ := (Option.bind_some _ _).symm.trans H; with_reducible exact H2_) | with_reducible exact H | (rw [hy158]; exact H) | exact H
              have Ny158 := Aside0.mk hy158
              clear hy158
              by_cases c11 : (bt a0 x5_1) = 0
              · rw [if_pos c11] at H
                have c11b0 : ((bt a0 x5_1) == 0) = true := beq_iff_eq.mpr c11
                have c11b1 : ((bt a0 x5_1) != 0) = false := bne_eq_false_iff_eq.mpr c11
                clear c11
                by_cases c12 : y158.length < 140737488355328
                · rw [if_pos c12] at H
                  have LMc12 := Aside0.mk c12
                  clear c12
                  obtain ⟨y161, hy161⟩ : ∃ y_ : List Int, y_ = (y158 ++ [255]) := ⟨_, rfl⟩
                  replace H : (screeref02_Escape.l0 k1 a0 y161 (wrap64 (x5_1 + 1))) = some (r1, r2) := by first | (rw [hy161]; with_reducible exact H) | (have H2_ := (Option.bind_some _ _).symm.trans H; rw [hy161]; with_reducible exact H2_) | (have H2_ := (Option.bind_some _ _).symm.trans H; with_reducible exact H2_) | with_reducible exact H | (rw [hy161]; exact H) | exact H
                  have Ny161 := Aside0.mk hy161
                  clear hy161
                  have H' := Aside0.mk H
                  clear H
                  have p8 : 0 ≤ (x5_1 : Int) := of_decide_eq_true (by first | (with_reducible assumption) | assumption)
                  have q8 : x5_1 < (a0.size : Int) := of_decide_eq_true (by first | (with_reducible assumption) | assumption)
                  have hx8 := bt_at a0 x5_1
                  replace p8 := eq_true p8
                  replace q8 := eq_true q8
                  go_wp2_with (first | ((with_reducible refine gate_builtin (b := .append) (xs := #[.tmp 16, .tmp 20]) rfl ?_); at_builtin; refine Kd.R_append (Kd.int .u8) (w0 := w) w.heap.size rfl (.tmp 16) (.tmp 20) 48 5 (.int .u8 0) 1 rfl Try.underlying48 info5 rfl (by decide) (by omega) u4 x4_1 (bt a0 x5_1) [.int .u8 (bt a0 x5_1)] (fun _ => True) (fun _ => False) rfl rfl ?aP (fun _ hk => hk.elim) ?aF ?aO ?aB ?aS ?aL ?_; (case aP => exact rfl); (case aB => exact (by repeat (first | (with_reducible first | exact HB.out | apply below_alloc | apply pw_below_drewN | apply below_drew1) | exact HB.out))); (case aF => exact (fun _ _ => trivial)); (case aO => exact (by (with_reducible repeat (first | apply Kd.R_alloc | apply Kd.R_drewN | apply Kd.R_drew)); exact HO_4.out)); (case aS => exact (below_size (by repeat (first | (with_reducible first | exact HB.out | apply below_alloc | apply pw_below_drewN | apply below_drew1) | exact HB.out)))); (case aL => have := LMc9.out; omega); intro v159 w13 ho hb hg hat; rw [← Ny158.out] at ho; have n0_ := Aside0.mk (hb); have n1_ := Aside0.mk (ho); clear HB; clear HO_4; have HB := n0_; have HO160 := n1_; clear n0_ n1_; clear ho hb hg hat; have p10 : 0 ≤ (x5_1 : Int) := of_decide_eq_true (by first | (with_reducible assumption) | assumption); have q10 : x5_1 < (a0.size : Int) := of_decide_eq_true (by first | (with_reducible assumption) | assumption); have hx10 := bt_at a0 x5_1; replace p10 := eq_true p10; replace q10 := eq_true q10) | ((with_reducible refine gate_builtin (b := .append) (xs := #[.tmp 26, .tmp 27]) rfl ?_); at_builtin; refine Kd.R_append (Kd.int .u8) (w0 := w) w.heap.size rfl (.tmp 26) (.tmp 27) 48 5 (.int .u8 0) 1 rfl Try.underlying48 info5 rfl (by decide) (by omega) v159 y158 255 [.int .u8 255] (fun _ => True) (fun _ => False) rfl rfl ?aP (fun _ hk => hk.elim) ?aF ?aO ?aB ?aS ?aL ?_; (case aP => exact rfl); (case aB => exact (by repeat (first | (with_reducible first | exact HB.out | apply below_alloc | apply pw_below_drewN | apply below_drew1) | exact HB.out))); (case aF => exact (fun _ _ => trivial)); (case aO => exact (by (with_reducible repeat (first | apply Kd.R_alloc | apply Kd.R_drewN | apply Kd.R_drew)); exact HO160.out)); (case aS => exact (below_size (by repeat (first | (with_reducible first | exact HB.out | apply below_alloc | apply pw_below_drewN | apply below_drew1) | exact HB.out)))); (case aL => have := LMc12.out; omega); intro v162 w14 ho hb hg hat; rw [← Ny161.out] at ho; have n0_ := Aside0.mk (hb); have n1_ := Aside0.mk (ho); clear HB; clear HO160; have HB := n0_; have HO163 := n1_; clear n0_ n1_; clear ho hb hg hat))
                  go_roundg k1
                  case measure => have := HK1.out; omega
                  case rel => exact ⟨(y161), (wrap64 (x5_1 + 1)), (by first | rfl | (simp; done) | (simp [*]; done)), (by first | (with_reducible exact H') | exact H' | (subst_vars; exact H')), ⟨by have := HK1.out; omega⟩, ⟨by (with_reducible repeat (first | apply Kd.R_alloc | apply Kd.R_drewN | apply Kd.R_drew)); exact HO163.out⟩, ⟨by repeat (first | (with_reducible first | exact HB.out | apply below_alloc | apply pw_below_drewN | apply below_drew1) | exact HB.out)⟩⟩
                · rw [if_neg c12] at H
                  exact absurd H (by simp)
              · rw [if_neg c11] at H
                have c11b0 : ((bt a0 x5_1) == 0) = false := beq_eq_false_iff_ne.mpr c11
                have c11b1 : ((bt a0 x5_1) != 0) = true := bne_iff_ne.mpr c11
                have H' := Aside0.mk H
                clear H
                have p8 : 0 ≤ (x5_1 : Int) := of_decide_eq_true (by first | (with_reducible assumption) | assumption)
                have q8 : x5_1 < (a0.size : Int) := of_decide_eq_true (by first | (with_reducible assumption) | assumption)
                have hx8 := bt_at a0 x5_1
                replace p8 := eq_true p8
                replace q8 := eq_true q8
                go_wp2_with (first | ((with_reducible refine gate_builtin (b := .append) (xs := #[.tmp 16, .tmp 20]) rfl ?_); at_builtin; refine Kd.R_append (Kd.int .u8) (w0 := w) w.heap.size rfl (.tmp 16) (.tmp 20) 48 5 (.int .u8 0) 1 rfl Try.underlying48 info5 rfl (by decide) (by omega) u4 x4_1 (bt a0 x5_1) [.int .u8 (bt a0 x5_1)] (fun _ => True) (fun _ => False) rfl rfl ?aP (fun _ hk => hk.elim) ?aF ?aO ?aB ?aS ?aL ?_; (case aP => exact rfl); (case aB => exact (by repeat (first | (with_reducible first | exact HB.out | apply below_alloc | apply pw_below_drewN | apply below_drew1) | exact HB.out))); (case aF => exact (fun _ _ => trivial)); (case aO => exact (by (with_reducible repeat (first | apply Kd.R_alloc | apply Kd.R_drewN | apply Kd.R_drew)); exact HO_4.out)); (case aS => exact (below_size (by repeat (first | (with_reducible first | exact HB.out | apply below_alloc | apply pw_below_drewN | apply below_drew1) | exact HB.out)))); (case aL => have := LMc9.out; omega); intro v159 w15 ho hb hg hat; rw [← Ny158.out] at ho; have n0_ := Aside0.mk (hb); have n1_ := Aside0.mk (ho); clear HB; clear HO_4; have HB := n0_; have HO160 := n1_; clear n0_ n1_; clear ho hb hg hat; have p10 : 0 ≤ (x5_1 : Int) := of_decide_eq_true (by first | (with_reducible assumption) | assumption); have q10 : x5_1 < (a0.size : Int) := of_decide_eq_true (by first | (with_reducible assumption) | assumption); have hx10 := bt_at a0 x5_1; replace p10 := eq_true p10; replace q10 := eq_true q10))
                go_roundg k1
                case measure => have := HK1.out; omega
                case rel => exact ⟨(y158), (wrap64 (x5_1 + 1)), (by first | rfl | (simp; done) | (simp [*]; done)), (by first | (with_reducible exact H') | exact H' | (subst_vars; exact H')), ⟨by have := HK1.out; omega⟩, ⟨by (with_reducible repeat (first | apply Kd.R_alloc | apply Kd.R_drewN | apply Kd.R_drew)); exact HO160.out⟩, ⟨by repeat (first | (with_reducible first | exact HB.out | apply below_alloc | apply pw_below_drewN | apply below_drew1) | exact HB.out)⟩⟩
            · rw [if_neg c9] at H
              exact absurd H (by simp)
          · rw [if_neg c7] at H
            exact absurd H (by simp)
        · rw [if_neg c6] at H
          have c6b0 : decide (x5_1 < (a0.size : Int)) = false := decide_eq_false c6
          clear c6
          obtain ⟨y164, hy164⟩ : ∃ y_ : List Int, y_ = (([0, 1] : List Int)) := ⟨_, rfl⟩
          replace H : (if x4_1.length + y164.length < 140737488355328 then (some (strOfNums (x4_1 ++ y164), 0)) else (none)) = some (r1, r2) := by first | (rw [hy164]; with_reducible exact H) | (have H2_ := (Option.bind_some _ _).symm.trans H; rw [hy164]; with_reducible exact H2_) | (have H2_ := (Option.bind_some _ _).symm.trans H; with_reducible exact H2_) | with_reducible exact H | (rw [hy164]; exact H) | exact H
          have Ny164 := Aside0.mk hy164
          clear hy164
          by_cases c16 : x4_1.length + y164.length < 140737488355328
          · rw [if_pos c16] at H
            have LMc16 := Aside0.mk c16
            clear c16
            obtain ⟨y167, hy167⟩ : ∃ y_ : List Int, y_ = (x4_1 ++ y164) := ⟨_, rfl⟩
            replace H : (some (strOfNums y167, 0)) = some (r1, r2) := by first | (rw [hy167]; with_reducible exact H) | (have H2_ := (Option.bind_some _ _).symm.trans H; rw [hy167]; with_reducible exact H2_) | (have H2_ := (Option.bind_some _ _).symm.trans H; with_reducible exact H2_) | with_reducible exact H | (rw [hy167]; exact H) | exact H
            have Ny167 := Aside0.mk hy167
            clear hy167
            simp only [Option.some.injEq, Prod.mk.injEq] at H
            obtain ⟨rfl, rfl⟩ := H
            go_wp2_with (first | ((with_reducible refine gate_dst (N := 30) rfl ?_); refine Kd.R_lit (Kd.int .u8) _ 5 ?hg (N := 30) ?hd (xs := ([0, 1] : List Int)) (inner := [.int .u8 0, .int .u8 1]) (ok := fun _ => True) (okp := fun _ => True) ?hr ?hp (fun _ hk => hk) trivial (Below.refl _ _) (Nat.le_refl _) (by simp) ?_; (case hd => rfl); (case hg => rfl); (case hr => first | (go_simp; done) | (go_simp; rfl)); (case hp => exact (Reps.one (show Kd.M (Kd.int .u8) _ _ _ 0 [.int .u8 0] from rfl) (Reps.one (show Kd.M (Kd.int .u8) _ _ _ 1 [.int .u8 1] from rfl) (Reps.none _ _)))); intro v165 w17 ho18 hb hg_ hnew_; clear hg_ hnew_; (first | rw [← Ny164.out] at ho18 | (simp only [Int.reduceToNat] at ho18; rw [← Ny164.out] at ho18)); have n0_ := Aside0.mk (Kd.R_elder' (by (with_reducible repeat (first | apply Kd.R_alloc | apply Kd.R_drewN | apply Kd.R_drew)); exact HO_4.out) (Kd.R_base ho18) hb); have n1_ := Aside0.mk (Kd.R_lower (Kd.R_new' ho18 (Kd.R_lt (by (with_reducible repeat (first | apply Kd.R_alloc | apply Kd.R_drewN | apply Kd.R_drew)); exact HO_4.out))) (below_size (by repeat (first | (with_reducible first | exact HB.out | apply below_alloc | apply pw_below_drewN | apply below_drew1) | exact HB.out)))); have n2_ := Aside0.mk (below_step (by repeat (first | (with_reducible first | exact HB.out | apply below_alloc | apply pw_below_drewN | apply below_drew1) | exact HB.out)) hb); clear HO_4; clear HB; have HO_4 := n0_; have HO166 := n1_; have HB := n2_; clear n0_ n1_ n2_; clear hb ho18; obtain ⟨Ao20, co20, eo20⟩ := Kd.R_slice HO166.out; subst eo20) | ((with_reducible refine gate_builtin (b := .append) (xs := #[.tmp 29, .tmp 30]) rfl ?_); at_builtin; refine Kd.R_append_rows (Kd.int .u8) (w0 := w) w.heap.size rfl (.tmp 29) (.tmp 30) 48 5 (.int .u8 0) 1 rfl Try.underlying48 info5 rfl (by decide) (by omega) u4 x4_1 y164 _ _ _ (fun k_ => some k_ ≠ (.slice Ao20 y164.length co20 : Value).ownBlock) (fun _ => False) rfl rfl ?aO ?aR (fun _ _ h => h) (fun _ h => h.elim) ?aF ?aB ?aS ?aL ?_; (case aR => repeat (first | exact (Kd.R_reads' HO166.out).2.2 | (with_reducible refine Kd.C_alloc ?_ _) | (with_reducible refine Kd.C_drewN ?_ _) | (with_reducible refine Kd.C_drew ?_))); (case aB => exact (by repeat (first | (with_reducible first | exact HB.out | apply below_alloc | apply pw_below_drewN | apply below_drew1) | exact HB.out))); (case aF => exact (fun k_ hk => Kd.fresh' (Kd.R_lt (by (with_reducible repeat (first | apply Kd.R_alloc | apply Kd.R_drewN | apply Kd.R_drew)); exact HO166.out)) k_ hk)); (case aO => exact (by (with_reducible repeat (first | apply Kd.R_alloc | apply Kd.R_drewN | apply Kd.R_drew)); exact Kd.R_mono HO_4.out (fun _ hk => hk.2))); (case aS => exact (below_size (by repeat (first | (with_reducible first | exact HB.out | apply below_alloc | apply pw_below_drewN | apply below_drew1) | exact HB.out)))); (case aL => have := LMc16.out; omega); intro v168 w19 ho hb hg hat; rw [← Ny167.out] at ho; have n0_ := Aside0.mk (Kd.R_after (ok := (fun _ => True)) (by (with_reducible repeat (first | apply Kd.R_alloc | apply Kd.R_drewN | apply Kd.R_drew)); exact HO166.out) hg hat); have n1_ := Aside0.mk (hb); have n2_ := Aside0.mk (ho); clear HO166; clear HB; clear HO_4; have HO166 := n0_; have HB := n1_; have HO169 := n2_; clear n0_ n1_ n2_; clear ho hb hg hat; have hcv21 := own_string (P := Try.prog) Try.underlying48 Try.underlying5 Try.underlying9 (Kd.own_of_R (HO169.out))))
            go_ret2
            exact ⟨by first | rfl | (simp [errW_none, errW_some] <;> rfl) | (simp (disch := omega) only [← i64_w, IntWalk.i64_in]; rfl) | (simp [*, errW_none, errW_some] <;> rfl), by repeat (first | (with_reducible first | exact HB.out | apply below_alloc | apply pw_below_drewN | apply below_drew1) | exact HB.out)⟩
          · rw [if_neg c16] at H
            exact absurd H (by simp)
  · replace c3 := Bool.eq_false_iff.mpr c3
    subst c3
    have H1 : (some ((⟨#[]⟩ : ByteArray), 20)) = some (r1, r2) := by rw [if_neg (show ¬ (false = true) by decide)] at H; exact H
    clear H
    have H := H1
    clear H1
    simp only [Option.some.injEq, Prod.mk.injEq] at H
    obtain ⟨rfl, rfl⟩ := H
    go_enter Try.func21, Try.ntmps21
    go_wp2_with (first | ((with_reducible refine gate_callee (f := 15) rfl ?_); refine goesL_ (some 7) rfl rfl Try.func15 (by kernel_rfl) rfl #[.string a0] rfl (by (try simp only [List.map_toArray, List.map_cons, List.map_nil]); first | done | rfl | (simp only [List.length_drop, List.length_take]; rfl) | (simp (disch := omega) only [IntWalk.u64_in, IntWalk.i64_in, IntWalk.u8_in]; rfl)) ?_; (with_reducible refine (screeref02_May.calls a0 false _ A2.out).mono ?_); rintro e w' ⟨rfl, ⟨nd, rfl⟩⟩; refine ⟨_, rfl, ?_⟩))
    go_ret2
    exact ⟨by first | rfl | (simp [errW_none, errW_some] <;> rfl) | (simp (disch := omega) only [← i64_w, IntWalk.i64_in]; rfl) | (simp [*, errW_none, errW_some] <;> rfl), by repeat (first | (with_reducible first | exact HB.out | apply below_alloc | apply pw_below_drewN | apply below_drew1) | exact HB.out)⟩

/-! ### screeref02_First: function 17 -/
def screeref02_First.j0 : Nat → Int → ByteArray → Bool → Option (ByteArray × Int)
  | 0, _, _, _ => none
  | k + 1, x0, x1, x13 => if x13 = true then (some ((⟨#[]⟩ : ByteArray), 1)) else ((screeref02_Escape.f k x1).bind fun bt170 => (if bt170.2 = 0 then ((some (([(x0) % 256] : List Int) : List Int)).bind fun y172 => (if (strOfNums y172).size + bt170.1.size ≤ 9223372036854775807 then (some ((strOfNums y172) ++ bt170.1, 0)) else (none))) else (some ((⟨#[]⟩ : ByteArray), bt170.2))))
def screeref02_First.f (k : Nat) (a0 : Int) (a1 : ByteArray) : Option (ByteArray × Int) := if a0 < 1 then (screeref02_First.j0 k a0 a1 true) else (screeref02_First.j0 k a0 a1 (decide (a0 > 4)))
theorem screeref02_First.mono_l : ∀ k, (∀ y0 y1 y2, LeO (screeref02_First.j0 k y0 y1 y2) (screeref02_First.j0 (k + 1) y0 y1 y2))
  | 0 => fun _ _ _ r h => by simp [screeref02_First.j0] at h
  | k + 1 => by
    have ih0 := screeref02_First.mono_l k
    · intro y0 y1 y2
      unfold screeref02_First.j0
      repeat' first
      | (with_reducible exact ih0 _ _ _)
      | (with_reducible exact screeref02_Escape.mono _ _)
      | (with_reducible exact LeO.refl _)
      | (with_reducible exact LeO.none _)
      | (with_reducible refine LeO.ite ?_ ?_)
      | (with_reducible refine LeO.bind ?_ (fun _ => ?_))
      | exact ih0 _ _ _
      | exact screeref02_Escape.mono _ _
      | exact LeO.none _
      | refine LeO.ite ?_ ?_
      | refine LeO.bind ?_ (fun _ => ?_)
theorem screeref02_First.mono : ∀ a0 a1 k, LeO (screeref02_First.f k a0 a1) (screeref02_First.f (k + 1) a0 a1) := by
  intro a0 a1 k
  have ih0 := screeref02_First.mono_l k
  unfold screeref02_First.f
  repeat' first
      | (with_reducible exact ih0 _ _ _)
      | (with_reducible exact screeref02_Escape.mono _ _)
      | (with_reducible exact LeO.refl _)
      | (with_reducible exact LeO.none _)
      | (with_reducible refine LeO.ite ?_ ?_)
      | (with_reducible refine LeO.bind ?_ (fun _ => ?_))
      | exact ih0 _ _ _
      | exact screeref02_Escape.mono _ _
      | exact LeO.none _
      | refine LeO.ite ?_ ?_
      | refine LeO.bind ?_ (fun _ => ?_)
set_option maxHeartbeats 8000000 in
set_option maxRecDepth 100000 in
theorem screeref02_First.calls (k : Nat) (a0 : Int) (a1 : ByteArray) (r1 : ByteArray) (r2 : Int) (w : World) (h : screeref02_First.f k a0 a1 = some (r1, r2)) :
    Calls Try.prog 17 #[.int .i64 a0, .string a1] w fun e w' => e = .returned (.tuple #[.string r1, .int .i64 r2]) ∧ Below w.heap.size w w' := by
  have HB := Aside0.mk (Below.refl w.heap.size w)
  have H : (if a0 < 1 then (screeref02_First.j0 k a0 a1 true) else (screeref02_First.j0 k a0 a1 (decide (a0 > 4)))) = some (r1, r2) := h
  clear h
  have HC3 := Aside0.mk H
  clear H
  go_enter Try.func17, Try.ntmps17
  go_upto_region 1 with (fail)
  go_cut [13] (fun v13 wc => ∃ (kq : Nat) (x13_2 : Bool), v13 = .bool x13_2 ∧ Aside0 (screeref02_First.j0 kq a0 a1 x13_2 = some (r1, r2)) ∧ Aside0 (kq ≤ k) ∧ Aside0 (Below w.heap.size w wc))
  case first =>
    have H := HC3.out
    clear HC3
    by_cases c4 : a0 < 1
    · rw [if_pos c4] at H
      have c4b0 : decide (a0 < 1) = true := decide_eq_true c4
      clear c4
      (first | rw [c4b0] | (simp only [i64_w, i32_w]; rw [c4b0]) | skip)
      have H' := Aside0.mk H
      clear H
      go_wp2
      go_meet
      case rel => exact ⟨_, (true), (by first | rfl | (simp; done) | (simp [*]; done)), (by first | (with_reducible exact H') | exact H' | (subst_vars; exact H')), ⟨by first | omega | exact Nat.le_refl _⟩, ⟨by repeat (first | (with_reducible first | exact HB.out | apply below_alloc | apply pw_below_drewN | apply below_drew1) | exact HB.out)⟩⟩
    · rw [if_neg c4] at H
      have c4b0 : decide (a0 < 1) = false := decide_eq_false c4
      clear c4
      (first | rw [c4b0] | (simp only [i64_w, i32_w]; rw [c4b0]) | skip)
      have H' := Aside0.mk H
      clear H
      go_wp2
      go_meet
      case rel => exact ⟨_, (decide (a0 > 4)), (by first | rfl | (simp; done) | (simp [*]; done)), (by first | (with_reducible exact H') | exact H' | (subst_vars; exact H')), ⟨by first | omega | exact Nat.le_refl _⟩, ⟨by repeat (first | (with_reducible first | exact HB.out | apply below_alloc | apply pw_below_drewN | apply below_drew1) | exact HB.out)⟩⟩
  case rest =>
    clear HC3
    try clear c1
    try clear p2
    try clear c4
    try clear c4b0
    obtain ⟨kq, x13_2, rfl, HA, HJ2, HB⟩ := hcut
    cases kq with
    | zero => exact absurd HA.out (by simp [screeref02_First.j0])
    | succ kj2 =>
      have H := HA.out
      clear HA
      simp only [screeref02_First.j0] at H
      by_cases c5 : x13_2 = true
      · subst c5
        have H1 : (some ((⟨#[]⟩ : ByteArray), 1)) = some (r1, r2) := by rw [if_pos rfl] at H; exact H
        clear H
        have H := H1
        clear H1
        simp only [Option.some.injEq, Prod.mk.injEq] at H
        obtain ⟨rfl, rfl⟩ := H
        go_wp2
        go_ret2
        exact ⟨by first | rfl | (simp [errW_none, errW_some] <;> rfl) | (simp (disch := omega) only [← i64_w, IntWalk.i64_in]; rfl) | (simp [*, errW_none, errW_some] <;> rfl), by repeat (first | (with_reducible first | exact HB.out | apply below_alloc | apply pw_below_drewN | apply below_drew1) | exact HB.out)⟩
      · replace c5 := Bool.eq_false_iff.mpr c5
        subst c5
        have H1 : ((screeref02_Escape.f kj2 a1).bind fun bt170 => (if bt170.2 = 0 then ((some (([(a0) % 256] : List Int) : List Int)).bind fun y172 => (if (strOfNums y172).size + bt170.1.size ≤ 9223372036854775807 then (some ((strOfNums y172) ++ bt170.1, 0)) else (none))) else (some ((⟨#[]⟩ : ByteArray), bt170.2)))) = some (r1, r2) := by rw [if_neg (show ¬ (false = true) by decide)] at H; exact H
        clear H
        have H := H1
        clear H1
        replace H := Option.bind_eq_some_iff.mp H
        obtain ⟨⟨t170, t171⟩, A60, H⟩ := H
        replace H : (if t171 = 0 then ((some (([(a0) % 256] : List Int) : List Int)).bind fun y172 => (if (strOfNums y172).size + t170.size ≤ 9223372036854775807 then (some ((strOfNums y172) ++ t170, 0)) else (none))) else (some ((⟨#[]⟩ : ByteArray), t171))) = some (r1, r2) := H
        have A6 := Aside0.mk A60
        clear A60
        by_cases c7 : t171 = 0
        · rw [if_pos c7] at H
          have c7b0 : (t171 == 0) = true := beq_iff_eq.mpr c7
          have c7b1 : (t171 != 0) = false := bne_eq_false_iff_eq.mpr c7
          clear c7
          obtain ⟨y172, hy172⟩ : ∃ y_ : List Int, y_ = (([(a0) % 256] : List Int)) := ⟨_, rfl⟩
          replace H : (if (strOfNums y172).size + t170.size ≤ 9223372036854775807 then (some ((strOfNums y172) ++ t170, 0)) else (none)) = some (r1, r2) := by first | (rw [hy172]; with_reducible exact H) | (have H2_ := (Option.bind_some _ _).symm.trans H; rw [hy172]; with_reducible exact H2_) | (have H2_ := (Option.bind_some _ _).symm.trans H; with_reducible exact H2_) | with_reducible exact H | (rw [hy172]; exact H) | exact H
          have Ny172 := Aside0.mk hy172
          clear hy172
          by_cases c8 : (strOfNums y172).size + t170.size ≤ 9223372036854775807
          · rw [if_pos c8] at H
            have c8b0 := eq_true c8
            have c8b1 : decide ((strOfNums y172).size + t170.size ≤ 9223372036854775807) = true := decide_eq_true c8
            try have c8b2 : (9223372036854775807 < (strOfNums y172).size + t170.size) = False := eq_false (Nat.not_lt.2 c8)
            try (have c8b3 := c8b2; simp only [ByteArray.size_append] at c8b3)
            try (have c8b4 := c8b2; simp only [ByteArray.size_extract, ByteArray.size_append, Nat.sub_zero] at c8b4)
            simp only [Option.some.injEq, Prod.mk.injEq] at H
            obtain ⟨rfl, rfl⟩ := H
            go_wp2_with (first | ((with_reducible refine gate_callee (f := 21) rfl ?_); refine goesL_ (some 16) rfl rfl Try.func21 (by kernel_rfl) rfl #[.string a1] rfl (by (try simp only [List.map_toArray, List.map_cons, List.map_nil]); first | done | rfl | (simp only [List.length_drop, List.length_take]; rfl) | (simp (disch := omega) only [IntWalk.u64_in, IntWalk.i64_in, IntWalk.u8_in]; rfl)) ?_; (with_reducible refine (screeref02_Escape.calls kj2 a1 t170 t171 _ A6.out).mono ?_); rintro e w9 ⟨rfl, hb⟩; refine ⟨_, rfl, ?_⟩; have n0_ := Aside0.mk (below_step (by repeat (first | (with_reducible first | exact HB.out | apply below_alloc | apply pw_below_drewN | apply below_drew1) | exact HB.out)) hb); clear HB; have HB := n0_; clear n0_; (try clear hb); (try clear hb2); (try clear hk); (try clear hi); (try clear A6)) | ((with_reducible refine gate_dst (N := 24) rfl ?_); refine Kd.R_lit (Kd.int .u8) _ 5 ?hg (N := 24) ?hd (xs := ([(a0) % 256] : List Int)) (inner := [.int .u8 ((a0) % 256)]) (ok := fun _ => True) (okp := fun _ => True) ?hr ?hp (fun _ hk => hk) trivial (Below.refl _ _) (Nat.le_refl _) (by simp) ?_; (case hd => rfl); (case hg => rfl); (case hr => first | (go_simp; done) | (go_simp; rfl)); (case hp => exact (Reps.one (show Kd.M (Kd.int .u8) _ _ _ ((a0) % 256) [.int .u8 ((a0) % 256)] from rfl) (Reps.none _ _))); intro v173 w10 ho11 hb hg_ hnew_; clear hg_ hnew_; (first | rw [← Ny172.out] at ho11 | (simp only [Int.reduceToNat] at ho11; rw [← Ny172.out] at ho11)); have n0_ := Aside0.mk (Kd.R_lower ho11 (below_size (by repeat (first | (with_reducible first | exact HB.out | apply below_alloc | apply pw_below_drewN | apply below_drew1) | exact HB.out)))); have n1_ := Aside0.mk (below_step (by repeat (first | (with_reducible first | exact HB.out | apply below_alloc | apply pw_below_drewN | apply below_drew1) | exact HB.out)) hb); clear HB; have HO174 := n0_; have HB := n1_; clear n0_ n1_; clear hb ho11; have hcv12 := own_string (P := Try.prog) Try.underlying48 Try.underlying5 Try.underlying9 (Kd.own_of_R (HO174.out))))
            go_ret2
            exact ⟨by first | rfl | (simp [errW_none, errW_some] <;> rfl) | (simp (disch := omega) only [← i64_w, IntWalk.i64_in]; rfl) | (simp [*, errW_none, errW_some] <;> rfl), by repeat (first | (with_reducible first | exact HB.out | apply below_alloc | apply pw_below_drewN | apply below_drew1) | exact HB.out)⟩
          · rw [if_neg c8] at H
            exact absurd H (by simp)
        · rw [if_neg c7] at H
          have c7b0 : (t171 == 0) = false := beq_eq_false_iff_ne.mpr c7
          have c7b1 : (t171 != 0) = true := bne_iff_ne.mpr c7
          simp only [Option.some.injEq, Prod.mk.injEq] at H
          obtain ⟨rfl, rfl⟩ := H
          go_wp2_with (first | ((with_reducible refine gate_callee (f := 21) rfl ?_); refine goesL_ (some 16) rfl rfl Try.func21 (by kernel_rfl) rfl #[.string a1] rfl (by (try simp only [List.map_toArray, List.map_cons, List.map_nil]); first | done | rfl | (simp only [List.length_drop, List.length_take]; rfl) | (simp (disch := omega) only [IntWalk.u64_in, IntWalk.i64_in, IntWalk.u8_in]; rfl)) ?_; (with_reducible refine (screeref02_Escape.calls kj2 a1 t170 t171 _ A6.out).mono ?_); rintro e w13 ⟨rfl, hb⟩; refine ⟨_, rfl, ?_⟩; have n0_ := Aside0.mk (below_step (by repeat (first | (with_reducible first | exact HB.out | apply below_alloc | apply pw_below_drewN | apply below_drew1) | exact HB.out)) hb); clear HB; have HB := n0_; clear n0_; (try clear hb); (try clear hb2); (try clear hk); (try clear hi); (try clear A6)))
          go_ret2
          exact ⟨by first | rfl | (simp [errW_none, errW_some] <;> rfl) | (simp (disch := omega) only [← i64_w, IntWalk.i64_in]; rfl) | (simp [*, errW_none, errW_some] <;> rfl), by repeat (first | (with_reducible first | exact HB.out | apply below_alloc | apply pw_below_drewN | apply below_drew1) | exact HB.out)⟩

/-! ### screeref01_Long: function 35 -/
def screeref01_Long.l0 : Nat → Int → List Int → Int → Option (ByteArray)
  | 0, _, _, _ => none
  | k + 1, x0, x3, x4 => if x4 ≥ 0 then (if 0 ≤ x4 then (if x4 < (x3.length : Int) then (screeref01_Long.l0 k (IntKind.u64.wrap (Int.tdiv x0 256)) (x3.set (x4 : Int).toNat ((Int.tmod x0 256) % 256)) (wrap64 (x4 - 1))) else (none)) else (none)) else (some (strOfNums x3))
def screeref01_Long.f (k : Nat) (a0 : Int) : Option (ByteArray) := screeref01_Long.l0 k a0 (([0, 0, 0, 0, 0, 0, 0, 0] : List Int)) 7
theorem screeref01_Long.mono_l : ∀ k, (∀ y0 y1 y2, LeO (screeref01_Long.l0 k y0 y1 y2) (screeref01_Long.l0 (k + 1) y0 y1 y2))
  | 0 => fun _ _ _ r h => by simp [screeref01_Long.l0] at h
  | k + 1 => by
    have ih0 := screeref01_Long.mono_l k
    · intro y0 y1 y2
      unfold screeref01_Long.l0
      repeat' first
      | (with_reducible exact ih0 _ _ _)
      | (with_reducible exact LeO.refl _)
      | (with_reducible exact LeO.none _)
      | (with_reducible refine LeO.ite ?_ ?_)
      | (with_reducible refine LeO.bind ?_ (fun _ => ?_))
      | exact ih0 _ _ _
      | exact LeO.none _
      | refine LeO.ite ?_ ?_
      | refine LeO.bind ?_ (fun _ => ?_)
theorem screeref01_Long.mono : ∀ a0 k, LeO (screeref01_Long.f k a0) (screeref01_Long.f (k + 1) a0) := by
  intro a0 k
  have ih0 := screeref01_Long.mono_l k
  unfold screeref01_Long.f
  repeat' first
      | (with_reducible exact ih0 _ _ _)
      | (with_reducible exact LeO.refl _)
      | (with_reducible exact LeO.none _)
      | (with_reducible refine LeO.ite ?_ ?_)
      | (with_reducible refine LeO.bind ?_ (fun _ => ?_))
      | exact ih0 _ _ _
      | exact LeO.none _
      | refine LeO.ite ?_ ?_
      | refine LeO.bind ?_ (fun _ => ?_)
set_option maxHeartbeats 8000000 in
set_option maxRecDepth 100000 in
theorem screeref01_Long.calls (k : Nat) (a0 : Int) (r : ByteArray) (w : World) (h : screeref01_Long.f k a0 = some r) :
    Calls Try.prog 35 #[.int .u64 a0] w fun e w' => e = .returned (.string r) ∧ Below w.heap.size w w' := by
  have HB := Aside0.mk (Below.refl w.heap.size w)
  have H : (screeref01_Long.l0 k a0 (([0, 0, 0, 0, 0, 0, 0, 0] : List Int)) 7) = some r := h
  clear h
  obtain ⟨y175, hy175⟩ : ∃ y_ : List Int, y_ = (([0, 0, 0, 0, 0, 0, 0, 0] : List Int)) := ⟨_, rfl⟩
  replace H : (screeref01_Long.l0 k a0 y175 7) = some r := by first | (rw [hy175]; with_reducible exact H) | (have H2_ := (Option.bind_some _ _).symm.trans H; rw [hy175]; with_reducible exact H2_) | (have H2_ := (Option.bind_some _ _).symm.trans H; with_reducible exact H2_) | with_reducible exact H | (rw [hy175]; exact H) | exact H
  have Ny175 := Aside0.mk hy175
  clear hy175
  have H' := Aside0.mk H
  clear H
  go_enter Try.func35, Try.ntmps35
  go_wp2_with (first | ((with_reducible refine gate_dst (N := 5) rfl ?_); refine Kd.R_lit (Kd.int .u8) _ 5 ?hg (N := 5) ?hd (xs := ([0, 0, 0, 0, 0, 0, 0, 0] : List Int)) (inner := [.int .u8 0, .int .u8 0, .int .u8 0, .int .u8 0, .int .u8 0, .int .u8 0, .int .u8 0, .int .u8 0]) (ok := fun _ => True) (okp := fun _ => True) ?hr ?hp (fun _ hk => hk) trivial (Below.refl _ _) (Nat.le_refl _) (by simp) ?_; (case hd => rfl); (case hg => rfl); (case hr => first | (go_simp; done) | (go_simp; rfl)); (case hp => exact (Reps.one (show Kd.M (Kd.int .u8) _ _ _ 0 [.int .u8 0] from rfl) (Reps.one (show Kd.M (Kd.int .u8) _ _ _ 0 [.int .u8 0] from rfl) (Reps.one (show Kd.M (Kd.int .u8) _ _ _ 0 [.int .u8 0] from rfl) (Reps.one (show Kd.M (Kd.int .u8) _ _ _ 0 [.int .u8 0] from rfl) (Reps.one (show Kd.M (Kd.int .u8) _ _ _ 0 [.int .u8 0] from rfl) (Reps.one (show Kd.M (Kd.int .u8) _ _ _ 0 [.int .u8 0] from rfl) (Reps.one (show Kd.M (Kd.int .u8) _ _ _ 0 [.int .u8 0] from rfl) (Reps.one (show Kd.M (Kd.int .u8) _ _ _ 0 [.int .u8 0] from rfl) (Reps.none _ _)))))))))); intro v176 w2 ho3 hb hg_ hnew_; clear hg_ hnew_; (first | rw [← Ny175.out] at ho3 | (simp only [Int.reduceToNat] at ho3; rw [← Ny175.out] at ho3)); have n0_ := Aside0.mk (Kd.R_lower ho3 (below_size (by repeat (first | (with_reducible first | exact HB.out | apply below_alloc | apply pw_below_drewN | apply below_drew1) | exact HB.out)))); have n1_ := Aside0.mk (below_step (by repeat (first | (with_reducible first | exact HB.out | apply below_alloc | apply pw_below_drewN | apply below_drew1) | exact HB.out)) hb); clear HB; have HO177 := n0_; have HB := n1_; clear n0_ n1_; clear hb ho3))
  go_loopg [0, 4] k (fun kq v0 v4 w' => ∃ (x0_1 : Int) (x3_1 : List Int) (x4_1 : Int), v0 = .int .u64 x0_1 ∧ v4 = .int .i64 x4_1 ∧ Aside0 (screeref01_Long.l0 kq x0_1 x3_1 x4_1 = some r) ∧ Aside0 (kq ≤ k) ∧ Aside0 (Kd.R (Kd.int .u8) 5 w' w.heap.size (fun _ => True) v176 x3_1) ∧ Aside0 (Below w.heap.size w w'))
  case atStart => exact ⟨(a0), (y175), (7), (by first | rfl | (simp; done) | (simp [*]; done)), (by first | rfl | (simp; done) | (simp [*]; done)), H', ⟨Nat.le_refl _⟩, ⟨by (with_reducible repeat (first | apply Kd.R_alloc | apply Kd.R_drewN | apply Kd.R_drew)); exact HO177.out⟩, ⟨by repeat (first | (with_reducible first | exact HB.out | apply below_alloc | apply pw_below_drewN | apply below_drew1) | exact HB.out)⟩⟩
  case round =>
    clear H'
    try clear p2
    try clear c3
    obtain ⟨x0_1, x3_1, x4_1, rfl, rfl, HA, HK1, HO_3, HB⟩ := hrel
    cases gk with
    | zero => exact absurd HA.out (by simp [screeref01_Long.l0])
    | succ k1 =>
      have H := HA.out
      clear HA
      simp only [screeref01_Long.l0] at H
      by_cases c4 : x4_1 ≥ 0
      · rw [if_pos c4] at H
        have c4b0 : decide (0 ≤ x4_1) = true := decide_eq_true c4
        clear c4
        by_cases c5 : 0 ≤ x4_1
        · rw [if_pos c5] at H
          have c5b0 : decide (0 ≤ x4_1) = true := decide_eq_true c5
          clear c5
          by_cases c6 : x4_1 < (x3_1.length : Int)
          · rw [if_pos c6] at H
            have c6b0 : decide (x4_1 < (x3_1.length : Int)) = true := decide_eq_true c6
            clear c6
            obtain ⟨y178, hy178⟩ : ∃ y_ : List Int, y_ = (x3_1.set (x4_1 : Int).toNat ((Int.tmod x0_1 256) % 256)) := ⟨_, rfl⟩
            replace H : (screeref01_Long.l0 k1 (IntKind.u64.wrap (Int.tdiv x0_1 256)) y178 (wrap64 (x4_1 - 1))) = some r := by first | (rw [hy178]; with_reducible exact H) | (have H2_ := (Option.bind_some _ _).symm.trans H; rw [hy178]; with_reducible exact H2_) | (have H2_ := (Option.bind_some _ _).symm.trans H; with_reducible exact H2_) | with_reducible exact H | (rw [hy178]; exact H) | exact H
            have Ny178 := Aside0.mk hy178
            clear hy178
            have H' := Aside0.mk H
            clear H
            have p7 : 0 ≤ (x4_1 : Int) := of_decide_eq_true (by first | (with_reducible assumption) | assumption)
            have q7 : (x4_1 : Int) < ((x3_1.length : Int) : Int) := of_decide_eq_true (by first | (with_reducible assumption) | assumption)
            obtain ⟨go7, co7, eo7, gb7, gl7, cl7, HG7⟩ := Kd.R_form HO_3.out (by omega)
            (first | cases eo7 | (injection eo7 with ea_ en_ ec_; (first | subst ea_ | (injection ea_ with ea_; subst ea_)); subst ec_; clear en_))
            have GB7 := Aside0.mk gb7
            have GG7 := Aside0.mk HG7
            clear gb7 gl7 HG7
            obtain ⟨hx7_0, hf7_0⟩ := Kd.R_celln 0 HO_3.out (x4_1 : Int) p7 q7
            replace p7 := eq_true p7
            replace q7 := eq_true q7
            have HP8 := Kd.R_putg HO_3.out (x4_1 : Int) ((Int.tmod x0_1 256) % 256)
            go_wp2_with (first | ((with_reducible refine gate_store (t := 5) (p := 15) rfl ?_); refine store_event (t := 5) (p := 15) (v := ?vo_w9) (w1 := (wr.setCell ⟨go7, (x4_1 : Int).toNat, none⟩ (.int .u8 ((Int.tmod x0_1 256) % 256)))) ?hg ?ho ?hn ?hr ?_; (case ho => rfl); (case hg => rfl); (case hn => rfl); (case hr => first | (go_simp; done) | (go_simp; rfl)); intro w9 hw; have hg : wr.grownBy w9 (some go7) := (by rw [hw]; exact HP8.2); have hp_ : Kd.R (Kd.int .u8) 5 w9 w.heap.size (fun _ => True) (.slice (some ⟨go7, 0, none⟩) x3_1.length co7) y178 := (by rw [hw, Ny178.out]; exact HP8.1); clear HP8; have n0_ := Aside0.mk (hp_); have n1_ := Aside0.mk ((by rw [hw]; exact below_set (HB.out) GB7.out : Below w.heap.size w w9)); clear HO_3; clear HB; have HO_3 := n0_; have HB := n1_; clear n0_ n1_; clear hg hw hp_))
            go_roundg k1
            case measure => have := HK1.out; omega
            case rel => exact ⟨(IntKind.u64.wrap (Int.tdiv x0_1 256)), (y178), (wrap64 (x4_1 - 1)), (by first | rfl | (simp; done) | (simp [*]; done)), (by first | rfl | (simp; done) | (simp [*]; done)), (by first | (with_reducible exact H') | exact H' | (subst_vars; exact H')), ⟨by have := HK1.out; omega⟩, ⟨by (with_reducible repeat (first | apply Kd.R_alloc | apply Kd.R_drewN | apply Kd.R_drew)); exact HO_3.out⟩, ⟨by repeat (first | (with_reducible first | exact HB.out | apply below_alloc | apply pw_below_drewN | apply below_drew1) | exact HB.out)⟩⟩
          · rw [if_neg c6] at H
            exact absurd H (by simp)
        · rw [if_neg c5] at H
          exact absurd H (by simp)
      · rw [if_neg c4] at H
        have c4b0 : decide (0 ≤ x4_1) = false := decide_eq_false c4
        clear c4
        obtain rfl := Option.some.inj H
        have hcv10 := own_string (P := Try.prog) Try.underlying48 Try.underlying5 Try.underlying9 (Kd.own_of_R (HO_3.out))
        go_wp2
        go_ret
        exact ⟨by first | rfl | (simp [errW_none, errW_some] <;> rfl) | (simp (disch := omega) only [← i64_w, IntWalk.i64_in]; rfl) | (simp [*, errW_none, errW_some] <;> rfl), by repeat (first | (with_reducible first | exact HB.out | apply below_alloc | apply pw_below_drewN | apply below_drew1) | exact HB.out)⟩

/-! ### screeref01_Turned: function 36 -/
def screeref01_Turned.f (a0 : Int) : Option (Int) := some (IntKind.u64.wrap (18446744073709551615 - a0))
set_option maxHeartbeats 8000000 in
set_option maxRecDepth 100000 in
theorem screeref01_Turned.calls (a0 : Int) (r : Int) (w : World) (h : screeref01_Turned.f a0 = some r) :
    Calls Try.prog 36 #[.int .u64 a0] w fun e w' => e = .returned (.int .u64 r) ∧ Drawn0 w w' := by
  have H : (some (IntKind.u64.wrap (18446744073709551615 - a0))) = some r := h
  clear h
  obtain rfl := Option.some.inj H
  go_enter Try.func36, Try.ntmps36
  go_wp2
  go_ret
  exact ⟨by first | rfl | (simp; done) | (simp [*]; done), by repeat (first | exact Drawn0.refl _ | apply Drawn0.step)⟩

/-! ### screeref01_Fall: function 28 -/
def screeref01_Fall.f (k : Nat) (a0 : Int) : Option (ByteArray) := (screeref01_Turned.f a0).bind fun t179 => ((screeref01_Long.f k t179).bind fun t180 => (some t180))
theorem screeref01_Fall.mono : ∀ a0 k, LeO (screeref01_Fall.f k a0) (screeref01_Fall.f (k + 1) a0) := by
  intro a0 k
  unfold screeref01_Fall.f
  repeat' first
      | (with_reducible exact screeref01_Long.mono _ _)
      | (with_reducible exact LeO.refl _)
      | (with_reducible exact LeO.none _)
      | (with_reducible refine LeO.ite ?_ ?_)
      | (with_reducible refine LeO.bind ?_ (fun _ => ?_))
      | exact screeref01_Long.mono _ _
      | exact LeO.none _
      | refine LeO.ite ?_ ?_
      | refine LeO.bind ?_ (fun _ => ?_)
set_option maxHeartbeats 8000000 in
set_option maxRecDepth 100000 in
theorem screeref01_Fall.calls (k : Nat) (a0 : Int) (r : ByteArray) (w : World) (h : screeref01_Fall.f k a0 = some r) :
    Calls Try.prog 28 #[.int .u64 a0] w fun e w' => e = .returned (.string r) ∧ Below w.heap.size w w' := by
  have HB := Aside0.mk (Below.refl w.heap.size w)
  have H : ((screeref01_Turned.f a0).bind fun t179 => ((screeref01_Long.f k t179).bind fun t180 => (some t180))) = some r := h
  clear h
  replace H := Option.bind_eq_some_iff.mp H
  obtain ⟨t179, A20, H⟩ := H
  replace H : ((screeref01_Long.f k t179).bind fun t180 => (some t180)) = some r := H
  have A2 := Aside0.mk A20
  clear A20
  replace H := Option.bind_eq_some_iff.mp H
  obtain ⟨t180, A30, H⟩ := H
  replace H : (some t180) = some r := H
  have A3 := Aside0.mk A30
  clear A30
  obtain rfl := Option.some.inj H
  go_enter Try.func28, Try.ntmps28
  go_wp2_with (first | ((with_reducible refine gate_callee (f := 36) rfl ?_); refine goesL_ (some 4) rfl rfl Try.func36 (by kernel_rfl) rfl #[.int .u64 a0] rfl (by (try simp only [List.map_toArray, List.map_cons, List.map_nil]); first | done | rfl | (simp only [List.length_drop, List.length_take]; rfl) | (simp (disch := omega) only [IntWalk.u64_in, IntWalk.i64_in, IntWalk.u8_in]; rfl)) ?_; (with_reducible refine (screeref01_Turned.calls a0 t179 _ A2.out).mono ?_); rintro e w' ⟨rfl, ⟨nd, rfl⟩⟩; refine ⟨_, rfl, ?_⟩) | ((with_reducible refine gate_callee (f := 35) rfl ?_); refine goesL_ (some 5) rfl rfl Try.func35 (by kernel_rfl) rfl #[.int .u64 t179] rfl (by (try simp only [List.map_toArray, List.map_cons, List.map_nil]); first | done | rfl | (simp only [List.length_drop, List.length_take]; rfl) | (simp (disch := omega) only [IntWalk.u64_in, IntWalk.i64_in, IntWalk.u8_in]; rfl)) ?_; (with_reducible refine (screeref01_Long.calls k t179 t180 _ A3.out).mono ?_); rintro e w4 ⟨rfl, hb⟩; refine ⟨_, rfl, ?_⟩; have n0_ := Aside0.mk (below_step (by repeat (first | (with_reducible first | exact HB.out | apply below_alloc | apply pw_below_drewN | apply below_drew1) | exact HB.out)) hb); clear HB; have HB := n0_; clear n0_; (try clear hb); (try clear hb2); (try clear hk); (try clear hi); (try clear A3)))
  go_ret
  exact ⟨by first | rfl | (simp [errW_none, errW_some] <;> rfl) | (simp (disch := omega) only [← i64_w, IntWalk.i64_in]; rfl) | (simp [*, errW_none, errW_some] <;> rfl), by repeat (first | (with_reducible first | exact HB.out | apply below_alloc | apply pw_below_drewN | apply below_drew1) | exact HB.out)⟩

end Go.Proofs.Ytachminlgcndnaa.P
