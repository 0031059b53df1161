/- key: what is fixed of it. -/
import Derived.Test.YtachminlgcndnaaKey2
set_option linter.unusedVariables false
set_option linter.unusedSimpArgs false
namespace Go.Proofs.Ytachminlgcndnaa.KeyS
open Go.RowKit Go.Proofs.Ytachminlgcndnaa.P Go.Proofs.Ytachminlgcndnaa.Th Go.Proofs.Ytachminlgcndnaa.NumS Go.Proofs.Ytachminlgcndnaa.KeyT Go.Proofs.YtachminlgcndnaaW.PrintWords Go.Proofs.YtachminlgcndnaaW.PrintLast Go.Proofs.YtachminlgcndnaaW.PrintMore

theorem awake_ev : Ev (fun k => screelaw02_awake.f k) true := by
  unfold screelaw02_awake.f
  have h1 := Ev.eq (Make_ev 2 [97] 300 (by decide)) (show mkr 2 [97] 300 = (lb [2, 97, 0, 1, 255, 255, 255, 255, 255, 255, 254, 211], 0) by decide +kernel)
  have h2 := Ev.eq (Read_ev [2, 97, 0, 1, 255, 255, 255, 255, 255, 255, 254, 211] (by decide)) (show rdr [2, 97, 0, 1, 255, 255, 255, 255, 255, 255, 254, 211] = (2, lb [97], 300, 0) by decide +kernel)
  have h3 : key_Escape.f (lb [97, 0, 98]) = some (lb [97, 0, 255, 98, 0, 1], 0) := by rw [Escape_f]; decide +kernel
  have h4 : key_Unescape.f (lb [97, 0, 255, 98, 0, 1] ++ (⟨#[122, 122]⟩ : ByteArray)) = some (lb [97, 0, 98], lb [122, 122], 0) := by
    rw [lb_arr, lb_append, Unescape_f _ (by decide)]; decide +kernel
  have h5 := Ev.eq (Make_ev 9 [97] 0 (by decide)) (show mkr 9 [97] 0 = (lb [], 1) by decide +kernel)
  have h6 : key_First.f 1 (lb [97]) = some (lb [1, 97, 0, 1], 0) := by rw [First_f]; decide +kernel
  have h7 : key_Behind.f 1 (lb [97]) = some (lb [1, 97, 0, 2], 0) := by rw [Behind_f]; decide +kernel
  have h8 : key_Family.f 3 = some (lb [3], lb [4], 0) := by rw [Family_f]; decide +kernel
  refine Ev.bind h1 (Ev.bind h2 (Ev.just h3 (Ev.pos (by decide) (Ev.just h4 (Ev.bind h5 (Ev.just h6 (Ev.just h7 (Ev.just h8 ?_))))))))
  simp only [lb_toList]
  repeat (first | refine Ev.pos trivial ?_ | refine Ev.pos rfl ?_ | refine Ev.pos (by decide) ?_)
  refine Ev.just (show key_May.f (⟨#[97]⟩ : ByteArray) = some true from May_f [97]) (Ev.pos rfl ?_)
  exact Ev.just (show key_May.f (⟨#[]⟩ : ByteArray) = some false from May_f []) (Ev.val rfl)

end Go.Proofs.Ytachminlgcndnaa.KeyS
