/- block: awake. -/
import Derived.Test.YtcogolbgfkikfaaPx0
import Derived.Test.YtcogolbgfkikfaaPx8
import Derived.Test.YtcogolbgfkikfaaBlk8
set_option linter.unusedVariables false
set_option linter.unusedSimpArgs false
namespace Go.Proofs.Ytcogolbgfkikfaa.BlkS
open Go.RowKit Go.Proofs.Ytcogolbgfkikfaa.P Go.Proofs.Ytcogolbgfkikfaa.Th Go.Proofs.Ytcogolbgfkikfaa.NumS Go.Proofs.YtcogolbgfkikfaaW.PrintWords Go.Proofs.YtcogolbgfkikfaaW.PrintLast Go.Proofs.YtcogolbgfkikfaaW.PrintMore

theorem enc_r : encr [xa, xb] = (lb (encB [xa, xb]), 0) := by unfold encr; rw [if_pos row_ab]
theorem awake_ev : Ev (fun k => screelaw09_awake.f k) true := by
  unfold screelaw09_awake.f
  refine Ev.just (a := [xa, xb]) rfl ?_
  refine Ev.bind (Ev.eq (Encode_ev [xa, xb] (by simp)) enc_r) ?_
  refine Ev.bind (Ev.eq (Decode_ev (encB [xa, xb]) (by rw [enc_ab]; decide)) (decr_enc row_ab)) ?_
  refine Ev.bind seek_a ?_
  refine Ev.bind seek_b ?_
  refine Ev.bind (a := (lb [], 2)) (Ev.eq (Encode_ev [] (by simp)) (by rfl)) ?_
  refine Ev.pos (by rw [lb_size, enc_ab]; decide) ?_
  have hq := Decode_ev [0, 2, 97, 98, 3, 0, 1, 120, 2, 1, 99, 2, 1, 0, 0, 0, 0, 0, 0, 0, 0, 0, 0, 0, 0, 0, 0, 0, 0, 2, 63] (by decide)
  rw [dec_q] at hq
  have e : lb (encB [xa, xb]) ++ (⟨#[63]⟩ : ByteArray) = lb [0, 2, 97, 98, 3, 0, 1, 120, 2, 1, 99, 2, 1, 0, 0, 0, 0, 0, 0, 0, 0, 0, 0, 0, 0, 0, 0, 0, 0, 2, 63] := by
    rw [show (⟨#[63]⟩ : ByteArray) = lb [63] from rfl, lb_append, enc_ab]; rfl
  simp only [e]
  refine Ev.bind hq ?_
  refine Ev.pos (by rw [lb_toList, enc_ab]) (Ev.pos (by first | trivial | rfl) ?_)
  refine Ev.bind (Same_self [xa, xb] (by simp)) (Ev.pos (by first | trivial | rfl) (Ev.pos (by first | trivial | rfl) (Ev.pos (by decide) (Ev.pos (by rw [show rd_T35 [xa, xb] 1 = xb from rfl]; simp) (Ev.pos (by first | trivial | rfl) (Ev.pos (by first | trivial | rfl) (Ev.neg (by simp) (Ev.pos (by first | trivial | rfl) (Ev.pos (by first | trivial | rfl) (Ev.pos (by first | trivial | rfl) ?_))))))))))
  refine Ev.bind (Shared_ev [97, 98, 99] [97, 98, 100] (by simp)) (Ev.pos (by decide) ?_)
  have hc := Count_ev (encB [xa, xb]) (by rw [enc_ab]; decide)
  rw [cnt_enc (by simp)] at hc
  exact Ev.bind hc (Ev.pos (by first | trivial | rfl) (Ev.val rfl))
end Go.Proofs.Ytcogolbgfkikfaa.BlkS
