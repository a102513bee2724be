/-
  The law ShaSums in plain Lean: any text of at most 1000 bytes has the sum and the digits that the document's answer gives.
-/
import Derived.Test.YtakbdknmfaoppaaB3
namespace Go.Proofs.Ytakbdknmfaoppaa.Pure
open Go.RowKit Go.Proofs.Ytakbdknmfaoppaa.R Go.Proofs.Ytakbdknmfaoppaa.T Go.Proofs.YtakbdknmfaoppaaW.PrintWords Go.Proofs.YtakbdknmfaoppaaW.PrintLast
theorem ShaSums : bailiwicklaw03_ShaSums.Pure := by
  intro a _
  have ha : (a.extract 0 (mn (a.size : Int) 1000).toNat).size ≤ 1000 := cut_size a 1000
  have ma := mn_le a.size 1000 (by decide)
  refine ⟨2000, ?_⟩
  unfold bailiwicklaw03_ShaSums.f
  rw [ex_eq, Option.bind_some, if_pos rfl, if_pos ma.1, if_pos ma.2.2]
  generalize a.extract 0 (mn (a.size : Int) 1000).toNat = x at *
  rw [sum_f _ (by omega), Option.bind_some, sum_ref x ha _ (by omega), Option.bind_some, if_pos rfl, hex_f _ (by omega), Option.bind_some, hex_ref x ha _ (by omega), Option.bind_some]
  simp
end Go.Proofs.Ytakbdknmfaoppaa.Pure
