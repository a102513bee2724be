/-
  The law ShaKnown in plain Lean: the sums of nothing and of one known text are the known ones, and a byte has two digits.
-/
import Derived.Test.YtakbdknmfaoppaaB1
namespace Go.Proofs.Ytakbdknmfaoppaa.Pure
open Go.RowKit Go.Proofs.Ytakbdknmfaoppaa.R Go.Proofs.Ytakbdknmfaoppaa.T Go.Proofs.YtakbdknmfaoppaaW.PrintWords Go.Proofs.YtakbdknmfaoppaaW.PrintLast
theorem known0 : hexL (sumB (ofL [])).data.toList = [101, 51, 98, 48, 99, 52, 52, 50, 57, 56, 102, 99, 49, 99, 49, 52, 57, 97, 102, 98, 102, 52, 99, 56, 57, 57, 54, 102, 98, 57, 50, 52, 50, 55, 97, 101, 52, 49, 101, 52, 54, 52, 57, 98, 57, 51, 52, 99, 97, 52, 57, 53, 57, 57, 49, 98, 55, 56, 53, 50, 98, 56, 53, 53] := by decide +kernel
theorem known1 : hexL (sumB (ofL [97, 98, 99, 100, 98, 99, 100, 101, 99, 100, 101, 102, 100, 101, 102, 103, 101, 102, 103, 104, 102, 103, 104, 105, 103, 104, 105, 106, 104, 105, 106, 107, 105, 106, 107, 108, 106, 107, 108, 109, 107, 108, 109, 110, 108, 109, 110, 111, 109, 110, 111, 112, 110, 111, 112, 113])).data.toList = [50, 52, 56, 100, 54, 97, 54, 49, 100, 50, 48, 54, 51, 56, 98, 56, 101, 53, 99, 48, 50, 54, 57, 51, 48, 99, 51, 101, 54, 48, 51, 57, 97, 51, 51, 99, 101, 52, 53, 57, 54, 52, 102, 102, 50, 49, 54, 55, 102, 54, 101, 99, 101, 100, 100, 52, 49, 57, 100, 98, 48, 54, 99, 49] := by decide +kernel
theorem ShaKnown : bailiwicklaw03_ShaKnown.Pure := by
  intro c _
  unfold bailiwicklaw03_ShaKnown.f
  rw [ex_eq, Option.bind_some, if_pos rfl, sum_f _ (by decide), Option.bind_some, hex_f _ (by rw [sumB_size]; decide), Option.bind_some, sum_f _ (by decide), Option.bind_some, hex_f _ (by rw [sumB_size]; decide), Option.bind_some, hex_f _ (by rw [strOf_size]; simp), Option.bind_some]
  rw [if_pos (by rw [hexB_size, strOf_size]; rfl), toList_eq, toList_eq, hexB_data, hexB_data]
  rw [show (⟨#[]⟩ : ByteArray) = ofL [] from rfl, known0, if_pos rfl]
  have e := known1
  unfold ofL at e
  rw [e]
  rfl
end Go.Proofs.Ytakbdknmfaoppaa.Pure
