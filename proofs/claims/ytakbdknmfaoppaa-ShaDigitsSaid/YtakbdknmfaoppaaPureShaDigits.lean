/-
  The law ShaDigits in plain Lean: the digits of two texts, one behind the other, are those of both; sums have 64 digits.
-/
import Derived.Test.YtakbdknmfaoppaaB1
namespace Go.Proofs.Ytakbdknmfaoppaa.Pure
open Go.RowKit Go.Proofs.Ytakbdknmfaoppaa.R Go.Proofs.Ytakbdknmfaoppaa.T Go.Proofs.YtakbdknmfaoppaaW.PrintWords Go.Proofs.YtakbdknmfaoppaaW.PrintLast
theorem ShaDigits : bailiwicklaw03_ShaDigits.Pure := by
  intro a b n _ _ hn
  have hn2 : 0 ≤ n ∧ n ≤ 255 := by simp [Lit.wf, IntKind.min, IntKind.max, IntKind.signed, IntKind.bits] at hn; omega
  have hw : wrap64 n = n := by unfold wrap64; omega
  have ha : (a.extract 0 (mn (a.size : Int) 200).toNat).size ≤ 200 := cut_size a 200
  have hb : (b.extract 0 (mn (b.size : Int) 200).toNat).size ≤ 200 := cut_size b 200
  have ma := mn_le a.size 200 (by decide)
  have mb := mn_le b.size 200 (by decide)
  unfold bailiwicklaw03_ShaDigits.f
  rw [ex_eq, Option.bind_some, if_pos rfl, if_pos ma.1, if_pos ma.2.2, if_pos mb.1, if_pos mb.2.2, hw, if_pos hn2.1, if_pos (by omega)]
  generalize a.extract 0 (mn (a.size : Int) 200).toNat = x at *
  generalize b.extract 0 (mn (b.size : Int) 200).toNat = y at *
  rw [if_pos (by omega), hex_f _ (by rw [ByteArray.size_append]; omega), Option.bind_some, hex_f _ (by omega), Option.bind_some, hex_f _ (by omega), Option.bind_some]
  rw [if_pos (by rw [hexB_size, hexB_size]; omega), if_pos (by rw [toList_eq, toList_eq, hexB_data, ByteArray.data_append, ByteArray.data_append, Array.toList_append, Array.toList_append, hexL_append, hexB_data, hexB_data])]
  rw [sum_f _ (by omega), Option.bind_some, hex_f _ (by rw [sumB_size]; decide), Option.bind_some, if_pos (by rw [hexB_size, sumB_size]; rfl), sum_f _ (by rw [strOf_size, List.length_replicate]; omega), Option.bind_some, sumB_size]
  rfl
end Go.Proofs.Ytakbdknmfaoppaa.Pure
