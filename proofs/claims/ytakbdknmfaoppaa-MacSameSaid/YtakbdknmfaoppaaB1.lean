/-
  Plain facts about sums and digits.
-/
import Derived.Test.YtakbdknmfaoppaaTx1
import Derived.Test.YtakbdknmfaoppaaB0
namespace Go.Proofs.Ytakbdknmfaoppaa.Pure
set_option linter.unusedVariables false
set_option linter.unusedSimpArgs false
open Go.RowKit Go.Proofs.Ytakbdknmfaoppaa.R Go.Proofs.YtakbdknmfaoppaaW.PrintWords Go.Proofs.YtakbdknmfaoppaaW.PrintLast
theorem toList_eq (b : ByteArray) : b.toList = b.data.toList := Lib.toList_data b
theorem sum_f (s : ByteArray) (h : s.size ≤ 1000000) : Sum.f s = some (sumB s) := by rw [Sum.f, if_pos h]
theorem hex_f (s : ByteArray) (h : s.size ≤ 1000000) : Hex.f s = some (hexB s) := by rw [Hex.f, if_pos h]
theorem hexB_size (s : ByteArray) : (hexB s).size = 2 * s.size := by
  show (hexL s.data.toList).toArray.size = _
  rw [List.size_toArray, hexL_len, Array.length_toList]
  rfl
theorem blk_len (p : ByteArray) : ∀ f i h, h.length = 8 → (blk p f i h).length = 8 := by
  intro f
  induction f with
  | zero => intro i h e; exact e
  | succ f ih => intro i h e; rw [blk]; exact ih _ _ (mixF_len _ _ _ e)
theorem outF_len (h : List Int) : (outF h).length = 4 * h.length := by
  induction h with
  | nil => rfl
  | cons a t ih => simp only [outF, List.flatMap_cons, List.length_append] at *; rw [ih]; simp [four]; omega
theorem strOf_size (l : List Int) : (strOfNums l).size = l.length := by
  unfold strOfNums
  simp [ByteArray.size]
theorem sumB_size (s : ByteArray) : (sumB s).size = 32 := by
  rw [sumB, strOf_size, outF_len, blk_len _ _ _ _ H0_len]
theorem hexB_data (s : ByteArray) : (hexB s).data.toList = hexL s.data.toList := by simp [hexB]
theorem hexL_append (a b : List UInt8) : hexL (a ++ b) = hexL a ++ hexL b := by simp [hexL]
theorem ex_eq : T.bailiwicklaw03_examples.f = some true := by
  unfold T.bailiwicklaw03_examples.f
  rw [sum_f _ (by decide), Option.bind_some, hex_f _ (by rw [sumB_size]; decide), Option.bind_some, toList_eq, hexB_data]
  rw [show (⟨#[97, 98, 99]⟩ : ByteArray) = ofL [97, 98, 99] from rfl, ex_abc]
  rfl
theorem mn_le (a : Nat) (n : Int) (h : 0 ≤ n) : 0 ≤ mn (a : Int) n ∧ mn (a : Int) n ≤ n ∧ mn (a : Int) n ≤ a := by
  unfold mn
  split <;> omega
theorem cut_size (s : ByteArray) (n : Nat) : (s.extract 0 (mn (s.size : Int) (n : Int)).toNat).size ≤ n := by
  have := mn_le s.size n (by omega)
  rw [ByteArray.size_extract]
  omega
end Go.Proofs.Ytakbdknmfaoppaa.Pure
