/-
  The law MacTags in plain Lean: any key and text have the code and the tag that the document's answer gives, and two texts are told to be the same just if they are.
-/
import Derived.Test.YtakbdknmfaoppaaB4
import Derived.Test.YtakbdknmfaoppaaMx2
namespace Go.Proofs.Ytakbdknmfaoppaa.Pure
set_option linter.unusedVariables false
set_option linter.unusedSimpArgs false
open Go.RowKit Go.Proofs.Ytakbdknmfaoppaa.R Go.Proofs.Ytakbdknmfaoppaa.M Go.Proofs.YtakbdknmfaoppaaW.PrintWords Go.Proofs.YtakbdknmfaoppaaW.PrintLast
theorem rtag_f (key s : ByteArray) (h1 : key.size ≤ 300) (h2 : s.size ≤ 300) (k : Nat) (hk : 2001 ≤ k) : bailiwickref04_Tag.f k key s = some ((macB key s).extract 0 16) := by
  unfold bailiwickref04_Tag.f
  rw [mac_ref key s h1 h2 k hk, Option.bind_some, if_pos (by decide), if_pos (by rw [macB_size]; decide)]
theorem MacTags : bailiwicklaw04_MacTags.Pure := by
  intro a b c _ _ hc
  have ha : (a.extract 0 (mn (a.size : Int) 300).toNat).size ≤ 300 := cut_size a 300
  have hb : (b.extract 0 (mn (b.size : Int) 300).toNat).size ≤ 300 := cut_size b 300
  have ma := mn_le a.size 300 (by decide)
  have mb := mn_le b.size 300 (by decide)
  refine ⟨140737488351232 + 3000, ?_⟩
  generalize hk : 140737488351232 + 3000 = k
  have hk1 : 2001 ≤ k := by omega
  have hk2 : 300 + c.size + 1 ≤ k := by omega
  clear hk
  unfold bailiwicklaw04_MacTags.f
  rw [exm_eq k hk1, Option.bind_some, if_pos rfl, if_pos ma.1, if_pos ma.2.2, if_pos mb.1, if_pos mb.2.2]
  generalize a.extract 0 (mn (a.size : Int) 300).toNat = x at *
  generalize b.extract 0 (mn (b.size : Int) 300).toNat = y at *
  rw [mac_f _ _ (by omega) (by omega), Option.bind_some, mac_ref x y ha hb k hk1, Option.bind_some, if_pos rfl, tag_f _ _ (by omega) (by omega), Option.bind_some, rtag_f x y ha hb k hk1, Option.bind_some, if_pos rfl, same_f y c k (by omega) (by omega) (by omega), Option.bind_some, toList_eq, toList_eq]
  by_cases e : y = c
  · subst e; simp
  · have : ¬ y.data = c.data := fun h => e (ByteArray.ext h)
    simp [e, this]
end Go.Proofs.Ytakbdknmfaoppaa.Pure
