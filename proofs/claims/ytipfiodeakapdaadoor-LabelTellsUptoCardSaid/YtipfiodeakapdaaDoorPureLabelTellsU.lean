/- Any text has as many runes, is a label or not, and is folded, as the chapter says: the plain law, of texts of at most 1048576 bytes. -/
import Derived.Test.YtipfiodeakapdaaDoorB6
import Derived.Test.YtipfiodeakapdaaDoorTx1
namespace Go.Proofs.YtipfiodeakapdaaDoor.Pure
set_option linter.unusedVariables false
set_option linter.unusedSimpArgs false
open Go.RowKit Go.Proofs.YtipfiodeakapdaaDoor.R Go.Proofs.YtipfiodeakapdaaDoorW.PrintWords Go.Proofs.YtipfiodeakapdaaDoorW.PrintLast
theorem LabelTells_upto (a0 : ByteArray) (h : a0.size ≤ 1048576) : ∃ k, T.bailiwicklaw02_LabelTells.f k a0 = some true := by
  refine ⟨40, ?_⟩
  have e1 : Fold.f a0 = some (foldB a0, rightB a0) := by rw [Fold.f, if_pos (by omega)]
  have e2 : Runes.f a0 = some ((rns a0).length : Int) := by rw [Runes.f, if_pos (by omega)]
  have e3 : O.bailiwickref02_Runes.f a0 = some ((rns a0).length : Int) := by rw [O.bailiwickref02_Runes.f, runes.f, if_pos (by omega), Option.bind_some, List.length_map]
  have e4 : Right.f a0 = some (rightB a0) := by rw [Right.f, if_pos (by omega)]
  have e5 := ref_right 40 a0 (by decide) (by omega)
  have e6 : RFold.f a0 = some (foldB a0, rightB a0) := by
    rw [RFold.f, e5, Option.bind_some]
    cases hr : rightB a0
    · rw [if_neg (by decide), fold_wrong a0 hr]
    · have := right_size a0 hr
      rw [if_pos rfl, if_pos (by omega), fold_low a0 hr]
  rw [T.bailiwicklaw02_LabelTells.f, ex_eq, Option.bind_some, if_pos rfl, e1, Option.bind_some, e6, Option.bind_some, e2, Option.bind_some, e3, Option.bind_some, if_pos rfl, e4, Option.bind_some, e5, Option.bind_some]
  simp
end Go.Proofs.YtipfiodeakapdaaDoor.Pure
