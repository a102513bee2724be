/- What is folded is a label, has as many runes and bytes, and folded again it is the same; what is no label is not folded: the plain law. No condition. -/
import Derived.Test.YtipfiodeakapdaaDoorB6
import Derived.Test.YtipfiodeakapdaaDoorOx3
namespace Go.Proofs.YtipfiodeakapdaaDoor.Pure
set_option linter.unusedVariables false
set_option linter.unusedSimpArgs false
open Go.RowKit Go.Proofs.YtipfiodeakapdaaDoor.R Go.Proofs.YtipfiodeakapdaaDoorW.PrintWords Go.Proofs.YtipfiodeakapdaaDoorW.PrintLast
theorem low_no_great (c : UInt8) : ¬ (65 ≤ (lowU c).toNat ∧ (lowU c).toNat ≤ 90) := by
  rw [lowU_toNat, lowN]
  split <;> omega
theorem folds_end (k : Nat) (s : ByteArray) (h : rightB s = true) (hs : s.size ≤ 32) : ∀ (j i : Nat), j + i = s.size → O.bailiwicklaw02_LabelFolds.l0 (j + 1 + k) s true (lowS s) (lowS s) true (i : Int) = some true
  | 0, i, e => by
    have hz := lowS_size s
    have hr := right_low s h
    unfold rightB at h hr
    have h2 := of_decide_eq_true (Bool.and_eq_true_iff.1 h).1
    have h1 : ¬ (rns s).length < 1 := fun e => h2.1 ((rns_zero s).1 e)
    have e1 : Runes.f (lowS s) = some ((rns s).length : Int) := by rw [Runes.f, if_pos (by omega), rns_low s (by unfold rightB; exact h)]
    have e2 : Runes.f s = some ((rns s).length : Int) := by rw [Runes.f, if_pos (by omega)]
    rw [show 0 + 1 + k = k + 1 by omega, O.bailiwicklaw02_LabelFolds.l0, if_neg (by omega), if_pos rfl, if_pos rfl, if_pos rfl, if_pos (by omega), e1, Option.bind_some, e2, Option.bind_some, if_pos rfl, Option.bind_some, if_pos (by omega), Option.bind_some, decide_eq_true (by omega)]
  | j + 1, i, e => by
    have hz := lowS_size s
    have ih := folds_end k s h hs j (i + 1) (by omega)
    have hb : bt (lowS s) (i : Int) = ((lowU (s[i]'(by omega))).toNat : Int) := by
      rw [bt_nat _ i (by omega), lowS_get s i (by omega)]
    have n1 : wrap64 ((i : Int) + 1) = ((i + 1 : Nat) : Int) := by rw [w64 _ (by omega) (by omega)]; omega
    have ng := low_no_great (s[i]'(by omega))
    rw [show j + 1 + 1 + k = (j + 1 + k) + 1 by omega, O.bailiwicklaw02_LabelFolds.l0, if_pos (by omega), if_pos (by omega), hb, n1, ih]
    by_cases g1 : 65 ≤ (lowU (s[i]'(by omega))).toNat
    · rw [if_pos (by omega), if_neg (by omega)]
    · rw [if_neg (by omega)]
theorem LabelFolds : O.bailiwicklaw02_LabelFolds.Pure := by
  intro a0 h
  have e4 : Right.f a0 = some (rightB a0) := by rw [Right.f, if_pos (by omega)]
  have e1 : Fold.f a0 = some (foldB a0, rightB a0) := by rw [Fold.f, if_pos (by omega)]
  cases hr : rightB a0
  · refine ⟨40, ?_⟩
    rw [hr] at e4 e1
    rw [fold_wrong a0 hr] at e1
    rw [O.bailiwicklaw02_LabelFolds.f, ex_eq, Option.bind_some, if_pos rfl, e1, Option.bind_some, e4, Option.bind_some]
    simp
  · have hs := right_size a0 hr
    have hf := fold_low a0 hr
    rw [hr] at e4 e1
    rw [hf] at e1
    have rl := right_low a0 hr
    have e5 : Fold.f (lowS a0) = some (lowS a0, true) := by
      rw [Fold.f, if_pos (by rw [lowS_size]; omega), rl, fold_low _ rl, lowS_lowS]
    refine ⟨a0.size + 1 + 40, ?_⟩
    rw [O.bailiwicklaw02_LabelFolds.f, ex_le _ (by omega), Option.bind_some, if_pos rfl, e1, Option.bind_some, e4, Option.bind_some, if_neg (by simp), if_pos rfl, e5, Option.bind_some]
    exact folds_end 40 a0 hr hs a0.size 0 (by omega)
end Go.Proofs.YtipfiodeakapdaaDoor.Pure
