/-
  Plain facts beneath the statements on principals: written.
-/
import Derived.Test.YtapfidadgafpbaaB1
import Derived.Test.YtapfidadgafpbaaB5
import Derived.Test.YtapfidadgafpbaaA4
namespace Go.Proofs.Ytapfidadgafpbaa.Pure
set_option linter.unusedVariables false
set_option linter.unusedSimpArgs false
open Go.RowKit Go.Proofs.Ytapfidadgafpbaa.G Go.Proofs.Ytapfidadgafpbaa.R Go.Proofs.YtapfidadgafpbaaW.PrintWords Go.Proofs.YtapfidadgafpbaaW.PrintLast Go.Proofs.YtapfidadgafpbaaW.PrintMore
theorem toList_inj (a b : ByteArray) : (a.toList = b.toList) = (a = b) := by
  apply propext
  constructor
  · intro e
    rw [ByteArray.toList_eq, ByteArray.toList_eq] at e
    exact ByteArray.ext (Array.toList_inj.1 e)
  · intro e; rw [e]
/-- A name that is a label, and folded. -/
def nameOk (nm : ByteArray) : Prop := rightB nm = true ∧ foldB nm = nm
instance (nm : ByteArray) : Decidable (nameOk nm) := by unfold nameOk; infer_instance
def ownOk (i : Int) (nm : ByteArray) (l h : Int) : Prop := nameOk nm ∧ 1 ≤ i ∧ i ≤ 16777215 ∧ 0 ≤ l ∧ l ≤ 1000 ∧ 0 ≤ h ∧ h ≤ l
instance (i : Int) (nm : ByteArray) (l h : Int) : Decidable (ownOk i nm l h) := by unfold ownOk; infer_instance
theorem own_eq (i : Int) (nm : ByteArray) (l h : Int) (hz : nm.size ≤ 140737488355328) : O.rec_ownerRecord_right.f i nm l h = some (decide (ownOk i nm l h)) := by
  have e1 : Fold.f nm = some (foldB nm, rightB nm) := by rw [Fold.f, if_pos hz]
  simp only [O.rec_ownerRecord_right.f, e1, in_eq, Option.bind_some, toList_inj, decide_eq_true_eq]
  by_cases h1 : rightB nm = true
  case neg => rw [if_neg h1, decide_eq_false (fun hh => h1 hh.1.1)]
  rw [if_pos h1]
  by_cases h2 : foldB nm = nm
  case neg => rw [if_neg h2, decide_eq_false (fun hh => h2 hh.1.2)]
  rw [if_pos h2]
  by_cases h3 : 1 ≤ i ∧ i ≤ 16777215
  case neg => rw [if_neg h3, decide_eq_false (fun hh => h3 ⟨hh.2.1, hh.2.2.1⟩)]
  rw [if_pos h3]
  by_cases h4 : 0 ≤ l ∧ l ≤ 1000
  case neg => rw [if_neg h4, decide_eq_false (fun hh => h4 ⟨hh.2.2.2.1, hh.2.2.2.2.1⟩)]
  rw [if_pos h4]
  congr 1
  rw [decide_eq_decide]
  exact ⟨fun hh => ⟨⟨h1, h2⟩, h3.1, h3.2, h4.1, h4.2, hh.1, hh.2⟩, fun hh => hh.2.2.2.2.2⟩
def ownB (l h : Int) (nm : ByteArray) : ByteArray := strOfNums (be 2 l) ++ strOfNums (be 2 h) ++ (strOfNums [(nm.size : Int) % 256] ++ nm)
theorem text_ok (nm : ByteArray) (h : nm.size ≤ 255) : P.num_Text.f nm = some (strOfNums [(nm.size : Int) % 256] ++ nm, 0) := by
  rw [P.num_Text.f, if_neg (by omega), Option.bind_some, if_pos (by rw [strOfNums_size]; simp; omega)]
theorem name_size (nm : ByteArray) (h : nameOk nm) : nm.size ≤ 32 := right_size nm h.1
theorem owrite_eq (i : Int) (nm : ByteArray) (l h : Int) (hz : nm.size ≤ 140737488355328) : write_own.f 40 i nm l h = if ownOk i nm l h then some (ownB l h nm, 0) else some (⟨#[]⟩, 1) := by
  rw [write_own.f, own_eq i nm l h hz, Option.bind_some]
  by_cases hk : ownOk i nm l h
  · rw [if_pos (decide_eq_true hk), if_pos hk]
    have hn := name_size nm hk.1
    obtain ⟨-, g1, g2, g3, g4, g5, g6⟩ := hk
    have p1 := put2 l (by omega) (by omega)
    rw [if_pos (by omega)] at p1
    have p2 := put2 h (by omega) (by omega)
    rw [if_pos (by omega)] at p2
    have w1 := small_ok ⟨#[]⟩ _ l 2 0 (by omega) (by omega) p1 (by decide) (by rw [bytes_size]; decide)
    rw [empty_append, show ((2 : Nat) : Int) = 2 from rfl] at w1
    have w2 := small_ok (strOfNums (be 2 l)) _ h 2 0 (by omega) (by omega) p2 (by rw [bytes_size]; decide) (by rw [bytes_size]; decide)
    rw [show ((2 : Nat) : Int) = 2 from rfl] at w2
    rw [w1, Option.bind_some, w2, Option.bind_some, text_ok nm (by omega), Option.bind_some, if_pos (by simp only [ByteArray.size_append, strOfNums_size, be_length, List.length_singleton]; omega)]
    rfl
  · rw [if_neg (by simpa using hk), if_neg hk]
end Go.Proofs.Ytapfidadgafpbaa.Pure
