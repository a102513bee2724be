/-
  fill: some answer of 256 bytes.
-/
import Derived.Test.YtnffhdlkkfphbaaDa
import Derived.Test.YtnffhdlkkfphbaaFx1
namespace Go.Proofs.Ytnffhdlkkfphbaa.D
set_option linter.unusedVariables false
set_option linter.unusedSimpArgs false
open Go.RowKit Go.Proofs.YtnffhdlkkfphbaaW.PrintWords Go.Proofs.YtnffhdlkkfphbaaW.PrintLast Go.Proofs.YtnffhdlkkfphbaaW.PrintMore
open Go.Lib (hid)
theorem fill_loop : ∀ (g : Nat) (k : Nat) (s : ByteArray) (xs : List Int) (i : Int), 0 ≤ i → i + g = 256 → g < k → xs.length = 256 → ∃ r, F.bailiwicklaw06_fill.l0 k s xs i = some r ∧ r.size = 256
  | g, 0, s, xs, i, h0, h1, h2, h3 => by omega
  | 0, k + 1, s, xs, i, h0, h1, h2, h3 => by
    unfold F.bailiwicklaw06_fill.l0
    rw [if_neg (by omega)]
    exact ⟨_, rfl, by simp [strOfNums, ByteArray.size, h3]⟩
  | g + 1, k + 1, s, xs, i, h0, h1, h2, h3 => by
    unfold F.bailiwicklaw06_fill.l0
    rw [if_pos (by omega)]
    by_cases hs : (s.size : Int) > 0
    · have m0 : 0 ≤ Int.tmod i (s.size : Int) := Int.tmod_nonneg _ h0
      have m1 : Int.tmod i (s.size : Int) < (s.size : Int) := Int.tmod_lt_of_pos _ hs
      rw [if_pos hs, if_neg (by omega), if_pos m0, if_pos m1, if_pos h0, if_pos (by rw [h3]; omega), show wrap64 (i + 1) = i + 1 by unfold wrap64; omega]
      exact fill_loop g k s _ (i + 1) (by omega) (by omega) (by omega) (by rw [List.length_set]; exact h3)
    · rw [if_neg hs]
      exact ⟨_, rfl, by simp [strOfNums, ByteArray.size, h3]⟩
def fillB (s : ByteArray) : ByteArray := (F.bailiwicklaw06_fill.f 300 s).getD ⟨#[]⟩
theorem fill_some (s : ByteArray) : F.bailiwicklaw06_fill.f 300 s = some (fillB s) ∧ (fillB s).size = 256 := by
  obtain ⟨r, h1, h2⟩ := fill_loop 256 300 s (List.replicate 256 0) 0 (by omega) (by omega) (by omega) (by rw [List.length_replicate])
  have h : F.bailiwicklaw06_fill.f 300 s = some r := by
    unfold F.bailiwicklaw06_fill.f
    rw [if_pos (by decide)]
    exact h1
  unfold fillB
  rw [h]
  exact ⟨rfl, h2⟩
theorem fill.calls (s : ByteArray) (w : World) : Calls Try.prog 22 #[.string s] w fun e w' => e = .returned (.string (fillB s)) ∧ Below w.heap.size w w' :=
  F.bailiwicklaw06_fill.calls 300 s _ w (fill_some s).1
end Go.Proofs.Ytnffhdlkkfphbaa.D
