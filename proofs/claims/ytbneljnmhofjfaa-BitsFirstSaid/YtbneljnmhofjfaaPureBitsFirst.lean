/- The least number that is free is not in the set, and all below are. No condition. -/
import Derived.Test.YtbneljnmhofjfaaB1
import Derived.OpenShut
namespace Go.Proofs.Ytbneljnmhofjfaa.Pure
set_option linter.unusedVariables false
set_option linter.unusedSimpArgs false
open Go.RowKit Go.Proofs.Ytbneljnmhofjfaa.G Go.Proofs.YtbneljnmhofjfaaW.PrintWords Go.Proofs.YtbneljnmhofjfaaW.PrintLast Go.Proofs.YtbneljnmhofjfaaW.PrintMore

theorem bfirst_l0 (b : ByteArray) (x6 : Int) (x7 : Bool) (top : Nat) (ht : top ≤ 1000) (h : ∀ j, j < top → hasL b.data.toList j = true) (hx : x7 = true ∨ x6 = 0) : ∀ (m i k : Nat), m = top - i → m + 1 ≤ k →
    bailiwicklaw08_BitsFirst.l0 k b true x6 x7 (top : Int) (i : Int) = some true
  | m, i, k + 1, hm, hk => by
    rw [bailiwicklaw08_BitsFirst.l0]
    by_cases h1 : i < top
    · rw [if_pos (by omega), has_nat b i (by omega), Option.bind_some, h i h1, if_pos rfl, wr _ (by omega) (by omega), show ((i : Int) + 1) = ((i + 1 : Nat) : Int) by omega]
      exact bfirst_l0 b x6 x7 top ht h hx (m - 1) (i + 1) k (by omega) (by omega)
    · rw [if_neg (by omega), if_pos rfl]
      rcases hx with rfl | rfl
      · rw [if_pos rfl]
      · cases x7 <;> simp
  | m, i, 0, _, hk => by omega
theorem bfirst_neg (b : ByteArray) (x6 : Int) (x7 : Bool) (top : Int) (ht : top ≤ 0) (hx : x7 = true ∨ x6 = 0) (k : Nat) :
    bailiwicklaw08_BitsFirst.l0 (k + 1) b true x6 x7 top 0 = some true := by
  rw [bailiwicklaw08_BitsFirst.l0, if_neg (by omega), if_pos rfl]
  rcases hx with rfl | rfl
  · rw [if_pos rfl]
  · cases x7 <;> simp
theorem BitsFirst : bailiwicklaw08_BitsFirst.Pure := by
  intro a0 a1 hs h1
  refine ⟨1003, ?_⟩
  unfold bailiwicklaw08_BitsFirst.f
  have hm : 0 ≤ mn (a0.size : Int) 60 ∧ mn (a0.size : Int) 60 ≤ (a0.size : Int) ∧ mn (a0.size : Int) 60 ≤ 60 := by rw [mn_eq]; omega
  have hm3 : mn a1 600 ≤ 600 := by rw [mn_eq]; omega
  rw [ex_eq, Option.bind_some, if_pos rfl, if_pos hm.1, if_pos hm.2.1]
  generalize mn a1 600 = n at *
  generalize hb : a0.extract 0 ((mn (a0.size : Int) 60) : Int).toNat = b
  have hz : b.size ≤ 60 := by rw [← hb, ByteArray.size_extract]; omega
  obtain ⟨⟨r1, r2⟩, e1, t1, t2⟩ := first_said b n (by omega)
  rw [e1, Option.bind_some, wr (8 * (b.size : Int)) (by omega) (by omega), mn_eq]
  cases r2 with
  | true =>
    obtain ⟨q, rfl, q1, q2, q3, q4⟩ := t1 rfl
    simp only [if_true]
    rw [if_neg (by simp), if_neg (by omega), has_nat b q (by omega), Option.bind_some, q3, if_neg (by decide), bailiwicklaw08_BitsFirst.j0]
    exact bfirst_l0 b _ true q (by omega) q4 (Or.inl rfl) q 0 1002 (by omega) (by omega)
  | false =>
    obtain ⟨rfl, q2⟩ := t2 rfl
    simp only [Bool.false_eq_true, if_false]
    rw [bailiwicklaw08_BitsFirst.j0]
    by_cases h : 0 ≤ min n (8 * (b.size : Int))
    · obtain ⟨top, ht⟩ := Int.eq_ofNat_of_zero_le h
      rw [ht]
      exact bfirst_l0 b 0 false top (by omega) (fun j hj => q2 j (by omega) (by omega)) (Or.inr rfl) top 0 1002 (by omega) (by omega)
    · exact bfirst_neg b 0 false _ (by omega) (Or.inr rfl) 1001
end Go.Proofs.Ytbneljnmhofjfaa.Pure
