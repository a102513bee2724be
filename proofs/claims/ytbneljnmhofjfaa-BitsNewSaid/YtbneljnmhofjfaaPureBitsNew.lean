/- A new set has room for as many as are asked, fewer than eight more, and none in it. No condition. -/
import Derived.Test.YtbneljnmhofjfaaB1
import Derived.Test.YtbneljnmhofjfaaNx1
import Derived.OpenShut
namespace Go.Proofs.Ytbneljnmhofjfaa.Pure
set_option linter.unusedVariables false
set_option linter.unusedSimpArgs false
open Go.RowKit Go.Proofs.Ytbneljnmhofjfaa.G Go.Proofs.YtbneljnmhofjfaaW.PrintWords Go.Proofs.YtbneljnmhofjfaaW.PrintLast Go.Proofs.YtbneljnmhofjfaaW.PrintMore

theorem exN : N.bailiwicklaw08_examples.f = some true := ex_eq
theorem hasL_zeros (n i : Nat) : hasL (List.replicate n 0) i = false := by
  unfold hasL
  rw [List.getD_eq_getElem?_getD, List.getElem?_replicate]
  split <;> simp
theorem count_zeros (n : Nat) : countL (List.replicate n 0) = 0 := by
  have : Lib.onesCount (0 : UInt8).toNat = 0 := by decide
  unfold countL
  rw [List.map_replicate, this]
  simp
theorem new_eq (n : Int) (h : -9223372036854775808 ≤ n ∧ n ≤ 9223372036854775807) : bits_New.f n = some ⟨(List.replicate (newLen n) 0).toArray⟩ := by unfold bits_New.f; rw [if_pos h]
theorem bnew_j0 (x0 : Nat) (x1 : Int) (h1 : -9223372036854775808 ≤ x1 ∧ x1 ≤ 9223372036854775807) (hx : (x0 : Int) ≤ 9223372036854775807) (k : Nat) : N.bailiwicklaw08_BitsNew.j0 (k + 1) x0 x1 true = some true := by
  obtain ⟨m, hm, hm2⟩ : ∃ m : Nat, Int.tmod (x0 : Int) 100001 = (m : Int) ∧ m ≤ 100000 := ⟨x0 % 100001, rfl, by omega⟩
  have hl : newLen (m : Int) = (m + 7) / 8 := by unfold newLen; congr 2; omega
  rw [N.bailiwicklaw08_BitsNew.j0, hm, new_eq _ (by omega), Option.bind_some, if_pos rfl, hl]
  have hsz : (⟨(List.replicate ((m + 7) / 8) 0).toArray⟩ : ByteArray).size = (m + 7) / 8 := by
    show (List.replicate ((m + 7) / 8) (0 : UInt8)).toArray.size = _
    simp
  have hd : (⟨(List.replicate ((m + 7) / 8) 0).toArray⟩ : ByteArray).data.toList = List.replicate ((m + 7) / 8) 0 := rfl
  generalize (⟨(List.replicate ((m + 7) / 8) 0).toArray⟩ : ByteArray) = s at *
  have hh : P.bits_Has.f s x1 = some false := by
    rw [has_eq s x1 h1.1 h1.2, hasI, hd, hasL_zeros]; simp
  rw [hsz, wr (8 * (((m + 7) / 8 : Nat) : Int)) (by omega) (by omega), wr _ (by omega) (by omega), if_pos (by omega), if_pos (by omega), count_eq s (by omega), Option.bind_some, hd, count_zeros, if_pos (show ((0 : Nat) : Int) = 0 from rfl), hh, Option.bind_some, if_neg (by decide), wr (-(m : Int)) (by omega) (by omega), wr _ (by omega) (by omega), new_eq _ (by omega), Option.bind_some]
  have hl2 : newLen (-(m : Int) - 1) = 0 := by
    have e : min (max (-(m : Int) - 1) 0) 100000 = 0 := by omega
    unfold newLen
    rw [e]; rfl
  rw [hl2, toList_eq]
  rfl
theorem BitsNew : N.bailiwicklaw08_BitsNew.Pure := by
  intro a0 a1 h0 h1
  refine ⟨1, ?_⟩
  replace h0 := bounds_i64 h0
  replace h1 := bounds_i64 h1
  unfold N.bailiwicklaw08_BitsNew.f
  rw [exN, Option.bind_some, if_pos rfl]
  by_cases h : a0 < 0
  · rw [if_pos h, wr (a0 + 1) (by omega) (by omega), wr _ (by omega) (by omega)]
    obtain ⟨n, hn⟩ := Int.eq_ofNat_of_zero_le (show 0 ≤ -(a0 + 1) by omega)
    rw [hn]
    exact bnew_j0 n a1 h1 (by omega) 0
  · rw [if_neg h]
    obtain ⟨n, rfl⟩ := Int.eq_ofNat_of_zero_le (show 0 ≤ a0 by omega)
    exact bnew_j0 n a1 h1 (by omega) 0
end Go.Proofs.Ytbneljnmhofjfaa.Pure
