/-
  The law MacKeys in plain Lean: a key with noughts behind it is the same key; a long one is its sum; a tag is the code's beginning.
-/
import Derived.Test.YtakbdknmfaoppaaB4
import Derived.Test.YtakbdknmfaoppaaMx2
namespace Go.Proofs.Ytakbdknmfaoppaa.Pure
set_option linter.unusedVariables false
set_option linter.unusedSimpArgs false
open Go.RowKit Go.Proofs.Ytakbdknmfaoppaa.R Go.Proofs.Ytakbdknmfaoppaa.M Go.Proofs.YtakbdknmfaoppaaW.PrintWords Go.Proofs.YtakbdknmfaoppaaW.PrintLast
theorem mac_sum (key s : ByteArray) (h : ¬ key.size ≤ 64) : macB (sumB key) s = macB key s := by
  unfold macB keyB
  rw [if_neg h, if_pos (by rw [sum32]; decide)]
theorem bytes_app (a b : ByteArray) : bytesOf (a ++ b) = bytesOf a ++ bytesOf b := by
  unfold bytesOf
  rw [ByteArray.data_append, Array.toList_append, List.map_append]
theorem bytes_zeros (n : Nat) : bytesOf (strOfNums (List.replicate n 0)) = List.replicate n 0 := by
  unfold bytesOf strOfNums
  simp
theorem mac_zeros (key s : ByteArray) (n : Nat) (h : key.size + n ≤ 64) : macB (key ++ strOfNums (List.replicate n 0)) s = macB key s := by
  have hz : (strOfNums (List.replicate n 0)).size = n := by rw [strOf_size, List.length_replicate]
  have hs : (key ++ strOfNums (List.replicate n 0)).size = key.size + n := by rw [ByteArray.size_append, hz]
  have e : klong (key ++ strOfNums (List.replicate n 0)) = klong key := by
    unfold klong
    rw [bytes_app, bytes_zeros, hs, List.append_assoc, List.replicate_append_replicate]
    congr 2
    omega
  unfold macB keyB
  rw [if_pos (by omega), if_pos (by omega)]
  unfold turnF
  rw [e]
theorem rest_ok (a : Int) (n : Nat) (hn : n ≤ 64) (ha : 0 ≤ a) : 0 ≤ Int.tmod a (wrap64 (65 - (n : Int))) ∧ Int.tmod a (wrap64 (65 - (n : Int))) + n ≤ 64 := by
  rw [R.w65 n (by omega), Int.tmod_eq_emod_of_nonneg ha]
  have h1 := Int.emod_nonneg a (b := 65 - (n : Int)) (by omega)
  have h2 := Int.emod_lt_of_pos a (b := 65 - (n : Int)) (by omega)
  exact ⟨h1, by omega⟩
theorem keys_end (x y : ByteArray) (hx : x.size ≤ 64) (hy : y.size ≤ 300) (t : Int) (h0 : 0 ≤ t) (h1 : t + x.size ≤ 64) :
    (if 0 ≤ t then (if t.toNat ≤ 281474976710656 then ((some (List.replicate t.toNat 0 : List Int)).bind fun y140 => (if x.size + (strOfNums y140).size ≤ 9223372036854775807 then ((Mac.f (x ++ (strOfNums y140)) y).bind fun t143 => (some (t143.toList == (macB x y).toList))) else (none))) else (none)) else (none)) = some true := by
  have hz : (strOfNums (List.replicate t.toNat 0)).size = t.toNat := by rw [strOf_size, List.length_replicate]
  rw [if_pos h0, if_pos (by omega), Option.bind_some, if_pos (by omega), mac_f _ _ (by rw [ByteArray.size_append]; omega) (by omega), Option.bind_some, mac_zeros x y t.toNat (by omega)]
  simp
theorem MacKeys : bailiwicklaw04_MacKeys.Pure := by
  intro a b n _ _ hn
  have hn2 : -9223372036854775808 ≤ n ∧ n ≤ 9223372036854775807 := by simp [Lit.wf, IntKind.min, IntKind.max, IntKind.signed, IntKind.bits] at hn; omega
  have ha : (a.extract 0 (mn (a.size : Int) 300).toNat).size ≤ 300 := cut_size a 300
  have hb : (b.extract 0 (mn (b.size : Int) 300).toNat).size ≤ 300 := cut_size b 300
  have ma := mn_le a.size 300 (by decide)
  have mb := mn_le b.size 300 (by decide)
  refine ⟨2999 + 1, ?_⟩
  unfold bailiwicklaw04_MacKeys.f
  rw [exm_eq _ (by omega), Option.bind_some, if_pos rfl, if_pos ma.1, if_pos ma.2.2, if_pos mb.1, if_pos mb.2.2]
  generalize a.extract 0 (mn (a.size : Int) 300).toNat = x at *
  generalize b.extract 0 (mn (b.size : Int) 300).toNat = y at *
  rw [mac_f x y (by omega) (by omega), Option.bind_some, if_pos (by rw [macB_size]; rfl), tag_f _ _ (by omega) (by omega), Option.bind_some, if_pos (by decide), if_pos (by rw [macB_size]; decide)]
  rw [bailiwicklaw04_MacKeys.j0, if_neg (by simp)]
  by_cases c : x.size ≤ 64
  · rw [if_neg (by omega)]
    have wn : wrap64 (65 - (x.size : Int)) ≠ 0 := by rw [R.w65 x.size ha]; omega
    by_cases cn : n < 0
    · have w0 : wrap64 (-(wrap64 (n + 1))) = -(n + 1) := by
        have e : wrap64 (n + 1) = n + 1 := by unfold wrap64; omega
        rw [e]
        unfold wrap64
        omega
      have r := rest_ok (-(n + 1)) x.size c (by omega)
      rw [if_pos cn, if_neg wn, if_pos rfl, w0]
      exact keys_end x y c hb _ r.1 r.2
    · have r := rest_ok n x.size c (by omega)
      rw [if_neg cn, if_neg wn, if_pos rfl]
      exact keys_end x y c hb _ r.1 r.2
  · rw [if_pos (by omega), if_pos rfl, sum_f _ (by omega), Option.bind_some, mac_f _ _ (by rw [sum32]; decide) (by omega), Option.bind_some, mac_sum x y c]
    simp
end Go.Proofs.Ytakbdknmfaoppaa.Pure
