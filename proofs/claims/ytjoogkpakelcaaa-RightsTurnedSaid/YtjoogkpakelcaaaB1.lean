/-
  More plain facts on masks and letters: letters read back, letters rise, as many letters as rights.
-/
import Derived.Test.YtjoogkpakelcaaaB0
namespace Go.Proofs.Ytjoogkpakelcaaa.Pure
set_option linter.unusedVariables false
set_option linter.unusedSimpArgs false
open Go.RowKit Go.Proofs.Ytjoogkpakelcaaa.G Go.Proofs.YtjoogkpakelcaaaW.PrintWords Go.Proofs.YtjoogkpakelcaaaW.PrintLast

theorem or_two_pow_mod (m i : Nat) (h : m.testBit i = true) : m % 2 ^ i ||| 2 ^ i = m % 2 ^ (i + 1) := by
  refine Nat.eq_of_testBit_eq fun j => ?_
  rw [Nat.testBit_or, Nat.testBit_mod_two_pow, Nat.testBit_mod_two_pow, Nat.testBit_two_pow]
  by_cases e : i = j
  · subst e; simp [h]
  · by_cases hj : j < i
    · simp [e, hj, show j < i + 1 by omega]
    · simp [e, hj, show ¬ j < i + 1 by omega]
theorem mod_two_pow_same (m i : Nat) (h : m.testBit i = false) : m % 2 ^ (i + 1) = m % 2 ^ i := by
  refine Nat.eq_of_testBit_eq fun j => ?_
  rw [Nat.testBit_mod_two_pow, Nat.testBit_mod_two_pow]
  by_cases e : i = j
  · subst e; simp [h]
  · by_cases hj : j < i
    · simp [hj, show j < i + 1 by omega]
    · simp [hj, show ¬ j < i + 1 by omega]
theorem pz_bits (m : Nat) : ∀ n i, i + n ≤ 16 → pz ((bitsOf m i n).map fun j => UInt8.ofNat (97 + j)) (m % 2 ^ i) = some (m % 2 ^ (i + n))
  | 0, i, h => rfl
  | n + 1, i, h => by
    rw [bitsOf_succ]
    cases hb : m.testBit i with
    | true =>
      have e : (UInt8.ofNat (97 + i)).toNat = 97 + i := by simp; omega
      simp only [if_true, List.map_append, List.map_cons, List.map_nil, List.cons_append, List.nil_append]
      unfold pz
      rw [e, show 97 + i - 97 = i by omega, if_pos ⟨by omega, by omega, by rw [Nat.testBit_mod_two_pow]; simp⟩, or_two_pow_mod m i hb, pz_bits m n (i + 1) (by omega), show i + 1 + n = i + (n + 1) by omega]
    | false =>
      simp only [Bool.false_eq_true, if_false, List.nil_append]
      rw [← mod_two_pow_same m i hb, pz_bits m n (i + 1) (by omega), show i + 1 + n = i + (n + 1) by omega]
theorem pz_lets (m : Nat) (h : m < 65536) : pz (lets m) 0 = some m := by
  have := pz_bits m 16 0 (by omega)
  rw [Nat.pow_zero, Nat.mod_one, Nat.zero_add, Nat.mod_eq_of_lt (show m < 2 ^ 16 by omega)] at this
  exact this
theorem pc_pow (j : Nat) (h : j < 16) : pc (2 ^ j) = 1 := by
  have : ∀ j, j < 16 → pc (2 ^ j) = 1 := by decide +kernel
  exact this j h
theorem pc_set (m j : Nat) (hj : j < 16) (h : m.testBit j = false) : pc (m ||| 2 ^ j) = pc m + 1 := by
  have h1 := pc_both m (2 ^ j)
  have h0 : pc 0 = 0 := by decide +kernel
  rw [(and_pow m j).2 h, pc_pow j hj, h0] at h1
  omega
theorem pz_count : ∀ (l : List UInt8) (m n : Nat), m < 65536 → pz l m = some n → n < 65536 ∧ pc n = pc m + l.length
  | [], m, n, hm, h => by
    obtain rfl : m = n := Option.some.inj h
    exact ⟨hm, rfl⟩
  | c :: l, m, n, hm, h => by
    unfold pz at h
    split at h
    · rename_i hc
      have hlt : 2 ^ (c.toNat - 97) < 65536 := (two_pow_k (c.toNat - 97) (by omega)).2
      obtain ⟨h1, h2⟩ := pz_count l _ n (Nat.or_lt_two_pow (n := 16) (by omega) (by omega)) h
      rw [pc_set m _ (by omega) hc.2.2] at h2
      exact ⟨h1, by rw [h2, List.length_cons]; omega⟩
    · cases h
theorem bits_rise (m i n : Nat) : (bitsOf m i n).Pairwise (· < ·) := by
  unfold bitsOf
  exact List.Pairwise.filter _ List.pairwise_lt_range'
theorem lets_rise (m i j : Nat) (hij : i < j) (hj : j < (lets m).length) : bt ⟨(lets m).toArray⟩ (i : Int) < bt ⟨(lets m).toArray⟩ (j : Int) := by
  have hsz : (ByteArray.mk (lets m).toArray).size = (lets m).length := by simp [ByteArray.size]
  rw [bt_nat _ i (by omega), bt_nat _ j (by omega)]
  have hl : (lets m).length = (bitsOf m 0 16).length := by simp [lets]
  have key : ∀ q (hq : q < (lets m).length), ((ByteArray.mk (lets m).toArray)[q]'(by omega)).toNat = 97 + (bitsOf m 0 16)[q]'(by omega) := by
    intro q hq
    have h16 := bitsOf_lt m 16 0 _ (List.getElem_mem (show q < (bitsOf m 0 16).length by omega))
    show ((lets m).toArray[q]'(by simpa using hq)).toNat = _
    simp only [lets, List.getElem_toArray, List.getElem_map]
    simp
    omega
  rw [key i (by omega), key j hj]
  have := List.pairwise_iff_getElem.1 (bits_rise m 0 16) i j (by omega) (by omega) hij
  omega
end Go.Proofs.Ytjoogkpakelcaaa.Pure
