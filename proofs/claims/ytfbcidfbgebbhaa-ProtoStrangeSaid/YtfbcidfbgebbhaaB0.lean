/-
  Plain facts beneath the statements on answers: numbers and texts, written and read.
-/
import Derived.Test.YtfbcidfbgebbhaaPx1
import Derived.Test.YtfbcidfbgebbhaaWMore
import Derived.Laws.Bits64b
namespace Go.Proofs.Ytfbcidfbgebbhaa.Pure
set_option linter.unusedVariables false
set_option linter.unusedSimpArgs false
open Go.RowKit Go.Proofs.YtfbcidfbgebbhaaW.PrintWords Go.Proofs.YtfbcidfbgebbhaaW.PrintLast Go.Proofs.YtfbcidfbgebbhaaW.PrintMore
/-- The bytes of a number, the highest first. -/
def be : Nat → Int → List Int
  | 0, _ => []
  | s + 1, n => be s (n / 256) ++ [n % 256]
/-- The number of the first bytes. -/
def de (b : ByteArray) : Nat → Int
  | 0 => 0
  | s + 1 => de b s * 256 + bt b s
theorem wrap64_in (n : Int) (h0 : -9223372036854775808 ≤ n) (h1 : n ≤ 9223372036854775807) : wrap64 n = n := by unfold wrap64; omega
theorem u64_in (n : Int) (h0 : 0 ≤ n) (h1 : n < 18446744073709551616) : IntKind.u64.wrap n = n := by rw [IntKind.wrap_u64]; omega
theorem u64bits : IntKind.u64.bits = 64 := rfl
theorem de_lt (b : ByteArray) : ∀ s, 0 ≤ de b s ∧ de b s < 256 ^ s
  | 0 => by simp [de]
  | s + 1 => by
    have h := de_lt b s
    have h2 := bt_range b s
    have e : (256 : Int) ^ (s + 1) = 256 ^ s * 256 := rfl
    simp only [de]
    rw [e]
    omega
theorem put1 (n : Int) (h0 : 0 ≤ n) (h1 : n < 18446744073709551616) : P.num_Put.f 40 n 1 = if n < 256 then some (strOfNums (be 1 n), 0) else some (⟨#[]⟩, 1) := by
  have e : (n / 256 = 0) = (n < 256) := by apply propext; omega
  simp [P.num_Put.f, P.num_Put.j0, P.num_Put.l0, be, wrap64, List.replicate, e]
theorem put4 (n : Int) (h0 : 0 ≤ n) (h1 : n < 18446744073709551616) : P.num_Put.f 40 n 4 = if n < 4294967296 then some (strOfNums (be 4 n), 0) else some (⟨#[]⟩, 1) := by
  have e : (n / 256 / 256 / 256 / 256 = 0) = (n < 4294967296) := by apply propext; omega
  simp [P.num_Put.f, P.num_Put.j0, P.num_Put.l0, be, wrap64, List.replicate, e]
theorem pow_le8 (j : Nat) (h : j < 8) : (256 : Int) ^ j ≤ 72057594037927936 := by
  have : j = 0 ∨ j = 1 ∨ j = 2 ∨ j = 3 ∨ j = 4 ∨ j = 5 ∨ j = 6 ∨ j = 7 := by omega
  rcases this with rfl | rfl | rfl | rfl | rfl | rfl | rfl | rfl <;> decide
theorem take_l0 (b : ByteArray) (s : Nat) (hs : s ≤ b.size) (h8 : s ≤ 8) : ∀ m j k : Nat, j + m = s → m < k → P.num_Take.l0 k b s (de b j) s j = some (de b s, b.extract s b.size, 0)
  | 0, j, k + 1, hj, hk => by
    obtain rfl : j = s := by omega
    rw [P.num_Take.l0, if_neg (by omega), if_pos (by omega), if_pos (by omega)]
    rfl
  | m + 1, j, k + 1, hj, hk => by
    have d := de_lt b j
    have r := bt_range b j
    have p := pow_le8 j (by omega)
    rw [P.num_Take.l0, if_pos (by omega), if_pos (by omega), if_pos (by omega), u64_in (bt b j) (by omega) (by omega), u64_in (de b j * 256) (by omega) (by omega), u64_in _ (by omega) (by omega), wrap64_in _ (by omega) (by omega)]
    exact take_l0 b s hs h8 m (j + 1) k (by omega) (by omega)
theorem takeN (b : ByteArray) (s : Nat) (h1 : 1 ≤ s) (h8 : s ≤ 8) : P.num_Take.f 40 b s = if b.size < s then some (0, ⟨#[]⟩, 2) else some (de b s, b.extract s b.size, 0) := by
  rw [P.num_Take.f, if_neg (by omega), show decide ((s : Int) > 8) = false from decide_eq_false (by omega), P.num_Take.j0, if_neg (by decide)]
  by_cases h : b.size < s
  · rw [if_pos (by omega), if_pos h]
  · rw [if_neg (by omega), if_neg h]
    exact take_l0 b s (by omega) h8 s 0 39 (by omega) (by omega)
theorem be_length : ∀ (s : Nat) (n : Int), (be s n).length = s
  | 0, _ => rfl
  | s + 1, n => by simp [be, be_length s]
theorem takeText_eq (r : ByteArray) (hz : r.size ≤ 140737488355328) : P.num_TakeText.f r = if r.size = 0 then some (⟨#[]⟩, ⟨#[]⟩, 2) else if bt r 0 ≥ r.size then some (⟨#[]⟩, ⟨#[]⟩, 2) else some (r.extract 1 (bt r 0 + 1).toNat, r.extract (bt r 0 + 1).toNat r.size, 0) := by
  have b := bt_range r 0
  unfold P.num_TakeText.f
  by_cases h0 : r.size = 0
  · have : r = ⟨#[]⟩ := by
      apply ByteArray.ext
      exact Array.eq_empty_of_size_eq_zero h0
    rw [if_pos h0, this, if_pos (by rw [ByteArray.toList_eq])]
  · have e0 : ¬ r.toList = [] := by
      rw [ByteArray.toList_eq]
      intro e
      have : r.data.toList.length = 0 := by rw [e]; rfl
      rw [Array.length_toList] at this
      exact h0 this
    rw [if_neg e0, if_neg h0, if_pos (by omega), wrap64_in _ (by omega) (by omega)]
    by_cases h1 : bt r 0 ≥ r.size
    · rw [if_pos h1, if_pos h1]
    · rw [if_neg h1, if_neg h1]
      simp only [wrap64_in (bt r 0 + 1) (by omega) (by omega)]
      repeat rw [if_pos (by omega)]
theorem take_some (r : ByteArray) (k : Nat) (hk : 1 ≤ k) (h8 : k ≤ 8) : ∃ n r' e, P.num_Take.f 40 r k = some (n, r', e) ∧ r'.size ≤ r.size := by
  have t := takeN r k hk h8
  by_cases hs : r.size < k
  · rw [if_pos hs] at t
    exact ⟨_, _, _, t, Nat.zero_le _⟩
  · rw [if_neg hs] at t
    exact ⟨_, _, _, t, by rw [ByteArray.size_extract]; omega⟩
theorem text_ok (nm : ByteArray) (h : nm.size ≤ 255) : P.num_Text.f nm = some (strOfNums [(nm.size : Int) % 256] ++ nm, 0) := by
  rw [P.num_Text.f, if_neg (by omega), Option.bind_some, if_pos (by rw [strOfNums_size]; simp; omega)]
end Go.Proofs.Ytfbcidfbgebbhaa.Pure
