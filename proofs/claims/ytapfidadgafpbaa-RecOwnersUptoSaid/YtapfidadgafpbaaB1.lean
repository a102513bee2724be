/-
  Plain facts beneath the statement on slots.
-/
import Derived.Test.YtapfidadgafpbaaB0
import Derived.Test.YtapfidadgafpbaaSx2
namespace Go.Proofs.Ytapfidadgafpbaa.Pure
set_option linter.unusedVariables false
set_option linter.unusedSimpArgs false
open Go.RowKit Go.Proofs.Ytapfidadgafpbaa.G Go.Proofs.YtapfidadgafpbaaW.PrintWords Go.Proofs.YtapfidadgafpbaaW.PrintLast Go.Proofs.YtapfidadgafpbaaW.PrintMore

theorem in_eq (a b c : Int) : P.rec_in.f a b c = some (decide (b ≤ a ∧ a ≤ c)) := by
  unfold P.rec_in.f
  by_cases h : b ≤ a <;> simp [h]
theorem rin_eq (a b c : Int) : P.bailiwickref14_in.f a b c = some (decide (b ≤ a ∧ a ≤ c)) := by
  unfold P.bailiwickref14_in.f
  by_cases h : b ≤ a <;> simp [h]
theorem be_length : ∀ (s : Nat) (n : Int), (be s n).length = s
  | 0, _ => rfl
  | s + 1, n => by simp [be, be_length s]
theorem bytes_size (s : Nat) (n : Int) : (strOfNums (be s n)).size = s := by rw [strOfNums_size, be_length]
theorem number_ok (b r : ByteArray) (n : Int) (s : Nat) (m : Int) (h : P.num_Put.f 40 n s = some (r, m)) (hb : b.size ≤ 1000) (hr : r.size ≤ 1000) : P.rec_writer_number.f 40 b n s = some (b ++ r) := by
  rw [P.rec_writer_number.f, h, Option.bind_some]
  exact if_pos (by show b.size + r.size ≤ _; omega)
theorem small_ok (b r : ByteArray) (n : Int) (s : Nat) (m : Int) (h0 : 0 ≤ n) (h1 : n < 18446744073709551616) (h : P.num_Put.f 40 n s = some (r, m)) (hb : b.size ≤ 1000) (hr : r.size ≤ 1000) : P.rec_writer_small.f 40 b n s = some (b ++ r) := by
  rw [P.rec_writer_small.f, u64_in n h0 h1, number_ok b r n s m h hb hr]
  rfl
theorem empty_append (b : ByteArray) : (⟨#[]⟩ : ByteArray) ++ b = b := by
  exact ByteArray.empty_append
theorem rput_ok (n : Int) (s : Nat) (r : ByteArray) (b : Bool) (h0 : 0 ≤ n) (h1 : n < 18446744073709551616) (h : P.bailiwickref01_Put.f 40 n s = some (r, b)) : P.bailiwickref14_put.f 40 n s = some r := by
  rw [P.bailiwickref14_put.f, u64_in n h0 h1, h]
  rfl
/-! ### reading -/
theorem bt_extract (s : ByteArray) (a j : Nat) (h : a ≤ s.size) : bt (s.extract a s.size) j = bt s ((a + j : Nat) : Int) := by
  unfold bt
  simp only [Int.toNat_natCast, ByteArray.size_extract]
  by_cases hj : j < min s.size s.size - a
  · rw [dif_pos hj, dif_pos (by omega)]
    rw [ByteArray.getElem_extract]
  · rw [dif_neg hj, dif_neg (by omega)]
/-- The number of the bytes from a place on. -/
def dat (b : ByteArray) (a : Nat) : Nat → Int
  | 0 => 0
  | s + 1 => dat b a s * 256 + bt b ((a + s : Nat) : Int)
theorem de_extract (s : ByteArray) (a : Nat) (h : a ≤ s.size) : ∀ k, de (s.extract a s.size) k = dat s a k
  | 0 => rfl
  | k + 1 => by rw [de, dat, de_extract s a h k, bt_extract s a k h]
theorem de_zero (s : ByteArray) : ∀ k, de s k = dat s 0 k
  | 0 => rfl
  | k + 1 => by rw [de, dat, de_zero s k, Nat.zero_add]
theorem dat_lt (b : ByteArray) (a : Nat) : ∀ s, 0 ≤ dat b a s ∧ dat b a s < 256 ^ s
  | 0 => by simp [dat]
  | s + 1 => by
    have h := dat_lt b a s
    have h2 := bt_range b ((a + s : Nat) : Int)
    have e : (256 : Int) ^ (s + 1) = 256 ^ s * 256 := rfl
    simp only [dat]
    rw [e]
    omega
theorem extract_extract (s : ByteArray) (a c : Nat) (h : a + c ≤ s.size) : (s.extract a s.size).extract c (s.extract a s.size).size = s.extract (a + c) s.size := by
  apply ByteArray.ext
  rw [ByteArray.size_extract]
  simp
  congr 1
  omega
/-- What is written of what is read. -/
theorem be_dat (b : ByteArray) (a : Nat) : ∀ s, be s (dat b a s) = (List.range s).map fun j => bt b ((a + j : Nat) : Int)
  | 0 => rfl
  | s + 1 => by
    have h2 := bt_range b ((a + s : Nat) : Int)
    rw [be, dat, List.range_succ, List.map_append, ← be_dat b a s]
    rw [List.map_cons, List.map_nil]
    generalize bt b ((a + s : Nat) : Int) = q at *
    rw [show (dat b a s * 256 + q) / 256 = dat b a s by omega, show (dat b a s * 256 + q) % 256 = q by omega]
theorem str_at (b : ByteArray) (a s : Nat) (h : a + s ≤ b.size) : strOfNums (be s (dat b a s)) = b.extract a (a + s) := by
  rw [be_dat]
  apply ByteArray.ext
  apply Array.ext
  · simp [strOfNums]
    omega
  · intro i h1 h2
    have hi : i < s := by simpa [strOfNums] using h1
    simp only [strOfNums, List.map_map, List.getElem_toArray, List.getElem_map, List.getElem_range, Function.comp_def]
    have hb : a + i < b.size := by omega
    have e : bt b ((a + i : Nat) : Int) = ((b[a + i]'hb).toNat : Int) := by
      unfold bt
      simp only [Int.toNat_natCast]
      rw [dif_pos hb]
    rw [e]
    simp
    rfl
theorem extract_append (b : ByteArray) (i j k : Nat) (h1 : i ≤ j) (h2 : j ≤ k) (h3 : k ≤ b.size) : b.extract i j ++ b.extract j k = b.extract i k := by
  apply ByteArray.ext
  rw [ByteArray.data_append, ByteArray.data_extract, ByteArray.data_extract, ByteArray.data_extract, Array.extract_append_extract]
  congr 1 <;> omega
theorem extract_all (b : ByteArray) : b.extract 0 b.size = b := by
  apply ByteArray.ext
  rw [ByteArray.data_extract]
  exact Array.extract_size
theorem rtake_ok (s : ByteArray) (a k : Nat) (h1 : 1 ≤ k) (h4 : k ≤ 4) (h : a + k ≤ s.size) : P.bailiwickref14_take.f 40 s a k = some (dat s a k) := by
  rw [P.bailiwickref14_take.f, if_pos (by omega), if_pos (by omega)]
  rw [show ((a : Nat) : Int).toNat = a from rfl, rtakeN _ k h1 (by omega), if_neg (by rw [ByteArray.size_extract]; omega), Option.bind_some, de_extract s a (by omega)]
  have d := dat_lt s a k
  have p : (256 : Int) ^ k ≤ 72057594037927936 := pow_le8 k (by omega)
  rw [wrap64_in _ (by show _ ≤ dat s a k; omega) (by show dat s a k ≤ _; omega)]
end Go.Proofs.Ytapfidadgafpbaa.Pure
