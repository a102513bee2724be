/-
  Plain facts beneath the statement on slots.
-/
import Derived.Test.YtapfidadgafpbaaB0
import Derived.Test.YtapfidadgafpbaaSx2
namespace Go.Proofs.Ytapfidadgafpbaa.Pure
set_option linter.unusedVariables false
set_option linter.unusedSimpArgs false
open Go.RowKit Go.Proofs.Ytapfidadgafpbaa.G Go.Proofs.YtapfidadgafpbaaW.PrintWords Go.Proofs.YtapfidadgafpbaaW.PrintLast Go.Proofs.YtapfidadgafpbaaW.PrintMore

def slotOk (i c e : Int) : Bool := decide (1 ≤ i ∧ i ≤ 200 ∧ 0 ≤ c ∧ c ≤ 16777215 ∧ 1 ≤ e ∧ e ≤ 16 ∧ (c = 0 ∨ e ≤ 15))
theorem in_eq (a b c : Int) : P.rec_in.f a b c = some (decide (b ≤ a ∧ a ≤ c)) := by
  unfold P.rec_in.f
  by_cases h : b ≤ a <;> simp [h]
theorem right_eq (i c e n : Int) : P.rec_slotRecord_right.f i c e n = some (slotOk i c e) := by
  simp only [P.rec_slotRecord_right.f, in_eq, Option.bind_some, decide_eq_true_eq, slotOk]
  by_cases h1 : 1 ≤ i ∧ i ≤ 200
  · by_cases h2 : 0 ≤ c ∧ c ≤ 16777215
    · by_cases h3 : 1 ≤ e ∧ e ≤ 16
      · by_cases h4 : c = 0 <;> simp [h1, h2, h3, h4]
      · rw [if_pos h1, if_pos h2, if_neg h3, decide_eq_false (by omega)]
    · rw [if_pos h1, if_neg h2, decide_eq_false (by omega)]
  · rw [if_neg h1, decide_eq_false (by omega)]
theorem be_length : ∀ (s : Nat) (n : Int), (be s n).length = s
  | 0, _ => rfl
  | s + 1, n => by simp [be, be_length s]
theorem bytes_size (s : Nat) (n : Int) : (strOfNums (be s n)).size = s := by rw [strOfNums_size, be_length]
theorem number_ok (b r : ByteArray) (n : Int) (s : Nat) (m : Int) (h : P.num_Put.f 40 n s = some (r, m)) (hb : b.size ≤ 1000) (hr : r.size ≤ 1000) : P.rec_writer_number.f 40 b n s = some (b ++ r) := by
  rw [P.rec_writer_number.f, h, Option.bind_some]
  exact if_pos (by show b.size + r.size ≤ _; omega)
theorem small_ok (b r : ByteArray) (n : Int) (s : Nat) (m : Int) (h0 : 0 ≤ n) (h1 : n < 18446744073709551616) (h : P.num_Put.f 40 n s = some (r, m)) (hb : b.size ≤ 1000) (hr : r.size ≤ 1000) : P.rec_writer_small.f 40 b n s = some (b ++ r) := by
  rw [P.rec_writer_small.f, u64_in n h0 h1, number_ok b r n s m h hb hr]
  rfl
def slotB (c e n : Int) : ByteArray := strOfNums (be 3 c) ++ strOfNums (be 1 e) ++ strOfNums (be 8 n)
theorem slotB_size (c e n : Int) : (slotB c e n).size = 12 := by
  unfold slotB
  rw [ByteArray.size_append, ByteArray.size_append, bytes_size, bytes_size, bytes_size]
theorem empty_append (b : ByteArray) : (⟨#[]⟩ : ByteArray) ++ b = b := by
  exact ByteArray.empty_append
theorem write_eq (i c e n : Int) (h0 : 0 ≤ n) (h1 : n < 18446744073709551616) : write_slot.f 40 i c e n = if slotOk i c e = true then some (slotB c e n, 0) else some (⟨#[]⟩, 1) := by
  rw [write_slot.f, right_eq, Option.bind_some]
  by_cases h : slotOk i c e = true
  · rw [if_pos h, if_pos h]
    have g := h
    unfold slotOk at g
    have g := of_decide_eq_true g
    have z3 := bytes_size 3 c
    have z1 := bytes_size 1 e
    have z8 := bytes_size 8 n
    have p3 := put3 c (by omega) (by omega)
    have p1 := put1 e (by omega) (by omega)
    have p8 := put8 n h0 h1
    rw [if_pos (by omega)] at p3 p1
    rw [if_pos h1] at p8
    have w1 := small_ok ⟨#[]⟩ _ c 3 0 (by omega) (by omega) p3 (by decide) (by omega)
    rw [empty_append] at w1
    have w2 := small_ok (strOfNums (be 3 c)) _ e 1 0 (by omega) (by omega) p1 (by omega) (by omega)
    have w3 := number_ok (strOfNums (be 3 c) ++ strOfNums (be 1 e)) _ n 8 0 p8 (by rw [ByteArray.size_append]; omega) (by omega)
    rw [show ((3 : Nat) : Int) = 3 from rfl] at w1
    rw [show ((1 : Nat) : Int) = 1 from rfl] at w2
    rw [show ((8 : Nat) : Int) = 8 from rfl] at w3
    rw [w1, Option.bind_some, w2, Option.bind_some, w3]
    rfl
  · rw [if_neg h, if_neg h]
/-! ### reading -/
theorem bt_extract (s : ByteArray) (a j : Nat) (h : a ≤ s.size) : bt (s.extract a s.size) j = bt s ((a + j : Nat) : Int) := by
  unfold bt
  simp only [Int.toNat_natCast, ByteArray.size_extract]
  by_cases hj : j < min s.size s.size - a
  · rw [dif_pos hj, dif_pos (by omega)]
    rw [ByteArray.getElem_extract]
  · rw [dif_neg hj, dif_neg (by omega)]
/-- The number of the bytes from a place on. -/
def dat (b : ByteArray) (a : Nat) : Nat → Int
  | 0 => 0
  | s + 1 => dat b a s * 256 + bt b ((a + s : Nat) : Int)
theorem de_extract (s : ByteArray) (a : Nat) (h : a ≤ s.size) : ∀ k, de (s.extract a s.size) k = dat s a k
  | 0 => rfl
  | k + 1 => by rw [de, dat, de_extract s a h k, bt_extract s a k h]
theorem de_zero (s : ByteArray) : ∀ k, de s k = dat s 0 k
  | 0 => rfl
  | k + 1 => by rw [de, dat, de_zero s k, Nat.zero_add]
theorem dat_lt (b : ByteArray) (a : Nat) : ∀ s, 0 ≤ dat b a s ∧ dat b a s < 256 ^ s
  | 0 => by simp [dat]
  | s + 1 => by
    have h := dat_lt b a s
    have h2 := bt_range b ((a + s : Nat) : Int)
    have e : (256 : Int) ^ (s + 1) = 256 ^ s * 256 := rfl
    simp only [dat]
    rw [e]
    omega
theorem extract_extract (s : ByteArray) (a c : Nat) (h : a + c ≤ s.size) : (s.extract a s.size).extract c (s.extract a s.size).size = s.extract (a + c) s.size := by
  apply ByteArray.ext
  rw [ByteArray.size_extract]
  simp
  congr 1
  omega
/-- What is written of what is read. -/
theorem be_dat (b : ByteArray) (a : Nat) : ∀ s, be s (dat b a s) = (List.range s).map fun j => bt b ((a + j : Nat) : Int)
  | 0 => rfl
  | s + 1 => by
    have h2 := bt_range b ((a + s : Nat) : Int)
    rw [be, dat, List.range_succ, List.map_append, ← be_dat b a s]
    rw [List.map_cons, List.map_nil]
    generalize bt b ((a + s : Nat) : Int) = q at *
    rw [show (dat b a s * 256 + q) / 256 = dat b a s by omega, show (dat b a s * 256 + q) % 256 = q by omega]
theorem str_at (b : ByteArray) (a s : Nat) (h : a + s ≤ b.size) : strOfNums (be s (dat b a s)) = b.extract a (a + s) := by
  rw [be_dat]
  apply ByteArray.ext
  apply Array.ext
  · simp [strOfNums]
    omega
  · intro i h1 h2
    have hi : i < s := by simpa [strOfNums] using h1
    simp only [strOfNums, List.map_map, List.getElem_toArray, List.getElem_map, List.getElem_range, Function.comp_def]
    have hb : a + i < b.size := by omega
    have e : bt b ((a + i : Nat) : Int) = ((b[a + i]'hb).toNat : Int) := by
      unfold bt
      simp only [Int.toNat_natCast]
      rw [dif_pos hb]
    rw [e]
    simp
    rfl
theorem extract_append (b : ByteArray) (i j k : Nat) (h1 : i ≤ j) (h2 : j ≤ k) (h3 : k ≤ b.size) : b.extract i j ++ b.extract j k = b.extract i k := by
  apply ByteArray.ext
  rw [ByteArray.data_append, ByteArray.data_extract, ByteArray.data_extract, ByteArray.data_extract, Array.extract_append_extract]
  congr 1 <;> omega
theorem extract_all (b : ByteArray) : b.extract 0 b.size = b := by
  apply ByteArray.ext
  rw [ByteArray.data_extract]
  exact Array.extract_size
theorem slotB_of (s : ByteArray) (h : s.size = 12) : slotB (dat s 0 3) (dat s 3 1) (dat s 4 8) = s := by
  unfold slotB
  rw [str_at s 0 3 (by omega), str_at s 3 1 (by omega), str_at s 4 8 (by omega)]
  rw [show 0 + 3 = 3 from rfl, show 3 + 1 = 4 from rfl, show 4 + 8 = 12 from rfl, extract_append s 0 3 4 (by omega) (by omega) (by omega), extract_append s 0 4 12 (by omega) (by omega) (by omega), ← h]
  exact extract_all s
/-- What is read. -/
theorem take_eq (id : Int) (s : ByteArray) : rec_TakeSlot.f 40 id s = if s.size = 12 ∧ slotOk id (dat s 0 3) (dat s 3 1) = true then some (id, dat s 0 3, dat s 3 1, dat s 4 8, 0) else some (0, 0, 0, 0, 2) := by
  have t1 := takeN s 3 (by decide) (by decide)
  rw [show ((3 : Nat) : Int) = 3 from rfl] at t1
  unfold rec_TakeSlot.f
  by_cases h3 : s.size < 3
  · rw [if_pos h3] at t1
    have t2 := takeN ⟨#[]⟩ 1 (by decide) (by decide)
    have t3 := takeN ⟨#[]⟩ 8 (by decide) (by decide)
    rw [if_pos (by decide)] at t2 t3
    rw [show ((1 : Nat) : Int) = 1 from rfl] at t2
    rw [show ((8 : Nat) : Int) = 8 from rfl] at t3
    rw [t1, Option.bind_some, t2, Option.bind_some, t3, Option.bind_some, if_neg (by decide), if_neg (by omega)]
  · rw [if_neg h3, de_zero] at t1
    have t2 := takeN (s.extract 3 s.size) 1 (by decide) (by decide)
    rw [show ((1 : Nat) : Int) = 1 from rfl, ByteArray.size_extract] at t2
    by_cases h4 : s.size < 4
    · rw [if_pos (by omega)] at t2
      have t3 := takeN ⟨#[]⟩ 8 (by decide) (by decide)
      rw [if_pos (by decide), show ((8 : Nat) : Int) = 8 from rfl] at t3
      rw [t1, Option.bind_some, t2, Option.bind_some, t3, Option.bind_some, if_neg (by simp), if_neg (by omega)]
    · rw [if_neg (by omega), de_extract s 3 (by omega), ← ByteArray.size_extract, extract_extract s 3 1 (by omega)] at t2
      have t3 := takeN (s.extract (3 + 1) s.size) 8 (by decide) (by decide)
      rw [show ((8 : Nat) : Int) = 8 from rfl, ByteArray.size_extract] at t3
      by_cases h12 : s.size < 12
      · rw [if_pos (by omega)] at t3
        rw [t1, Option.bind_some, t2, Option.bind_some, t3, Option.bind_some, if_neg (by simp), if_neg (by omega)]
      · rw [if_neg (by omega), de_extract s (3 + 1) (by omega)] at t3
        have d3 := dat_lt s 0 3
        have d1 := dat_lt s 3 1
        have d8 := dat_lt s 4 8
        rw [show (256 : Int) ^ 3 = 16777216 from rfl] at d3
        rw [show (256 : Int) ^ 1 = 256 from rfl] at d1
        rw [show (256 : Int) ^ 8 = 18446744073709551616 from rfl] at d8
        have w := write_eq id (dat s 0 3) (dat s 3 1) (dat s 4 8) d8.1 d8.2
        rw [t1, Option.bind_some, t2, Option.bind_some, t3, Option.bind_some, if_pos ⟨rfl, rfl, rfl⟩, wrap64_in _ (by show _ ≤ dat s 0 3; omega) (by show dat s 0 3 ≤ _; omega), wrap64_in _ (by show _ ≤ dat s 3 1; omega) (by show dat s 3 1 ≤ _; omega)]
        show ((write_slot.f 40 id (dat s 0 3) (dat s 3 1) (dat s 4 8)).bind fun p => _) = _
        rw [w]
        by_cases g : slotOk id (dat s 0 3) (dat s 3 1) = true
        · rw [if_pos g, Option.bind_some]
          by_cases h : s.size = 12
          · rw [if_pos ⟨rfl, slotB_of s h⟩, if_pos ⟨h, g⟩]
          · rw [if_neg (by rintro ⟨-, e⟩; exact h (by rw [← e]; exact slotB_size _ _ _)), if_neg (by rintro ⟨e, -⟩; exact h e)]
        · rw [if_neg g, Option.bind_some, if_neg (by rintro ⟨e, -⟩; exact absurd e (by decide)), if_neg (by rintro ⟨-, e⟩; exact g e)]
theorem ex_eq : S.bailiwicklaw14_examples.f = some true := by
  have e1 := write_eq 1 5 2 7 (by decide) (by decide)
  rw [if_pos (by decide)] at e1
  have e2 : xPutCap.f 0 0 0 0 0 0 0 0 0 false = some (⟨#[]⟩, 1) := by
    unfold xPutCap.f write_cap.f
    have : P.rec_capRecord_right.f 40 0 0 0 0 0 0 0 0 0 false = some false := by
      simp [P.rec_capRecord_right.f, P.rec_capRecord_right.j0, in_eq]
    rw [this]
    rfl
  unfold S.bailiwicklaw14_examples.f
  rw [show xPutSlot.f 1 5 2 7 = _ from e1, Option.bind_some, e2, Option.bind_some]
  rw [if_pos (by rw [ByteArray.toList_eq]; decide)]
  rfl
end Go.Proofs.Ytapfidadgafpbaa.Pure
