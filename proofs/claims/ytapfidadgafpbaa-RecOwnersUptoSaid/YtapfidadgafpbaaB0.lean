/-
  Plain facts beneath the statements on records: numbers of one to eight bytes, written and read.
-/
import Derived.Test.YtapfidadgafpbaaA2
import Derived.Test.YtapfidadgafpbaaPx4
import Derived.Test.YtapfidadgafpbaaPx5
import Derived.Laws.Bits64b
namespace Go.Proofs.Ytapfidadgafpbaa.Pure
set_option linter.unusedVariables false
set_option linter.unusedSimpArgs false
open Go.RowKit Go.Proofs.Ytapfidadgafpbaa.G Go.Proofs.YtapfidadgafpbaaW.PrintWords Go.Proofs.YtapfidadgafpbaaW.PrintLast Go.Proofs.YtapfidadgafpbaaW.PrintMore

/-- The bytes of a number, the highest first. -/
def be : Nat → Int → List Int
  | 0, _ => []
  | s + 1, n => be s (n / 256) ++ [n % 256]
/-- The number of the first bytes. -/
def de (b : ByteArray) : Nat → Int
  | 0 => 0
  | s + 1 => de b s * 256 + bt b s
theorem wrap64_in (n : Int) (h0 : -9223372036854775808 ≤ n) (h1 : n ≤ 9223372036854775807) : wrap64 n = n := by unfold wrap64; omega
theorem u64_in (n : Int) (h0 : 0 ≤ n) (h1 : n < 18446744073709551616) : IntKind.u64.wrap n = n := by rw [IntKind.wrap_u64]; omega
theorem u64bits : IntKind.u64.bits = 64 := rfl
theorem or_add (x y : Int) (h0 : 0 ≤ x) (h1 : x < 72057594037927936) (h2 : 0 ≤ y) (h3 : y ≤ 255) : Go.bits .or .u64 (x * 256) y = x * 256 + y := by
  obtain ⟨a, rfl⟩ := Int.eq_ofNat_of_zero_le h0
  obtain ⟨b, rfl⟩ := Int.eq_ofNat_of_zero_le h2
  rw [show (a : Int) * 256 = ((a * 256 : Nat) : Int) by simp, bits_or_u64_nat _ _ (by omega) (by omega)]
  have : a * 256 ||| b = a * 256 + b := by
    have := Nat.shiftLeft_add_eq_or_of_lt (b := b) (i := 8) (by omega) a
    rw [Nat.shiftLeft_eq] at this
    exact this.symm
  rw [this]
  simp
theorem de_lt (b : ByteArray) : ∀ s, 0 ≤ de b s ∧ de b s < 256 ^ s
  | 0 => by simp [de]
  | s + 1 => by
    have h := de_lt b s
    have h2 := bt_range b s
    have e : (256 : Int) ^ (s + 1) = 256 ^ s * 256 := rfl
    simp only [de]
    rw [e]
    omega
theorem put2 (n : Int) (h0 : 0 ≤ n) (h1 : n < 18446744073709551616) : P.num_Put.f 40 n 2 = if n < 65536 then some (strOfNums (be 2 n), 0) else some (⟨#[]⟩, 1) := by
  have e : (n / 256 / 256 = 0) = (n < 65536) := by apply propext; omega
  simp [P.num_Put.f, P.num_Put.j0, P.num_Put.l0, be, wrap64, List.replicate, e]
theorem rput2 (n : Int) (h0 : 0 ≤ n) (h1 : n < 18446744073709551616) : P.bailiwickref01_Put.f 40 n 2 = if n < 65536 then some (strOfNums (be 2 n), true) else some (⟨#[]⟩, false) := by
  have e : (0 < n / 65536) = ¬ (n < 65536) := by apply propext; omega
  by_cases hn : n < 65536 <;> simp [P.bailiwickref01_Put.f, P.bailiwickref01_Put.j0, P.bailiwickref01_Put.l0, be, wrap64, List.replicate, shr, u64bits, e, hn]
theorem pow_le8 (j : Nat) (h : j < 8) : (256 : Int) ^ j ≤ 72057594037927936 := by
  have : j = 0 ∨ j = 1 ∨ j = 2 ∨ j = 3 ∨ j = 4 ∨ j = 5 ∨ j = 6 ∨ j = 7 := by omega
  rcases this with rfl | rfl | rfl | rfl | rfl | rfl | rfl | rfl <;> decide
theorem take_l0 (b : ByteArray) (s : Nat) (hs : s ≤ b.size) (h8 : s ≤ 8) : ∀ m j k : Nat, j + m = s → m < k → P.num_Take.l0 k b s (de b j) s j = some (de b s, b.extract s b.size, 0)
  | 0, j, k + 1, hj, hk => by
    obtain rfl : j = s := by omega
    rw [P.num_Take.l0, if_neg (by omega), if_pos (by omega), if_pos (by omega)]
    rfl
  | m + 1, j, k + 1, hj, hk => by
    have d := de_lt b j
    have r := bt_range b j
    have p := pow_le8 j (by omega)
    rw [P.num_Take.l0, if_pos (by omega), if_pos (by omega), if_pos (by omega), u64_in (bt b j) (by omega) (by omega), u64_in (de b j * 256) (by omega) (by omega), u64_in _ (by omega) (by omega), wrap64_in _ (by omega) (by omega)]
    exact take_l0 b s hs h8 m (j + 1) k (by omega) (by omega)
theorem takeN (b : ByteArray) (s : Nat) (h1 : 1 ≤ s) (h8 : s ≤ 8) : P.num_Take.f 40 b s = if b.size < s then some (0, ⟨#[]⟩, 2) else some (de b s, b.extract s b.size, 0) := by
  rw [P.num_Take.f, if_neg (by omega), show decide ((s : Int) > 8) = false from decide_eq_false (by omega), P.num_Take.j0, if_neg (by decide)]
  by_cases h : b.size < s
  · rw [if_pos (by omega), if_pos h]
  · rw [if_neg (by omega), if_neg h]
    exact take_l0 b s (by omega) h8 s 0 39 (by omega) (by omega)
theorem rtake_l0 (b : ByteArray) (s : Nat) (hs : s ≤ b.size) (h8 : s ≤ 8) : ∀ m j k : Nat, j + m = s → m < k → P.bailiwickref01_Take.l0 k b s (de b j) j = some (de b s, b.extract s b.size, 0)
  | 0, j, k + 1, hj, hk => by
    obtain rfl : j = s := by omega
    rw [P.bailiwickref01_Take.l0, if_neg (by omega), if_pos (by omega), if_pos (by omega)]
    rfl
  | m + 1, j, k + 1, hj, hk => by
    have d := de_lt b j
    have r := bt_range b j
    have p := pow_le8 j (by omega)
    rw [P.bailiwickref01_Take.l0, if_pos (by omega), if_pos (by omega), if_pos (by omega), u64_in (bt b j) (by omega) (by omega), u64_in (de b j * 256) (by omega) (by omega), or_add _ _ d.1 (by omega) r.1 r.2, wrap64_in _ (by omega) (by omega)]
    exact rtake_l0 b s hs h8 m (j + 1) k (by omega) (by omega)
theorem rtakeN (b : ByteArray) (s : Nat) (h1 : 1 ≤ s) (h8 : s ≤ 8) : P.bailiwickref01_Take.f 40 b s = if b.size < s then some (0, ⟨#[]⟩, 2) else some (de b s, b.extract s b.size, 0) := by
  rw [P.bailiwickref01_Take.f, if_neg (by omega), show decide ((s : Int) > 8) = false from decide_eq_false (by omega), P.bailiwickref01_Take.j0, if_neg (by decide)]
  by_cases h : b.size < s
  · rw [if_pos (by omega), if_pos h]
  · rw [if_neg (by omega), if_neg h]
    exact rtake_l0 b s (by omega) h8 s 0 39 (by omega) (by omega)
end Go.Proofs.Ytapfidadgafpbaa.Pure
