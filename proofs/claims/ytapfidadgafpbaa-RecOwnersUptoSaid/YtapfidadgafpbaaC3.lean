/-
  Plain facts beneath the statement that what is written is read as it was.
-/
import Derived.Test.YtapfidadgafpbaaC2
namespace Go.Proofs.Ytapfidadgafpbaa.Pure
set_option linter.unusedVariables false
set_option linter.unusedSimpArgs false
open Go.RowKit Go.Proofs.Ytapfidadgafpbaa.G Go.Proofs.Ytapfidadgafpbaa.R Go.Proofs.YtapfidadgafpbaaW.PrintWords Go.Proofs.YtapfidadgafpbaaW.PrintLast Go.Proofs.YtapfidadgafpbaaW.PrintMore
theorem bt_left (x y : ByteArray) (i : Nat) (h : i < x.size) : bt (x ++ y) (i : Int) = bt x (i : Int) := by
  unfold bt
  simp only [Int.toNat_natCast]
  rw [dif_pos (by rw [ByteArray.size_append]; omega), dif_pos h, ByteArray.getElem_append_left h]
theorem bt_right (x y : ByteArray) (i : Nat) : bt (x ++ y) ((x.size + i : Nat) : Int) = bt y (i : Int) := by
  unfold bt
  simp only [Int.toNat_natCast, ByteArray.size_append]
  by_cases h : i < y.size
  · rw [dif_pos (by omega), dif_pos h, ByteArray.getElem_append_right (by omega)]
    congr 3
    omega
  · rw [dif_neg (by omega), dif_neg h]
theorem dat_left (x y : ByteArray) (a : Nat) : ∀ k, a + k ≤ x.size → dat (x ++ y) a k = dat x a k
  | 0, _ => rfl
  | k + 1, h => by rw [dat, dat, dat_left x y a k (by omega), bt_left x y (a + k) (by omega)]
theorem dat_right (x y : ByteArray) (p : Nat) (hp : x.size = p) : ∀ k, dat (x ++ y) p k = dat y 0 k
  | 0 => rfl
  | k + 1 => by rw [dat, dat, dat_right x y p hp k, ← hp, bt_right x y k, Nat.zero_add]
theorem str_append (a b : List Int) : strOfNums (a ++ b) = strOfNums a ++ strOfNums b := by
  apply ByteArray.ext
  simp [strOfNums]
theorem bt_one (c : Int) (h0 : 0 ≤ c) (h1 : c < 256) : bt (strOfNums [c]) ((0 : Nat) : Int) = c := by
  unfold bt
  rw [dif_pos (by rw [strOfNums_size]; exact Nat.zero_lt_one)]
  show ((UInt8.ofNat c.toNat).toNat : Int) = c
  simp
  omega
theorem dat_be : ∀ (k : Nat) (n : Int), 0 ≤ n → n < 256 ^ k → dat (strOfNums (be k n)) 0 k = n
  | 0, n, h0, h1 => by
    have : n < 1 := h1
    simp only [dat]; omega
  | k + 1, n, h0, h1 => by
    have e : (256 : Int) ^ (k + 1) = 256 ^ k * 256 := rfl
    rw [e] at h1
    rw [be, str_append, dat, dat_left _ _ 0 k (by rw [bytes_size]; omega), dat_be k (n / 256) (by omega) (by omega)]
    have := bt_right (strOfNums (be k (n / 256))) (strOfNums [n % 256]) 0
    rw [bytes_size] at this
    rw [Nat.add_zero] at this
    rw [Nat.zero_add, this, bt_one _ (by omega) (by omega)]
    omega
theorem extract_right (x y : ByteArray) (p : Nat) (hp : x.size = p) : (x ++ y).extract p (x ++ y).size = y :=
  ByteArray.extract_append_eq_right hp.symm ByteArray.size_append
/-! ### slots -/
/-! ### caps -/
/-! ### principals -/
theorem ownB_size (l h : Int) (nm : ByteArray) : (ownB l h nm).size = 5 + nm.size := by
  unfold ownB
  simp only [ByteArray.size_append, bytes_size, strOfNums_size, List.length_singleton]
  simp only [be_length]
  omega
theorem ownB_len (l h : Int) (nm : ByteArray) (hn : nm.size ≤ 32) : bt (ownB l h nm) ((4 : Nat) : Int) = nm.size := by
  unfold ownB
  have e := bt_right (strOfNums (be 2 l) ++ strOfNums (be 2 h)) (strOfNums [(nm.size : Int) % 256] ++ nm) 0
  rw [show (strOfNums (be 2 l) ++ strOfNums (be 2 h)).size + 0 = 4 by simp only [ByteArray.size_append, bytes_size]] at e
  rw [e, bt_left _ _ 0 (by rw [strOfNums_size]; exact Nat.zero_lt_one), bt_one _ (by omega) (by omega)]
  omega
theorem own_back (i : Int) (nm : ByteArray) (l h : Int) (hk : ownOk i nm l h) : xTakeOwner.f i (ownB l h nm) = some (i, nm, l, h, 0) := by
  have hn := name_size nm hk.1
  have z := ownB_size l h nm
  obtain ⟨-, g1, g2, g3, g4, g5, g6⟩ := id hk
  have t1 := takeN (ownB l h nm) 2 (by decide) (by decide)
  rw [if_neg (by omega), de_zero] at t1
  have t2 := takeN ((ownB l h nm).extract 2 (ownB l h nm).size) 2 (by decide) (by decide)
  rw [if_neg (by rw [ByteArray.size_extract]; omega), de_extract _ 2 (by omega), extract_extract _ 2 2 (by omega)] at t2
  have d1 : dat (ownB l h nm) 0 2 = l := by
    unfold ownB
    rw [dat_left _ _ 0 2 (by simp only [ByteArray.size_append, bytes_size]; decide), dat_left _ _ 0 2 (by simp only [bytes_size]; decide), dat_be 2 l (by omega) (by show l < 65536; omega)]
  have d2 : dat (ownB l h nm) 2 2 = h := by
    unfold ownB
    rw [dat_left _ _ 2 2 (by simp only [ByteArray.size_append, bytes_size]; decide), dat_right _ _ 2 (by simp only [bytes_size]), dat_be 2 h (by omega) (by show h < 65536; omega)]
  have x4 : (ownB l h nm).extract (2 + 2) (ownB l h nm).size = strOfNums [(nm.size : Int) % 256] ++ nm := by
    unfold ownB
    exact extract_right _ _ 4 (by simp only [ByteArray.size_append, bytes_size])
  rw [d1, show ((2 : Nat) : Int) = 2 from rfl] at t1
  rw [d2, x4, show ((2 : Nat) : Int) = 2 from rfl] at t2
  have t3 := takeText_eq (strOfNums [(nm.size : Int) % 256] ++ nm) (by rw [ByteArray.size_append, strOfNums_size]; simp; omega)
  have zz : (strOfNums [(nm.size : Int) % 256] ++ nm).size = 1 + nm.size := by rw [ByteArray.size_append, strOfNums_size]; rfl
  have b0 : bt (strOfNums [(nm.size : Int) % 256] ++ nm) 0 = nm.size := by
    have := bt_left (strOfNums [(nm.size : Int) % 256]) nm 0 (by rw [strOfNums_size]; exact Nat.zero_lt_one)
    rw [bt_one _ (by omega) (by omega)] at this
    rw [show (0 : Int) = ((0 : Nat) : Int) from rfl, this]
    omega
  rw [if_neg (by omega), if_neg (by rw [b0, zz]; omega), b0] at t3
  have x1 : (strOfNums [(nm.size : Int) % 256] ++ nm).extract 1 ((nm.size : Int) + 1).toNat = nm := by
    have := extract_right (strOfNums [(nm.size : Int) % 256]) nm 1 (by rw [strOfNums_size]; rfl)
    rw [zz] at this
    rw [show ((nm.size : Int) + 1).toNat = 1 + nm.size by omega]
    exact this
  rw [x1] at t3
  unfold xTakeOwner.f
  rw [t1, Option.bind_some, t2, Option.bind_some, t3, Option.bind_some, if_pos (show ((false || ((0 : Int) != 0)) || ((0 : Int) != 0)) = false ∧ ((0 : Int) != 0) = false by decide), wrap64_in l (by omega) (by omega), wrap64_in h (by omega) (by omega)]
  show ((write_own.f 40 i nm l h).bind fun p => if p.2 = 0 ∧ p.1 = ownB l h nm then some (i, nm, l, h, (0 : Int)) else some (0, ⟨#[]⟩, 0, 0, 2)) = _
  rw [owrite_eq i nm l h (by omega), if_pos hk, Option.bind_some, if_pos ⟨rfl, rfl⟩]
end Go.Proofs.Ytapfidadgafpbaa.Pure
