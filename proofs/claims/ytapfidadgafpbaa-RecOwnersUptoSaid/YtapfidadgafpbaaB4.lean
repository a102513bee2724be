/-
  Plain facts on labels: what is folded byte by byte, what is decoded of it.
-/
import Derived.Test.YtapfidadgafpbaaR3
import Derived.Lib.DecodeN
namespace Go.Proofs.Ytapfidadgafpbaa.R
set_option linter.unusedVariables false
set_option linter.unusedSimpArgs false
open Go.RowKit Go.Proofs.YtapfidadgafpbaaW.PrintWords Go.Proofs.YtapfidadgafpbaaW.PrintLast Go.Proofs.YtapfidadgafpbaaW.PrintMore
theorem get_bang (s : ByteArray) (i : Nat) (h : i < s.size) : s.get! i = s[i]'h := by
  simp [ByteArray.get!, h]
  rfl
theorem decN_big (n x0 x1 x2 x3 : Nat) (c0 : ¬ x0 < 128) (c1 : ¬ (x0 / 32 = 6 ∧ (1 < n ∧ x1 / 64 = 2))) : 2048 ≤ (Lib.decodeN n x0 x1 x2 x3).1 := by
  unfold Lib.decodeN
  rw [if_neg c0, if_neg c1]
  split
  · split
    · rename_i d; simp only; omega
    · simp
  · split
    · split
      · rename_i d; simp only; omega
      · simp
    · simp
theorem decN_two (n x0 x1 x2 x3 : Nat) (h1 : 128 ≤ (Lib.decodeN n x0 x1 x2 x3).1) (h2 : (Lib.decodeN n x0 x1 x2 x3).1 ≤ 383) :
    1 < n ∧ (Lib.decodeN n x0 x1 x2 x3).2 = 2 ∧ x0 = 192 + (Lib.decodeN n x0 x1 x2 x3).1 / 64 ∧ x1 = 128 + (Lib.decodeN n x0 x1 x2 x3).1 % 64 := by
  by_cases c0 : x0 < 128
  · have e : Lib.decodeN n x0 x1 x2 x3 = (x0, 1) := by unfold Lib.decodeN; rw [if_pos c0]
    rw [e] at h1
    simp only at h1
    omega
  · by_cases c1 : x0 / 32 = 6 ∧ (1 < n ∧ x1 / 64 = 2)
    · by_cases c2 : x0 % 32 * 64 + x1 % 64 ≥ 128
      · have e : Lib.decodeN n x0 x1 x2 x3 = (x0 % 32 * 64 + x1 % 64, 2) := by unfold Lib.decodeN; rw [if_neg c0, if_pos c1, if_pos c2]
        rw [e] at h1 h2 ⊢
        simp only at h1 h2 ⊢
        obtain ⟨d1, d2, d3⟩ := c1
        refine ⟨d2, trivial, ?_, ?_⟩ <;> omega
      · have e : Lib.decodeN n x0 x1 x2 x3 = (65533, 1) := by unfold Lib.decodeN; rw [if_neg c0, if_pos c1, if_neg c2]
        rw [e] at h2
        simp at h2
    · have := decN_big n x0 x1 x2 x3 c0 c1
      omega
/-- A rune of two bytes. -/
theorem dec2 (s : ByteArray) (pos : Nat) (h : pos < s.size) (h1 : 128 ≤ (Utf8.decode s pos).1) (h2 : (Utf8.decode s pos).1 ≤ 383) :
    ∃ h' : pos + 1 < s.size, (Utf8.decode s pos).2 = 2 ∧ (s[pos]'h).toNat = 192 + (Utf8.decode s pos).1 / 64 ∧ (s[pos + 1]'h').toNat = 128 + (Utf8.decode s pos).1 % 64 := by
  rw [Lib.decode_at] at h1 h2 ⊢
  obtain ⟨k1, k2, k3, k4⟩ := decN_two _ _ _ _ _ h1 h2
  have h' : pos + 1 < s.size := by omega
  refine ⟨h', k2, ?_, ?_⟩
  · rw [← get_bang s pos h]; exact k3
  · rw [← get_bang s (pos + 1) h']; exact k4
theorem dec2_of (s : ByteArray) (pos : Nat) (h : pos + 1 < s.size) (h0 : 194 ≤ (s[pos]'(by omega)).toNat) (h0' : (s[pos]'(by omega)).toNat < 224) (h1 : 128 ≤ (s[pos + 1]'h).toNat) (h1' : (s[pos + 1]'h).toNat < 192) :
    Utf8.decode s pos = (((s[pos]'(by omega)).toNat - 192) * 64 + ((s[pos + 1]'h).toNat - 128), 2) := by
  rw [Lib.decode_at, get_bang s pos (by omega), get_bang s (pos + 1) h]
  generalize (s[pos]'(by omega)).toNat = x0 at *
  generalize (s[pos + 1]'h).toNat = x1 at *
  unfold Lib.decodeN
  rw [if_neg (by omega), if_pos (by omega), if_pos (by omega)]
  rw [show x0 % 32 * 64 + x1 % 64 = (x0 - 192) * 64 + (x1 - 128) by omega]
/-- The runes that a label may have. -/
theorem good_rune {r pos was : Nat} (h : goodB r pos was = true) : (r < 128) ∨ (192 ≤ r ∧ r ≤ 383) := by
  unfold goodB plainB at h
  simp only [Bool.or_eq_true, Bool.and_eq_true, decide_eq_true_eq, beq_iff_eq, bne_iff_ne] at h
  omega
end Go.Proofs.Ytapfidadgafpbaa.R
