/-
  Plain facts on caps, without the document's answer.
-/
import Derived.Test.YtapfidadgafpbaaB1
import Derived.Test.YtapfidadgafpbaaA3
namespace Go.Proofs.Ytapfidadgafpbaa.Pure
set_option linter.unusedVariables false
set_option linter.unusedSimpArgs false
open Go.RowKit Go.Proofs.Ytapfidadgafpbaa.G Go.Proofs.YtapfidadgafpbaaW.PrintWords Go.Proofs.YtapfidadgafpbaaW.PrintLast Go.Proofs.YtapfidadgafpbaaW.PrintMore

def capOk (a b c d e f g h i : Int) : Bool := decide (1 ≤ a ∧ a ≤ 16777215 ∧ 0 ≤ b ∧ b ≤ 16777215 ∧ b ≠ a ∧ 1 ≤ c ∧ c ≤ 16777215 ∧ 1 ≤ d ∧ d ≤ 16777215 ∧ 0 ≤ e ∧ e < 65536 ∧ 0 ≤ f ∧ f ≤ 4294967295 ∧ 1 ≤ g ∧ g ≤ 8 ∧ 0 ≤ h ∧ h ≤ 268435455 ∧ 0 ≤ i ∧ i ≤ 16777215 ∧ (g = 1 ↔ b = 0))
theorem andNot_self (a : Int) : (Go.bits .andNot .i64 a a == 0) = true := by
  rw [beq_iff_eq]
  show IntKind.i64.wrap ((BitVec.ofInt 64 a &&& ~~~ BitVec.ofInt 64 a).toNat : Int) = 0
  rw [BitVec.and_not_self]
  rfl
theorem sub_eq (a : Int) : P.rights_Sub.f a a = some (decide (0 ≤ a ∧ a < 65536)) := by
  unfold P.rights_Sub.f P.rights_right.f
  by_cases h0 : 0 ≤ a
  · by_cases h1 : a < 65536
    · simp [h0, h1, andNot_self]
    · simp [h0, h1]
  · simp [h0]
theorem iff_bool (g b : Int) : ((g == 1) == (b == 0)) = decide (g = 1 ↔ b = 0) := by
  have e1 : (g == 1) = decide (g = 1) := rfl
  have e2 : (b == 0) = decide (b = 0) := rfl
  rw [e1, e2]
  by_cases h1 : g = 1 <;> by_cases h2 : b = 0 <;> simp [h1, h2]
theorem cap_eq (k : Nat) (a b c d e f g h i : Int) (j : Bool) : P.rec_capRecord_right.f (k + 1) a b c d e f g h i j = some (capOk a b c d e f g h i) := by
  simp only [P.rec_capRecord_right.f, P.rec_capRecord_right.j0, in_eq, sub_eq, iff_bool, Option.bind_some, decide_eq_true_eq, Bool.not_eq_true', decide_eq_false_iff_not, if_true, if_false]
  by_cases h1 : 1 ≤ a ∧ a ≤ 16777215
  case neg => rw [if_neg h1, show capOk a b c d e f g h i = false from decide_eq_false (by omega)]
  rw [if_pos h1]
  by_cases h2 : 0 ≤ b ∧ b ≤ 16777215
  case neg => rw [if_neg h2, show capOk a b c d e f g h i = false from decide_eq_false (by omega)]
  rw [if_pos h2]
  by_cases h3 : b = a
  case pos => rw [if_pos h3, show capOk a b c d e f g h i = false from decide_eq_false (by omega)]
  rw [if_neg h3]
  by_cases h4 : 1 ≤ c ∧ c ≤ 16777215
  case neg => rw [if_neg h4, show capOk a b c d e f g h i = false from decide_eq_false (by omega)]
  rw [if_pos h4]
  by_cases h5 : 1 ≤ d ∧ d ≤ 16777215
  case neg => rw [if_pos h5, show capOk a b c d e f g h i = false from decide_eq_false (by omega)]
  rw [if_neg (by simpa using h5)]
  by_cases h6 : 0 ≤ e ∧ e < 65536
  case neg => rw [if_neg h6, show capOk a b c d e f g h i = false from decide_eq_false (by omega)]
  rw [if_pos h6]
  by_cases h7 : 0 ≤ f ∧ f ≤ 4294967295
  case neg => rw [if_neg h7, show capOk a b c d e f g h i = false from decide_eq_false (by omega)]
  rw [if_pos h7]
  by_cases h8 : 0 ≤ h ∧ h ≤ 268435455
  case neg => rw [if_neg h8, show capOk a b c d e f g h i = false from decide_eq_false (by omega)]
  rw [if_pos h8]
  by_cases h9 : 0 ≤ i ∧ i ≤ 16777215
  case neg => rw [if_neg h9, show capOk a b c d e f g h i = false from decide_eq_false (by omega)]
  rw [if_pos h9]
  by_cases h10 : 1 ≤ g ∧ g ≤ 8
  case neg => rw [if_neg h10, show capOk a b c d e f g h i = false from decide_eq_false (by omega)]
  rw [if_pos h10]
  congr 1
  unfold capOk
  rw [decide_eq_decide]
  constructor
  · intro hh; exact ⟨h1.1, h1.2, h2.1, h2.2, h3, h4.1, h4.2, h5.1, h5.2, h6.1, h6.2, h7.1, h7.2, h10.1, h10.2, h8.1, h8.2, h9.1, h9.2, hh⟩
  · intro hh; exact hh.2.2.2.2.2.2.2.2.2.2.2.2.2.2.2.2.2.2.2

/-! ### written -/
/-! ### read -/
/-- Where the reading stands. -/
def St (s : ByteArray) (a : Nat) (r : ByteArray) (bad : Bool) : Prop := (bad = false → a ≤ s.size ∧ r = s.extract a s.size) ∧ (bad = true → s.size < 24 ∧ r.size ≤ s.size)
theorem St.step {s r : ByteArray} {a : Nat} {bad : Bool} (h : St s a r bad) (k : Nat) (hk : 1 ≤ k) (h4 : k ≤ 8) (ha : a + k ≤ 24) :
    ∃ n r' e, P.num_Take.f 40 r k = some (n, r', e) ∧ St s (a + k) r' (bad || (e != 0)) ∧ ((bad || (e != 0)) = false → n = dat s a k) := by
  have t := takeN r k hk h4
  by_cases hs : r.size < k
  · rw [if_pos hs] at t
    refine ⟨_, _, _, t, ⟨fun hh => by simp at hh, fun _ => ?_⟩, fun hh => by simp at hh⟩
    cases bad
    · obtain ⟨h1, h2⟩ := h.1 rfl
      rw [h2, ByteArray.size_extract] at hs
      exact ⟨by omega, Nat.zero_le _⟩
    · exact ⟨(h.2 rfl).1, Nat.zero_le _⟩
  · rw [if_neg hs] at t
    refine ⟨_, _, _, t, ⟨fun hh => ?_, fun hh => ?_⟩, fun hh => ?_⟩
    · have hb : bad = false := by simpa using hh
      obtain ⟨h1, h2⟩ := h.1 hb
      rw [h2, ByteArray.size_extract] at hs
      exact ⟨by omega, by rw [h2]; exact extract_extract s a k (by omega)⟩
    · have hb : bad = true := by simpa using hh
      have := h.2 hb
      exact ⟨this.1, by rw [ByteArray.size_extract]; omega⟩
    · have hb : bad = false := by simpa using hh
      obtain ⟨h1, h2⟩ := h.1 hb
      rw [h2, de_extract s a h1]
end Go.Proofs.Ytapfidadgafpbaa.Pure
