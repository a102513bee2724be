/-
  Plain facts on caps, without the document's answer.
-/
import Derived.Test.YtapfidadgafpbaaB1
import Derived.Test.YtapfidadgafpbaaA3
namespace Go.Proofs.Ytapfidadgafpbaa.Pure
set_option linter.unusedVariables false
set_option linter.unusedSimpArgs false
open Go.RowKit Go.Proofs.Ytapfidadgafpbaa.G Go.Proofs.YtapfidadgafpbaaW.PrintWords Go.Proofs.YtapfidadgafpbaaW.PrintLast Go.Proofs.YtapfidadgafpbaaW.PrintMore

def capOk (a b c d e f g h i : Int) : Bool := decide (1 ≤ a ∧ a ≤ 16777215 ∧ 0 ≤ b ∧ b ≤ 16777215 ∧ b ≠ a ∧ 1 ≤ c ∧ c ≤ 16777215 ∧ 1 ≤ d ∧ d ≤ 16777215 ∧ 0 ≤ e ∧ e < 65536 ∧ 0 ≤ f ∧ f ≤ 4294967295 ∧ 1 ≤ g ∧ g ≤ 8 ∧ 0 ≤ h ∧ h ≤ 268435455 ∧ 0 ≤ i ∧ i ≤ 16777215 ∧ (g = 1 ↔ b = 0))
/-! ### written -/
def lastB (j : Bool) : Int := if j = true then 1 else 0
/-! ### read -/
/-- Where the reading stands. -/
def St (s : ByteArray) (a : Nat) (r : ByteArray) (bad : Bool) : Prop := (bad = false → a ≤ s.size ∧ r = s.extract a s.size) ∧ (bad = true → s.size < 24 ∧ r.size ≤ s.size)
theorem St.step {s r : ByteArray} {a : Nat} {bad : Bool} (h : St s a r bad) (k : Nat) (hk : 1 ≤ k) (h4 : k ≤ 8) (ha : a + k ≤ 24) :
    ∃ n r' e, P.num_Take.f 40 r k = some (n, r', e) ∧ St s (a + k) r' (bad || (e != 0)) ∧ ((bad || (e != 0)) = false → n = dat s a k) := by
  have t := takeN r k hk h4
  by_cases hs : r.size < k
  · rw [if_pos hs] at t
    refine ⟨_, _, _, t, ⟨fun hh => by simp at hh, fun _ => ?_⟩, fun hh => by simp at hh⟩
    cases bad
    · obtain ⟨h1, h2⟩ := h.1 rfl
      rw [h2, ByteArray.size_extract] at hs
      exact ⟨by omega, Nat.zero_le _⟩
    · exact ⟨(h.2 rfl).1, Nat.zero_le _⟩
  · rw [if_neg hs] at t
    refine ⟨_, _, _, t, ⟨fun hh => ?_, fun hh => ?_⟩, fun hh => ?_⟩
    · have hb : bad = false := by simpa using hh
      obtain ⟨h1, h2⟩ := h.1 hb
      rw [h2, ByteArray.size_extract] at hs
      exact ⟨by omega, by rw [h2]; exact extract_extract s a k (by omega)⟩
    · have hb : bad = true := by simpa using hh
      have := h.2 hb
      exact ⟨this.1, by rw [ByteArray.size_extract]; omega⟩
    · have hb : bad = false := by simpa using hh
      obtain ⟨h1, h2⟩ := h.1 hb
      rw [h2, de_extract s a h1]
end Go.Proofs.Ytapfidadgafpbaa.Pure
