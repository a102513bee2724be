/-
  Plain facts beneath the statements on pages.
-/
import Derived.Test.YtnffhdlkkfphbaaB2
namespace Go.Proofs.Ytnffhdlkkfphbaa.Pure
set_option linter.unusedVariables false
set_option linter.unusedSimpArgs false
open Go.RowKit Go.Proofs.Ytnffhdlkkfphbaa.G Go.Proofs.YtnffhdlkkfphbaaW.PrintWords Go.Proofs.YtnffhdlkkfphbaaW.PrintLast
theorem adl_lt (l : List UInt8) : adl l < 4294967296 := by
  have := adPair_lt l
  unfold adl
  omega
theorem ad_a (p q n : Nat) : ((p + q + 65520) % 65521 + n) % 65521 = (p + (q + n) % 65521 + 65520) % 65521 := by omega
theorem ad_b (p1 p2 q1 q2 n M : Nat) : ((p2 + q2 + M) % 65521 + (p1 + (q1 + n) % 65521 + 65520) % 65521) % 65521 = (p2 + (q2 + (q1 + n) % 65521) % 65521 + (M + (p1 + 65520))) % 65521 := by omega
/-- A fold begun elsewhere. -/
theorem adFold_from : ∀ (l : List UInt8) (p : Nat × Nat), p.1 < 65521 → p.2 < 65521 →
    (l.foldl adStep p).1 = (p.1 + (l.foldl adStep (1, 0)).1 + 65520) % 65521 ∧ (l.foldl adStep p).2 = (p.2 + (l.foldl adStep (1, 0)).2 + l.length * (p.1 + 65520)) % 65521 := by
  have key : ∀ r : List UInt8, ∀ (p : Nat × Nat), p.1 < 65521 → p.2 < 65521 →
      (r.reverse.foldl adStep p).1 = (p.1 + (r.reverse.foldl adStep (1, 0)).1 + 65520) % 65521 ∧ (r.reverse.foldl adStep p).2 = (p.2 + (r.reverse.foldl adStep (1, 0)).2 + r.reverse.length * (p.1 + 65520)) % 65521 := by
   intro r
   induction r with
   | nil => intro p h1 h2; simp; omega
   | cons c r ih =>
    intro p h1 h2
    rw [List.reverse_cons]
    generalize r.reverse = l at *
    obtain ⟨e1, e2⟩ := ih p h1 h2
    have hm : (l.length + (0 + 1)) * (p.1 + 65520) = l.length * (p.1 + 65520) + (p.1 + 65520) := by rw [Nat.zero_add, Nat.succ_mul]
    rw [List.foldl_append, List.foldl_append, List.length_append, List.length_cons, List.length_nil, hm]
    simp only [List.foldl_cons, List.foldl_nil]
    generalize List.foldl adStep p l = u at *
    generalize List.foldl adStep (1, 0) l = v at *
    simp only [adStep]
    rw [e1, e2]
    exact ⟨ad_a _ _ _, by rw [ad_a]; exact ad_b _ _ _ _ _ _⟩
  intro l
  have := key l.reverse
  rwa [List.reverse_reverse] at this
theorem adl_lo (l : List UInt8) : adl l % 65536 = (adPair l).1 := by
  have := adPair_lt l
  unfold adl
  omega
theorem adl_hi (l : List UInt8) : adl l / 65536 = (adPair l).2 := by
  have := adPair_lt l
  unfold adl
  omega
theorem adl_append (l r : List UInt8) : adl (l ++ r) = (adl l / 65536 + adl r / 65536 + r.length * (adl l % 65536 + 65520)) % 65521 * 65536 + (adl l % 65536 + adl r % 65536 + 65520) % 65521 := by
  have h := adPair_lt l
  obtain ⟨e1, e2⟩ := adFold_from r (adPair l) h.1 h.2
  have e : adPair (l ++ r) = r.foldl adStep (adPair l) := by simp [adPair, List.foldl_append]
  rw [adl_lo, adl_hi, adl_lo, adl_hi]
  unfold adl
  rw [e, e1, e2]
  rfl
theorem adl_zero (l : List UInt8) : adl (l ++ [0]) % 65536 = adl l % 65536 := by
  have h := adPair_lt l
  rw [adl_lo, adl_lo, adPair_snoc]
  show ((adPair l).1 + 0) % 65521 = _
  omega
end Go.Proofs.Ytnffhdlkkfphbaa.Pure
