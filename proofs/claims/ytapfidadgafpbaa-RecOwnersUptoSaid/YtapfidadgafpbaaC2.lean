/-
  Plain facts beneath the statements on principals: read.
-/
import Derived.Test.YtapfidadgafpbaaB6
import Derived.Test.YtapfidadgafpbaaC1
namespace Go.Proofs.Ytapfidadgafpbaa.Pure
set_option linter.unusedVariables false
set_option linter.unusedSimpArgs false
open Go.RowKit Go.Proofs.Ytapfidadgafpbaa.G Go.Proofs.Ytapfidadgafpbaa.R Go.Proofs.YtapfidadgafpbaaW.PrintWords Go.Proofs.YtapfidadgafpbaaW.PrintLast Go.Proofs.YtapfidadgafpbaaW.PrintMore
theorem takeText_eq (r : ByteArray) (hz : r.size ≤ 140737488355328) : P.num_TakeText.f r = if r.size = 0 then some (⟨#[]⟩, ⟨#[]⟩, 2) else if bt r 0 ≥ r.size then some (⟨#[]⟩, ⟨#[]⟩, 2) else some (r.extract 1 (bt r 0 + 1).toNat, r.extract (bt r 0 + 1).toNat r.size, 0) := by
  have b := bt_range r 0
  unfold P.num_TakeText.f
  by_cases h0 : r.size = 0
  · have : r = ⟨#[]⟩ := by
      apply ByteArray.ext
      exact Array.eq_empty_of_size_eq_zero h0
    rw [if_pos h0, this, if_pos (by rw [ByteArray.toList_eq])]
  · have e0 : ¬ r.toList = [] := by
      rw [ByteArray.toList_eq]
      intro e
      have : r.data.toList.length = 0 := by rw [e]; rfl
      rw [Array.length_toList] at this
      exact h0 this
    rw [if_neg e0, if_neg h0, if_pos (by omega), wrap64_in _ (by omega) (by omega)]
    by_cases h1 : bt r 0 ≥ r.size
    · rw [if_pos h1, if_pos h1]
    · rw [if_neg h1, if_neg h1]
      simp only [wrap64_in (bt r 0 + 1) (by omega) (by omega)]
      repeat rw [if_pos (by omega)]
theorem take_some (r : ByteArray) (k : Nat) (hk : 1 ≤ k) (h8 : k ≤ 8) : ∃ n r' e, P.num_Take.f 40 r k = some (n, r', e) ∧ r'.size ≤ r.size := by
  have t := takeN r k hk h8
  by_cases hs : r.size < k
  · rw [if_pos hs] at t
    exact ⟨_, _, _, t, Nat.zero_le _⟩
  · rw [if_neg hs] at t
    exact ⟨_, _, _, t, by rw [ByteArray.size_extract]; omega⟩
/-- What is read as a principal is right, and is written so. -/
theorem otake_some (id : Int) (s : ByteArray) (hz : s.size ≤ 140737488355328) : ∃ i nm l h e, xTakeOwner.f id s = some (i, nm, l, h, e) ∧ nm.size ≤ 140737488355328 ∧ (e = 0 ∨ e = 2) ∧ (e = 0 → i = id ∧ ownOk id nm l h ∧ ownB l h nm = s) := by
  obtain ⟨n1, t1, e1, h1, z1⟩ := take_some s 2 (by decide) (by decide)
  obtain ⟨n2, t2, e2, h2, z2⟩ := take_some t1 2 (by decide) (by decide)
  rw [show ((2 : Nat) : Int) = 2 from rfl] at h1 h2
  obtain ⟨nm, rest, e3, h3, z3⟩ : ∃ nm rest e3, P.num_TakeText.f t2 = some (nm, rest, e3) ∧ nm.size ≤ t2.size := by
    rw [takeText_eq t2 (by omega)]
    by_cases g0 : t2.size = 0
    · rw [if_pos g0]; exact ⟨_, _, _, rfl, Nat.zero_le _⟩
    · rw [if_neg g0]
      by_cases g1 : bt t2 0 ≥ t2.size
      · rw [if_pos g1]; exact ⟨_, _, _, rfl, Nat.zero_le _⟩
      · rw [if_neg g1]; exact ⟨_, _, _, rfl, by rw [ByteArray.size_extract]; omega⟩
  unfold xTakeOwner.f
  rw [h1, Option.bind_some, h2, Option.bind_some, h3, Option.bind_some]
  by_cases g : ((false || (e1 != 0)) || (e2 != 0)) = false ∧ (e3 != 0) = false
  · rw [if_pos g]
    show ∃ i nm' l h e, ((write_own.f 40 id nm (wrap64 n1) (wrap64 n2)).bind fun p => if p.2 = 0 ∧ p.1 = s then some (id, nm, wrap64 n1, wrap64 n2, (0 : Int)) else some (0, ⟨#[]⟩, 0, 0, 2)) = some (i, nm', l, h, e) ∧ _
    rw [owrite_eq id nm (wrap64 n1) (wrap64 n2) (by omega)]
    by_cases hk : ownOk id nm (wrap64 n1) (wrap64 n2)
    · rw [if_pos hk, Option.bind_some]
      by_cases hq : ownB (wrap64 n1) (wrap64 n2) nm = s
      · rw [if_pos ⟨rfl, hq⟩]
        exact ⟨_, _, _, _, _, rfl, by omega, Or.inl rfl, fun _ => ⟨rfl, hk, hq⟩⟩
      · rw [if_neg (fun hh => hq hh.2)]
        exact ⟨_, _, _, _, _, rfl, Nat.zero_le _, Or.inr rfl, fun h => absurd h (by decide)⟩
    · rw [if_neg hk, Option.bind_some, if_neg (by rintro ⟨h, -⟩; exact absurd h (by decide))]
      exact ⟨_, _, _, _, _, rfl, Nat.zero_le _, Or.inr rfl, fun h => absurd h (by decide)⟩
  · rw [if_neg g]
    exact ⟨_, _, _, _, _, rfl, Nat.zero_le _, Or.inr rfl, fun h => absurd h (by decide)⟩
end Go.Proofs.Ytapfidadgafpbaa.Pure
