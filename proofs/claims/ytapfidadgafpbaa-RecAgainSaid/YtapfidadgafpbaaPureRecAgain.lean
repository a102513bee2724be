/- A value that is read as something is written as it stood, and is right. No condition. -/
import Derived.Test.YtapfidadgafpbaaC2
import Derived.Test.YtapfidadgafpbaaEx1
import Derived.OpenShut
namespace Go.Proofs.Ytapfidadgafpbaa.Pure
set_option linter.unusedVariables false
set_option linter.unusedSimpArgs false
open Go.RowKit Go.Proofs.Ytapfidadgafpbaa.G Go.Proofs.Ytapfidadgafpbaa.R Go.Proofs.Ytapfidadgafpbaa.E Go.Proofs.YtapfidadgafpbaaW.PrintWords Go.Proofs.YtapfidadgafpbaaW.PrintLast Go.Proofs.YtapfidadgafpbaaW.PrintMore
theorem cap_again (id : Int) (s : ByteArray) : ∃ a b c d e f g h i j k, xTakeCap.f id s = some (a, b, c, d, e, f, g, h, i, j, k) ∧ ∃ t m, xPutCap.f a b c d e f g h i j = some (t, m) ∧ ∃ y, P.rec_CapRight.f 41 a b c d e f g h i j = some y ∧ (k = 0 → m = 0 ∧ t = s ∧ y = true ∧ a = id) := by
  have r : ∀ a b c d e f g h i j, P.rec_CapRight.f 41 a b c d e f g h i j = some (capOk a b c d e f g h i) := by intros; rw [P.rec_CapRight.f, cap_eq 40]; rfl
  rw [ctake_eq]
  by_cases hg : capG id s
  · rw [if_pos hg]
    have h2 := hg
    unfold capG at h2
    exact ⟨_, _, _, _, _, _, _, _, _, _, _, rfl, _, _, (cwrite_eq _ _ _ _ _ _ _ _ _ _).trans (if_pos h2.2.2), _, r _ _ _ _ _ _ _ _ _ _, fun _ => ⟨rfl, (capB_is s (by omega)).2 ⟨h2.1, h2.2.1⟩, h2.2.2, rfl⟩⟩
  · rw [if_neg hg]
    exact ⟨_, _, _, _, _, _, _, _, _, _, _, rfl, _, _, (cwrite_eq _ _ _ _ _ _ _ _ _ _).trans (if_neg (by decide)), _, r _ _ _ _ _ _ _ _ _ _, fun h => absurd h (by decide)⟩
theorem slot_again (id : Int) (s : ByteArray) : ∃ a b c d k, xTakeSlot.f id s = some (a, b, c, d, k) ∧ ∃ t m, xPutSlot.f a b c d = some (t, m) ∧ ∃ y, P.rec_SlotRight.f a b c d = some y ∧ (k = 0 → m = 0 ∧ t = s ∧ y = true ∧ a = id) := by
  have r : ∀ a b c d, P.rec_SlotRight.f a b c d = some (slotOk a b c) := by intros; rw [P.rec_SlotRight.f, right_eq]; rfl
  rw [xTakeSlot.f, take_eq]
  by_cases hg : s.size = 12 ∧ slotOk id (dat s 0 3) (dat s 3 1) = true
  · rw [if_pos hg]
    have d8 := dat_lt s 4 8
    rw [show (256 : Int) ^ 8 = 18446744073709551616 from rfl] at d8
    exact ⟨_, _, _, _, _, rfl, _, _, (write_eq _ _ _ _ d8.1 d8.2).trans (if_pos hg.2), _, r _ _ _ _, fun _ => ⟨rfl, slotB_of s hg.1, hg.2, rfl⟩⟩
  · rw [if_neg hg]
    exact ⟨_, _, _, _, _, rfl, _, _, (write_eq _ _ _ _ (by decide) (by decide)).trans (if_neg (by decide)), _, r _ _ _ _, fun h => absurd h (by decide)⟩
theorem own_again (id : Int) (s : ByteArray) (hz : s.size ≤ 140737488355328) : ∃ a b c d k, xTakeOwner.f id s = some (a, b, c, d, k) ∧ ∃ t m, xPutOwner.f a b c d = some (t, m) ∧ ∃ y, O.rec_OwnerRight.f a b c d = some y ∧ (k = 0 → m = 0 ∧ t = s ∧ y = true ∧ a = id) := by
  obtain ⟨i, nm, l, h, e, h1, h2, h3, h4⟩ := otake_some id s hz
  have r : O.rec_OwnerRight.f i nm l h = some (decide (ownOk i nm l h)) := by rw [O.rec_OwnerRight.f, own_eq i nm l h h2]; rfl
  have p := owrite_eq i nm l h h2
  by_cases hk : ownOk i nm l h
  · rw [if_pos hk] at p
    exact ⟨i, nm, l, h, e, h1, _, _, p, _, r, fun he => ⟨rfl, (h4 he).2.2, decide_eq_true hk, (h4 he).1⟩⟩
  · rw [if_neg hk] at p
    exact ⟨i, nm, l, h, e, h1, _, _, p, _, r, fun he => absurd ((h4 he).1 ▸ (h4 he).2.1) hk⟩
theorem RecAgain : bailiwicklaw14_RecAgain.Pure := by
  intro id s w0 w1
  refine ⟨41, ?_⟩
  obtain ⟨a1, a2, a3, a4, a5, a6, a7, a8, a9, a10, ak, at1, t1, m1, ap, y1, ay, ah⟩ := cap_again id s
  obtain ⟨b1, b2, b3, b4, bk, bt1, t2, m2, bp, y2, by_, bh⟩ := own_again id s (by omega)
  obtain ⟨c1, c2, c3, c4, ck, ct1, t3, m3, cp, y3, cy, ch⟩ := slot_again id s
  unfold bailiwicklaw14_RecAgain.f
  simp only [ex_eq, at1, ap, bt1, bp, ct1, cp, Option.bind_some, if_true]
  have tail : (if ck = 0 then (if m3 = 0 then (if t3.toList = s.toList then ((P.rec_SlotRight.f c1 c2 c3 c4).bind fun t => if t = true then some (c1 == id) else some false) else some false) else some false) else some true) = some true := by
    by_cases h : ck = 0
    · obtain ⟨g1, g2, g3, g4⟩ := ch h
      rw [if_pos h, if_pos g1, if_pos (by rw [g2]), cy, Option.bind_some, if_pos g3, g4]
      simp
    · rw [if_neg h]
  have tail2 : (if bk = 0 then (if m2 = 0 then (if t2.toList = s.toList then ((O.rec_OwnerRight.f b1 b2 b3 b4).bind fun t => if t = true then (if b1 = id then (if ck = 0 then (if m3 = 0 then (if t3.toList = s.toList then ((P.rec_SlotRight.f c1 c2 c3 c4).bind fun t => if t = true then some (c1 == id) else some false) else some false) else some false) else some true) else some false) else some false) else some false) else some false) else (if ck = 0 then (if m3 = 0 then (if t3.toList = s.toList then ((P.rec_SlotRight.f c1 c2 c3 c4).bind fun t => if t = true then some (c1 == id) else some false) else some false) else some false) else some true)) = some true := by
    rw [tail]
    by_cases h : bk = 0
    · obtain ⟨g1, g2, g3, g4⟩ := bh h
      rw [if_pos h, if_pos g1, if_pos (by rw [g2]), by_, Option.bind_some, if_pos g3, if_pos g4]
    · rw [if_neg h]
  rw [tail2]
  by_cases h : ak = 0
  · obtain ⟨g1, g2, g3, g4⟩ := ah h
    rw [if_pos h, if_pos g1, if_pos (by rw [g2]), ay, Option.bind_some, if_pos g3, if_pos g4]
  · rw [if_neg h]
end Go.Proofs.Ytapfidadgafpbaa.Pure
