/-
  The law MacMade in plain Lean: a code is made of two sums, of the key in two turns.
-/
import Derived.Test.YtakbdknmfaoppaaB4
namespace Go.Proofs.Ytakbdknmfaoppaa.Pure
set_option linter.unusedVariables false
set_option linter.unusedSimpArgs false
open Go.RowKit Go.Proofs.Ytakbdknmfaoppaa.R Go.Proofs.Ytakbdknmfaoppaa.M Go.Proofs.YtakbdknmfaoppaaW.PrintWords Go.Proofs.YtakbdknmfaoppaaW.PrintLast
theorem ml_len (key : ByteArray) (b : Int) : ∀ (f i : Nat) (xs : List Int), (ml key b f i xs).length = xs.length := by
  intro f
  induction f with
  | zero => intro i xs; rfl
  | succ f ih => intro i xs; rw [ml, ih, List.length_set]
theorem made_l0 (x y : ByteArray) (hx : x.size ≤ 64) (m : Nat) : ∀ (d i : Nat) (u v : List Int), u.length = 64 → v.length = 64 → i + d = 64 →
    bailiwicklaw04_MacMade.l0 (m + d + 1) x y true u v (i : Int) = bailiwicklaw04_MacMade.l0 (m + 1) x y true (ml x 54 d i u) (ml x 92 d i v) 64 := by
  intro d
  induction d with
  | zero =>
    intro i u v hu hv h
    have : i = 64 := by omega
    subst this
    rfl
  | succ d ih =>
    intro i u v hu hv h
    have q : (i : Int) < 64 := by omega
    have q0 : (0 : Int) ≤ (i : Int) := by omega
    have q1 : (i : Int) < (u.length : Int) := by omega
    have q2 : (i : Int) < (v.length : Int) := by omega
    have hn := ih (i + 1) (u.set i (Go.bits .xor .u8 (bt x (i : Int)) 54)) (v.set i (Go.bits .xor .u8 (bt x (i : Int)) 92)) (by rw [List.length_set]; exact hu) (by rw [List.length_set]; exact hv) (by omega)
    have hb : ¬ (i : Int) < (x.size : Int) → bt x (i : Int) = 0 := fun h => by rw [bt_bn, bn_out _ _ (by omega)]; rfl
    have w1 : wrap64 ((i : Int) + 1) = ((i + 1 : Nat) : Int) := by unfold wrap64; omega
    rw [show m + (d + 1) + 1 = (m + d + 1) + 1 by omega, bailiwicklaw04_MacMade.l0, if_pos q, w1, Int.toNat_natCast, if_pos q0, if_pos q1, if_pos q2]
    rw [ml, ml, ← hn]
    by_cases c : (i : Int) < (x.size : Int)
    · rw [if_pos c]
    · rw [if_neg c, if_pos q0, if_pos q1, if_pos q2, hb c]
theorem MacMade : bailiwicklaw04_MacMade.Pure := by
  intro a b _ _
  have ha : (a.extract 0 (mn (a.size : Int) 64).toNat).size ≤ 64 := cut_size a 64
  have hb : (b.extract 0 (mn (b.size : Int) 200).toNat).size ≤ 200 := cut_size b 200
  have ma := mn_le a.size 64 (by decide)
  have mb := mn_le b.size 200 (by decide)
  refine ⟨2935 + 64 + 1, ?_⟩
  unfold bailiwicklaw04_MacMade.f
  rw [exm_eq _ (by omega), Option.bind_some, if_pos rfl, if_pos ma.1, if_pos ma.2.2, if_pos mb.1, if_pos mb.2.2, if_pos (by decide)]
  generalize a.extract 0 (mn (a.size : Int) 64).toNat = x at *
  generalize b.extract 0 (mn (b.size : Int) 200).toNat = y at *
  have h := made_l0 x y ha 2935 64 0 (List.replicate 64 0) (List.replicate 64 0) (List.length_replicate ..) (List.length_replicate ..) rfl
  refine h.trans ?_
  have t : ∀ z : Int, strOfNums (ml x z 64 0 (List.replicate 64 0)) = turnF x z := fun z => by
    rw [turnF, turn_ml x ha, ml_all x z 64 0 _ rfl (List.length_replicate ..)]
    rfl
  have t1 := turn64 x 92 ha
  have t2 := turn64 x 54 ha
  have z := sum32 (turnF x 54 ++ y)
  rw [bailiwicklaw04_MacMade.l0, if_neg (by decide), if_pos rfl, mac_f x y (by omega) (by omega), Option.bind_some, t, t, if_pos (by omega), sum_f _ (by rw [ByteArray.size_append]; omega), Option.bind_some, if_pos (by omega), sum_f _ (by rw [ByteArray.size_append]; omega), Option.bind_some]
  rw [macB, keyB, if_pos ha]
  simp
end Go.Proofs.Ytakbdknmfaoppaa.Pure
