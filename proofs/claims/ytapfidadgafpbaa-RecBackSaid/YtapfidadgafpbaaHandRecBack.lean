/-
  The plain law that what is written is read as it was, and the printed walk at it.
-/
import Derived.Test.YtapfidadgafpbaaC3
import Derived.Test.YtapfidadgafpbaaBx5
import Derived.OpenShut
namespace Go.Proofs.Ytapfidadgafpbaa.Pure
set_option linter.unusedVariables false
set_option linter.unusedSimpArgs false
open Go.RowKit Go.Proofs.Ytapfidadgafpbaa.G Go.Proofs.Ytapfidadgafpbaa.R Go.Proofs.YtapfidadgafpbaaW.PrintWords Go.Proofs.YtapfidadgafpbaaW.PrintLast Go.Proofs.YtapfidadgafpbaaW.PrintMore
theorem mx_at (n : Nat) (h : 1 ≤ n) (h2 : n ≤ 1000) : mx (wrap64 ((n : Int) - 1)) 0 = ((n - 1 : Nat) : Int) := by
  rw [wrap64_in _ (by omega) (by omega)]
  unfold mx
  split <;> omega
theorem nil_eq (m : ByteArray) : (m.toList == ([] : List UInt8)) = decide (m.size = 0) := by
  rw [ByteArray.toList_eq]
  have e : m.size = m.data.toList.length := by rw [Array.length_toList]; rfl
  rw [e]
  cases m.data.toList <;> simp
theorem app_nil (a m : ByteArray) (h : m.size = 0) : a ++ m = a := by
  have : m = ByteArray.empty := by
    apply ByteArray.ext
    exact Array.eq_empty_of_size_eq_zero h
  rw [this, ByteArray.append_empty]
theorem bt_cut (s : ByteArray) (n i : Nat) (hn : n ≤ s.size) (hi : i < n) : bt (s.extract 0 n) (i : Int) = bt s (i : Int) := by
  have e : s.extract 0 n ++ s.extract n s.size = s := by rw [extract_append s 0 n s.size (Nat.zero_le _) hn (Nat.le_refl _), extract_all]
  conv => rhs; rw [← e]
  rw [bt_left _ _ i (by rw [ByteArray.size_extract]; omega)]
theorem slot_more (i c e n : Int) (m : ByteArray) (h0 : 0 ≤ n) (h1 : n < 18446744073709551616) (h : slotOk i c e = true) : ∃ a b c' d k, xTakeSlot.f i (slotB c e n ++ m) = some (a, b, c', d, k) ∧ ((k == 0) != decide (m.size = 0)) = false := by
  by_cases hm : m.size = 0
  · rw [app_nil _ _ hm, xTakeSlot.f, slot_back i c e n h0 h1 h]
    exact ⟨_, _, _, _, _, rfl, by simp [hm]⟩
  · rw [xTakeSlot.f, slot_not i _ (by rw [ByteArray.size_append, slotB_size]; omega)]
    exact ⟨_, _, _, _, _, rfl, by simp [hm]⟩
theorem j1_true (k : Nat) (m : ByteArray) (i c e n : Int) (h0 : 0 ≤ n) (h1 : n < 18446744073709551616) (hm : m.size ≤ 140737488351232) : B.bailiwicklaw14_RecBack.j1 (k + 1) m true i c e n = some true := by
  rw [B.bailiwicklaw14_RecBack.j1]
  by_cases h : slotOk i c e = true
  · have p : xPutSlot.f i c e n = some (slotB c e n, 0) := by rw [xPutSlot.f, write_eq _ _ _ _ h0 h1, if_pos h]
    obtain ⟨a, b, c', d, kk, q1, q2⟩ := slot_more i c e n m h0 h1 h
    have q3 : xTakeSlot.f i (slotB c e n) = some (i, c, e, n, 0) := slot_back i c e n h0 h1 h
    have q4 : xTakeSlot.f i ((slotB c e n).extract 0 11) = some (0, 0, 0, 0, 2) := slot_not i _ (by rw [ByteArray.size_extract, slotB_size]; decide)
    simp only [p, Option.bind_some, slotB_size, mx_at 12 (by decide) (by decide), q3, q1, nil_eq, q2, q4, if_true]
    rw [if_pos (by omega)]
    simp [q4, q2]
  · have p : xPutSlot.f i c e n = some (⟨#[]⟩, 1) := by rw [xPutSlot.f, write_eq _ _ _ _ h0 h1, if_neg h]
    rw [p, Option.bind_some, if_neg (show ¬ ((1 : Int) = 0) by decide)]
theorem own_more (i : Int) (nm : ByteArray) (l h : Int) (m : ByteArray) (hk : ownOk i nm l h) (hm : m.size ≤ 140737488351232) : ∃ a b c d k, xTakeOwner.f i (ownB l h nm ++ m) = some (a, b, c, d, k) ∧ ((k == 0) != decide (m.size = 0)) = false := by
  have hn := name_size nm hk.1
  have z := ownB_size l h nm
  by_cases hz : m.size = 0
  · rw [app_nil _ _ hz, own_back i nm l h hk]
    exact ⟨_, _, _, _, _, rfl, by simp [hz]⟩
  · obtain ⟨a, b, c, d, e⟩ := own_not i (ownB l h nm ++ m) (by rw [ByteArray.size_append]; omega) (by rw [bt_left _ _ 4 (by omega), ownB_len l h nm hn, ByteArray.size_append]; omega)
    exact ⟨a, b, c, d, 2, e, by simp [hz]⟩
theorem own_less (i : Int) (nm : ByteArray) (l h : Int) (hk : ownOk i nm l h) : ∃ a b c d, xTakeOwner.f i ((ownB l h nm).extract 0 ((ownB l h nm).size - 1)) = some (a, b, c, d, 2) := by
  have hn := name_size nm hk.1
  have hp := name_pos nm hk.1
  have z := ownB_size l h nm
  exact own_not i _ (by rw [ByteArray.size_extract]; omega) (by rw [bt_cut _ _ 4 (by omega) (by omega), ownB_len l h nm hn, ByteArray.size_extract]; omega)
theorem j0_true (k : Nat) (m : ByteArray) (i : Int) (nm : ByteArray) (l h : Int) (i2 c e n : Int) (h0 : 0 ≤ n) (h1 : n < 18446744073709551616) (hm : m.size ≤ 140737488351232) (hz : nm.size ≤ 140737488355328) : B.bailiwicklaw14_RecBack.j0 (k + 2) m true i nm l h i2 c e n = some true := by
  rw [B.bailiwicklaw14_RecBack.j0, j1_true k m i2 c e n h0 h1 hm]
  by_cases hk : ownOk i nm l h
  · have hn := name_size nm hk.1
    have z := ownB_size l h nm
    have p : xPutOwner.f i nm l h = some (ownB l h nm, 0) := by rw [xPutOwner.f, owrite_eq i nm l h hz, if_pos hk]
    obtain ⟨a, b, c', d, kk, q1, q2⟩ := own_more i nm l h m hk hm
    have q3 := own_back i nm l h hk
    obtain ⟨a4, b4, c4, d4, q4⟩ := own_less i nm l h hk
    have e4 : ((((ownB l h nm).size - 1 : Nat) : Int)).toNat = (ownB l h nm).size - 1 := Int.toNat_natCast _
    simp only [p, Option.bind_some, mx_at (ownB l h nm).size (by omega) (by omega), e4, q3, q1, nil_eq, q2, q4, if_true]
    rw [if_pos (by omega), if_pos (by omega), if_pos (by omega)]
    have g40 : ¬ ((ownB l h nm).size : Int) > 40 := by omega
    simp [q4, q2, g40]
  · have p : xPutOwner.f i nm l h = some (⟨#[]⟩, 1) := by rw [xPutOwner.f, owrite_eq i nm l h hz, if_neg hk]
    rw [p, Option.bind_some, if_neg (show ¬ ((1 : Int) = 0) by decide)]
theorem cap_more (a b c d e f g h i : Int) (j : Bool) (m : ByteArray) (hk : capOk a b c d e f g h i = true) : ∃ q1 q2 q3 q4 q5 q6 q7 q8 q9 q10 k, xTakeCap.f a (capB b c d e f g h i j ++ m) = some (q1, q2, q3, q4, q5, q6, q7, q8, q9, q10, k) ∧ ((k == 0) != decide (m.size = 0)) = false := by
  by_cases hm : m.size = 0
  · rw [app_nil _ _ hm, cap_back a b c d e f g h i j hk]
    exact ⟨_, _, _, _, _, _, _, _, _, _, _, rfl, by simp [hm]⟩
  · rw [cap_not a _ (by rw [ByteArray.size_append, capB_size]; omega)]
    exact ⟨_, _, _, _, _, _, _, _, _, _, _, rfl, by simp [hm]⟩
theorem back_true (a b c d e f g h i : Int) (j : Bool) (o1 : Int) (nm : ByteArray) (o3 o4 x1 x2 x3 x4 : Int) (m : ByteArray) (h0 : 0 ≤ x4) (h1 : x4 < 18446744073709551616) (hm : m.size ≤ 140737488351232) (hz : nm.size ≤ 140737488355328) :
    B.bailiwicklaw14_RecBack.f 41 a b c d e f g h i j o1 nm o3 o4 x1 x2 x3 x4 m = some true := by
  unfold B.bailiwicklaw14_RecBack.f
  rw [ex_eq, Option.bind_some, if_pos rfl, j0_true 39 m o1 nm o3 o4 x1 x2 x3 x4 h0 h1 hm hz]
  by_cases hk : capOk a b c d e f g h i = true
  · have p : xPutCap.f a b c d e f g h i j = some (capB b c d e f g h i j, 0) := by rw [xPutCap.f, cwrite_eq, if_pos hk]
    obtain ⟨q1, q2, q3, q4, q5, q6, q7, q8, q9, q10, kk, r1, r2⟩ := cap_more a b c d e f g h i j m hk
    have r3 := cap_back a b c d e f g h i j hk
    have r4 : xTakeCap.f a ((capB b c d e f g h i j).extract 0 23) = some (0, 0, 0, 0, 0, 0, 0, 0, 0, false, 2) := cap_not a _ (by rw [ByteArray.size_extract, capB_size]; decide)
    simp only [p, Option.bind_some, capB_size, mx_at 24 (by decide) (by decide), r3, r1, nil_eq, r2, r4, if_true]
    rw [if_pos (by omega)]
    simp [r4, r2]
  · have p : xPutCap.f a b c d e f g h i j = some (⟨#[]⟩, 1) := by rw [xPutCap.f, cwrite_eq, if_neg hk]
    rw [p, Option.bind_some, if_neg (show ¬ ((1 : Int) = 0) by decide)]
theorem RecBack_walk (a b c d e f g h i : Int) (j : Bool) (o1 : Int) (nm : ByteArray) (o3 o4 x1 x2 x3 x4 : Int) (m : ByteArray) (w : World) (w0 : (Lit.int .i64 a).wf = true) (w1 : (Lit.int .i64 b).wf = true) (w2 : (Lit.int .i64 c).wf = true) (w3 : (Lit.int .i64 d).wf = true) (w4 : (Lit.int .i64 e).wf = true) (w5 : (Lit.int .i64 f).wf = true) (w6 : (Lit.int .i64 g).wf = true) (w7 : (Lit.int .i64 h).wf = true) (w8 : (Lit.int .i64 i).wf = true) (w9 : (Lit.int .i64 o1).wf = true) (w10 : nm.size ≤ 140737488351232) (w11 : (Lit.int .i64 o3).wf = true) (w12 : (Lit.int .i64 o4).wf = true) (w13 : (Lit.int .i64 x1).wf = true) (w14 : (Lit.int .i64 x2).wf = true) (w15 : (Lit.int .i64 x3).wf = true) (w16 : (Lit.int .u64 x4).wf = true) (w17 : m.size ≤ 140737488351232) :
    Calls Try.prog 7 #[capV a b c d e f g h i j, ownV o1 nm o3 o4, slotV x1 x2 x3 x4, .string m] w fun e w' => e = .returned (.bool true) ∧ Below w.heap.size w w' := by
  have b16 := bounds_u64 w16
  have hz : nm.size ≤ 140737488355328 := by omega
  exact B.bailiwicklaw14_RecBack.calls 41 a b c d e f g h i j o1 nm o3 o4 x1 x2 x3 x4 m true w (back_true a b c d e f g h i j o1 nm o3 o4 x1 x2 x3 x4 m (by omega) (by omega) w17 hz) rfl
end Go.Proofs.Ytapfidadgafpbaa.Pure
