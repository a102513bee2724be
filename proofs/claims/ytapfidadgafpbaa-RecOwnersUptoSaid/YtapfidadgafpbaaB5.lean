/-
  Plain facts on labels: a label that is folded is a label, and folded again it is the same.
-/
import Derived.Test.YtapfidadgafpbaaB4
namespace Go.Proofs.Ytapfidadgafpbaa.R
set_option linter.unusedVariables false
set_option linter.unusedSimpArgs false
open Go.RowKit Go.Proofs.YtapfidadgafpbaaW.PrintWords Go.Proofs.YtapfidadgafpbaaW.PrintLast Go.Proofs.YtapfidadgafpbaaW.PrintMore
def lowN (r : Nat) : Nat := if 65 ≤ r ∧ r ≤ 90 then r + 32 else r
theorem lowR_eq (r : Nat) : lowR (r : Int) = (lowN r : Int) := by
  unfold lowR lowN
  by_cases h : 65 ≤ r ∧ r ≤ 90
  · rw [if_pos h, if_pos (by omega)]; rfl
  · rw [if_neg h, if_neg (by omega)]
theorem lowU_toNat (c : UInt8) : (lowU c).toNat = lowN c.toNat := by
  unfold lowU lowN
  by_cases h : 65 ≤ c.toNat ∧ c.toNat ≤ 90
  · rw [if_pos h, if_pos h]; simp; omega
  · rw [if_neg h, if_neg h]
theorem lowS_size (s : ByteArray) : (lowS s).size = s.size := by
  show (List.map lowU s.data.toList).toArray.size = s.data.size
  simp
theorem lowS_get (s : ByteArray) (i : Nat) (h : i < s.size) : (lowS s)[i]'(by rw [lowS_size]; exact h) = lowU (s[i]'h) := by
  unfold lowS
  show (List.map lowU s.data.toList).toArray[i]'_ = _
  simp
  rfl
theorem byte_of_dec (s : ByteArray) (pos : Nat) (h : pos < s.size) (hc : (Utf8.decode s pos).1 < 128) : Utf8.decode s pos = ((s[pos]'h).toNat, 1) ∧ (s[pos]'h).toNat < 128 := by
  by_cases hb : (s[pos]'h).toNat < 128
  · exact ⟨decode_ascii s pos h hb, hb⟩
  · have := (decode_high s pos h (by omega)).1
    omega
theorem dec_low (s : ByteArray) (pos : Nat) (h : pos < s.size) (hr : (Utf8.decode s pos).1 < 128 ∨ (192 ≤ (Utf8.decode s pos).1 ∧ (Utf8.decode s pos).1 ≤ 383)) :
    Utf8.decode (lowS s) pos = (lowN (Utf8.decode s pos).1, (Utf8.decode s pos).2) := by
  have hz := lowS_size s
  rcases hr with hr | hr
  · obtain ⟨e, hb⟩ := byte_of_dec s pos h hr
    have hl : ((lowS s)[pos]'(by rw [hz]; exact h)).toNat = lowN (s[pos]'h).toNat := by rw [lowS_get s pos h, lowU_toNat]
    have hl2 : lowN (s[pos]'h).toNat < 128 := by unfold lowN; split <;> omega
    rw [decode_ascii (lowS s) pos (by rw [hz]; exact h) (by rw [hl]; exact hl2), hl, e]
  · obtain ⟨h', e2, e3, e4⟩ := dec2 s pos h (by omega) hr.2
    generalize hq : (Utf8.decode s pos).1 = r at *
    have l0 : ((lowS s)[pos]'(by rw [hz]; exact h)).toNat = (s[pos]'h).toNat := by rw [lowS_get s pos h, lowU_toNat, lowN, if_neg (by omega)]
    have l1 : ((lowS s)[pos + 1]'(by rw [hz]; exact h')).toNat = (s[pos + 1]'h').toNat := by rw [lowS_get s (pos + 1) h', lowU_toNat, lowN, if_neg (by omega)]
    rw [dec2_of (lowS s) pos (by rw [hz]; exact h') (by rw [l0]; omega) (by rw [l0]; omega) (by rw [l1]; omega) (by rw [l1]; omega), l0, l1, e2, e3, e4, lowN, if_neg (by omega), show (192 + r / 64 - 192) * 64 + (128 + r % 64 - 128) = r by omega]
theorem ofNat_of (c : UInt8) (n : Int) (h : n = (c.toNat : Int)) : n.toNat.toUInt8 = c := by
  subst h
  simp
theorem enc_low (s : ByteArray) (pos : Nat) (h : pos < s.size) (hr : (Utf8.decode s pos).1 < 128 ∨ (192 ≤ (Utf8.decode s pos).1 ∧ (Utf8.decode s pos).1 ≤ 383)) :
    pos + (Utf8.decode s pos).2 ≤ s.size ∧ Lib.encodeRune (lowR (Utf8.decode s pos).1) ++ (s.data.toList.drop (pos + (Utf8.decode s pos).2)).map lowU = (s.data.toList.drop pos).map lowU := by
  have hlen : s.data.toList.length = s.size := Array.length_toList
  have hd : s.data.toList.drop pos = (s[pos]'h) :: s.data.toList.drop (pos + 1) := List.drop_eq_getElem_cons (by rw [hlen]; exact h)
  rcases hr with hr | hr
  · obtain ⟨e, hb⟩ := byte_of_dec s pos h hr
    rw [e]
    refine ⟨by simp only; omega, ?_⟩
    rw [hd, List.map_cons]
    have hl2 : lowN (s[pos]'h).toNat < 128 := by unfold lowN; split <;> omega
    show Lib.encodeRune (lowR ((s[pos]'h).toNat : Int)) ++ _ = _
    rw [lowR_eq, Lib.encodeRune, Lib.encodeRuneZ_one (by omega) (by omega)]
    simp only [List.map_cons, List.map_nil, List.cons_append, List.nil_append]
    rw [ofNat_of (lowU (s[pos]'h)) _ (by rw [lowU_toNat])]
  · obtain ⟨h', e2, e3, e4⟩ := dec2 s pos h (by omega) hr.2
    have hd2 : s.data.toList.drop (pos + 1) = (s[pos + 1]'h') :: s.data.toList.drop (pos + 1 + 1) := List.drop_eq_getElem_cons (by rw [hlen]; exact h')
    rw [e2]
    refine ⟨by omega, ?_⟩
    rw [hd, hd2, List.map_cons, List.map_cons, lowR_eq]
    generalize (Utf8.decode s pos).1 = r at *
    rw [Lib.encodeRune, lowN, if_neg (by omega), Lib.encodeRuneZ_two (by omega) (by omega)]
    simp only [List.map_cons, List.map_nil, List.cons_append, List.nil_append]
    rw [ofNat_of (lowU (s[pos]'h)) _ (by rw [lowU_toNat, lowN, if_neg (by omega)]; omega), ofNat_of (lowU (s[pos + 1]'h')) _ (by rw [lowU_toNat, lowN, if_neg (by omega)]; omega)]
theorem plain_low (r : Nat) : plainB (lowN r : Nat) = plainB r := by
  unfold plainB lowN
  rw [decide_eq_decide]
  split <;> omega
theorem good_low (r pos was : Nat) : goodB (lowN r) pos (lowN was) = goodB r pos was := by
  have e1 : (lowN r == 45) = (r == 45) := by
    rw [Bool.eq_iff_iff, beq_iff_eq, beq_iff_eq]; unfold lowN; split <;> omega
  have e2 : (lowN r == 46) = (r == 46) := by
    rw [Bool.eq_iff_iff, beq_iff_eq, beq_iff_eq]; unfold lowN; split <;> omega
  have e3 : (lowN was != 46) = (was != 46) := by
    rw [Bool.eq_iff_iff, bne_iff_ne, bne_iff_ne]; unfold lowN; split <;> omega
  unfold goodB
  rw [plain_low, e1, e2, e3]
theorem ok_all (s : ByteArray) : ∀ k pos was, s.size ≤ pos + k → okF s k pos was = true →
    foldF s k pos = (s.data.toList.drop pos).map lowU ∧ okF (lowS s) k pos (lowN was) = true ∧ (rnF (lowS s) k pos).length = (rnF s k pos).length
  | 0, pos, was, hk, ho => by
    have : s.data.toList.drop pos = [] := List.drop_eq_nil_of_le (by simp; exact hk)
    rw [this]
    refine ⟨rfl, ?_, rfl⟩
    unfold okF at ho ⊢
    rw [plain_low]; exact ho
  | k + 1, pos, was, hk, ho => by
    by_cases hp : pos < s.size
    · rw [okF_step s k pos was hp, Bool.and_eq_true] at ho
      have hg := good_rune ho.1
      have hd := dec_low s pos hp hg
      have he := enc_low s pos hp hg
      have hw := width_pos s pos hp
      obtain ⟨i1, i2, i3⟩ := ok_all s k (pos + (Utf8.decode s pos).2) (Utf8.decode s pos).1 (by omega) ho.2
      refine ⟨?_, ?_, ?_⟩
      · rw [foldF_step s k pos hp, i1]
        exact he.2
      · rw [okF_step (lowS s) k pos (lowN was) (by rw [lowS_size]; exact hp), hd, Bool.and_eq_true]
        exact ⟨by rw [good_low]; exact ho.1, i2⟩
      · rw [rnF, rnF, if_pos hp, if_pos (by rw [lowS_size]; exact hp), hd, List.length_cons, List.length_cons, i3]
    · have : s.data.toList.drop pos = [] := List.drop_eq_nil_of_le (by simp; exact Nat.not_lt.1 hp)
      rw [okF_end s (k + 1) pos was hp] at ho
      refine ⟨?_, ?_, ?_⟩
      · rw [foldF_end s (k + 1) pos hp, this]; rfl
      · rw [okF_end (lowS s) (k + 1) pos _ (by rw [lowS_size]; exact hp), plain_low]; exact ho
      · rw [rnF_end s _ _ hp, rnF_end (lowS s) _ _ (by rw [lowS_size]; exact hp)]
/-- What is folded, byte by byte. -/
theorem fold_low (s : ByteArray) (h : rightB s = true) : foldB s = lowS s := by
  have h2 := h
  unfold rightB at h2
  obtain ⟨i1, -, -⟩ := ok_all s s.size 0 46 (by omega) (Bool.and_eq_true_iff.1 h2).2
  rw [foldB, if_pos h, i1, List.drop_zero]
  rfl
theorem fold_wrong (s : ByteArray) (h : rightB s = false) : foldB s = ⟨#[]⟩ := by rw [foldB, h]; rfl
theorem right_size (s : ByteArray) (h : rightB s = true) : s.size ≤ 32 := by
  unfold rightB at h
  exact (of_decide_eq_true (Bool.and_eq_true_iff.1 h).1).2.1
end Go.Proofs.Ytapfidadgafpbaa.R
