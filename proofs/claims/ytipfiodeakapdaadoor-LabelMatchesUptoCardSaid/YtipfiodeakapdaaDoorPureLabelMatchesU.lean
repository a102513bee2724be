/- Any text has the parts, and any pattern matches it, or does not, as the chapter says: the plain law, of texts of at most 1048576 bytes. -/
import Derived.Test.YtipfiodeakapdaaDoorB8
namespace Go.Proofs.YtipfiodeakapdaaDoor.Pure
set_option linter.unusedVariables false
set_option linter.unusedSimpArgs false
open Go.RowKit Go.Proofs.YtipfiodeakapdaaDoor.R Go.Proofs.YtipfiodeakapdaaDoorW.PrintWords Go.Proofs.YtipfiodeakapdaaDoorW.PrintLast
theorem rp_l0 (l : List UInt8) (hz : l.length ≤ 1048576) : ∀ k j i a acc, i + j = l.length → j < k → a ≤ i → acc.length ≤ i →
    P.bailiwickref02_Parts.l0 k (bs l) acc (a : Int) (i : Int) = some (acc ++ (glue ((l.take i).drop a) (sp (l.drop i))).map bs)
  | 0, j, i, a, acc, e, h, ha, hc => by omega
  | k + 1, 0, i, a, acc, e, h, ha, hc => by
    have hs := bs_size l
    have hi : i = l.length := by omega
    rw [P.bailiwickref02_Parts.l0, if_neg (by omega), if_pos (by omega), if_pos (by omega), if_pos (by omega), hi, List.drop_length, List.take_length]
    have ex : (bs l).extract ((a : Int)).toNat (bs l).size = bs (l.drop a) := by
      apply ByteArray.ext
      rw [Int.toNat_natCast, hs]
      simp [bs, ByteArray.data_extract]
      exact List.take_of_length_le (by simp)
    rw [ex]
    simp [sp, glue]
  | k + 1, j + 1, i, a, acc, e, h, ha, hc => by
    have hs := bs_size l
    have hi : i < l.length := by omega
    have n1 : wrap64 ((i : Int) + 1) = ((i + 1 : Nat) : Int) := by rw [w64 _ (by omega) (by omega)]; omega
    have hb : bt (bs l) (i : Int) = ((l[i]).toNat : Int) := bt_nat (bs l) i (by omega)
    have hd : l.drop i = l[i] :: l.drop (i + 1) := List.drop_eq_getElem_cons hi
    have ht : l.take (i + 1) = l.take i ++ [l[i]] := List.take_succ_eq_append_getElem hi
    rw [P.bailiwickref02_Parts.l0, if_pos (by omega), if_pos (by omega), hb, n1]
    by_cases h46 : l[i] = 46
    · rw [h46] at hd
      rw [h46, if_pos (by decide), if_pos (by omega), if_pos (by omega), if_pos (by omega), if_pos (by omega)]
      have ih := rp_l0 l hz k j (i + 1) (i + 1) (acc ++ [bs ((l.take i).drop a)]) (by omega) (by omega) (by omega) (by rw [List.length_append]; simp; omega)
      have ex : (bs l).extract ((a : Int)).toNat ((i : Int)).toNat = bs ((l.take i).drop a) := by
        apply ByteArray.ext
        rw [Int.toNat_natCast, Int.toNat_natCast]
        simp [bs, ByteArray.data_extract, List.extract_eq_take_drop, List.drop_take]
      have dn : (l.take (i + 1)).drop (i + 1) = [] := List.drop_eq_nil_of_le (by rw [List.length_take]; omega)
      rw [ex, ih, hd, sp, if_pos rfl, dn, glue_nil _ (sp_ne _)]
      simp [glue]
    · have hne : ¬ ((l[i]).toNat : Int) = 46 := fun e => h46 (UInt8.toNat_inj.1 (by show l[i].toNat = 46; omega))
      rw [if_neg hne]
      have ih := rp_l0 l hz k j (i + 1) a acc (by omega) (by omega) (by omega) (by omega)
      rw [ih, hd, sp, if_neg h46, glue_glue _ _ _ (sp_ne _), ht, List.drop_append_of_le_length (by rw [List.length_take]; omega)]
theorem ref_parts (k : Nat) (s : ByteArray) (hz : s.size ≤ 1048576) (hk : s.size < k) : P.bailiwickref02_Parts.f k s = some (parts s) := by
  have hl : s.data.toList.length = s.size := by rw [Array.length_toList]; rfl
  have h := rp_l0 s.data.toList (by omega) k s.data.toList.length 0 0 [] (by omega) (by omega) (by omega) (by simp)
  rw [bs_of] at h
  rw [P.bailiwickref02_Parts.f]
  rw [show ((0 : Nat) : Int) = 0 from rfl] at h
  rw [h, List.take_zero, List.drop_nil, List.drop_zero, glue_nil _ (sp_ne _), List.nil_append, ← parts_sp]
theorem words_same (l : List ByteArray) (hl : l.length ≤ 100000000) : ∀ k j i, i + j = l.length → j < k → P.bailiwicklaw02_words.l0 k l l (i : Int) = some true
  | 0, j, i, e, h => by omega
  | k + 1, 0, i, e, h => by rw [P.bailiwicklaw02_words.l0, if_neg (by omega)]
  | k + 1, j + 1, i, e, h => by
    have ih := words_same l hl k j (i + 1) (by omega) (by omega)
    have n1 : wrap64 ((i : Int) + 1) = ((i + 1 : Nat) : Int) := by rw [w64 _ (by omega) (by omega)]; omega
    rw [P.bailiwicklaw02_words.l0, if_pos (by omega), if_pos (by omega), if_pos (by omega), if_pos rfl, n1, ih]
theorem ref_match (k : Nat) (a b : ByteArray) (ha : a.size ≤ 1048576) (hb : b.size ≤ 1048576) (hk : 1048580 < k) : O.bailiwickref02_Match.f k a b = some (mB (parts a) (parts b)) := by
  obtain ⟨k, rfl⟩ : ∃ j, k = j + 1 := ⟨k - 1, by omega⟩
  have la := parts_le a
  have lb := parts_le b
  have pa := parts_pos a
  have pb := parts_pos b
  rw [O.bailiwickref02_Match.f, ref_parts _ a ha (by omega), Option.bind_some, ref_parts _ b hb (by omega), Option.bind_some]
  generalize parts a = p at *
  generalize parts b = l at *
  have n1 : wrap64 ((p.length : Int) - 1) = ((p.length - 1 : Nat) : Int) := by rw [w64 _ (by omega) (by omega)]; omega
  rw [n1, if_pos (by omega), if_pos (by omega), rdOf_nat, mB, Int.toNat_natCast]
  by_cases h1 : (p.getD (p.length - 1) ByteArray.empty).toList = [42, 42]
  · rw [if_pos h1, if_pos h1]
    by_cases h2 : l.length ≤ p.length - 1
    · rw [if_pos (by omega), if_pos h2]
    · rw [if_neg (by omega), if_neg h2, if_pos (by omega), O.bailiwickref02_Match.j0]
      have e2 : (l.take (p.length - 1)).length = p.length - 1 := by rw [List.length_take]; omega
      rw [if_pos (by omega)]
      exact r_l0 p _ p l (p.length - 1) (by omega) (by omega) e2 (fun i hi => rfl) (fun i hi => take_getD l _ i hi) k (p.length - 1) 0 (by omega) (by omega)
  · rw [if_neg h1, if_neg h1, O.bailiwickref02_Match.j0]
    by_cases h2 : p.length = l.length
    · rw [if_pos (by omega), if_pos h2]
      exact r_l0 p l p l p.length (by omega) (by omega) h2.symm (fun _ _ => rfl) (fun _ _ => rfl) k p.length 0 (by omega) (by omega)
    · rw [if_neg (by omega), if_neg h2]
theorem LabelMatches_upto (a0 a1 : ByteArray) (h0 : a0.size ≤ 1048576) (h1 : a1.size ≤ 1048576) : ∃ k, O.bailiwicklaw02_LabelMatches.f k a0 a1 = some true := by
  refine ⟨1048590, ?_⟩
  have l1 := parts_le a1
  have l0 := parts_le a0
  have w : P.bailiwicklaw02_words.f 1048590 (parts a1) (parts a1) = some true := by
    rw [P.bailiwicklaw02_words.f, if_pos rfl]
    exact words_same _ (by omega) _ (parts a1).length 0 (by omega) (by omega)
  rw [O.bailiwicklaw02_LabelMatches.f, ex_le _ (by decide), Option.bind_some, if_pos rfl, Parts_val a1 (by omega), Option.bind_some, ref_parts _ a1 h1 (by omega), Option.bind_some, w, Option.bind_some, if_pos rfl, match_eq _ a0 a1 (by omega) (by omega) (by omega), Option.bind_some, ref_match _ a0 a1 h0 h1 (by decide), Option.bind_some]
  simp
end Go.Proofs.YtipfiodeakapdaaDoor.Pure
