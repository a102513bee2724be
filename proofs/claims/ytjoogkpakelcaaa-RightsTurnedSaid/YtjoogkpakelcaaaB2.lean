/-
  Letters that stand the other way round; a letter more; a row that is turned round step by step.
-/
import Derived.Test.YtjoogkpakelcaaaB1
namespace Go.Proofs.Ytjoogkpakelcaaa.Pure
set_option linter.unusedVariables false
set_option linter.unusedSimpArgs false
open Go.RowKit Go.Proofs.Ytjoogkpakelcaaa.G Go.Proofs.YtjoogkpakelcaaaW.PrintWords Go.Proofs.YtjoogkpakelcaaaW.PrintLast

def orAll : List Nat → Nat → Nat
  | [], a => a
  | j :: l, a => orAll l (a ||| 2 ^ j)
theorem orAll_bit : ∀ (l : List Nat) (a i : Nat), (orAll l a).testBit i = (a.testBit i || decide (i ∈ l))
  | [], a, i => by simp [orAll]
  | j :: l, a, i => by
    rw [orAll, orAll_bit l, Nat.testBit_or, Nat.testBit_two_pow]
    by_cases e : j = i
    · subst e; simp
    · have e2 : ¬ i = j := fun h => e h.symm
      simp [e, e2]
theorem pz_map : ∀ (l : List Nat) (a : Nat), l.Nodup → (∀ j ∈ l, j < 16 ∧ a.testBit j = false) → pz (l.map fun j => UInt8.ofNat (97 + j)) a = some (orAll l a)
  | [], a, _, _ => rfl
  | j :: l, a, hn, h => by
    obtain ⟨h1, h2⟩ := h j List.mem_cons_self
    obtain ⟨n1, n2⟩ := List.nodup_cons.1 hn
    have e : (UInt8.ofNat (97 + j)).toNat = 97 + j := by rw [UInt8.toNat_ofNat']; omega
    rw [List.map_cons, pz, e, show 97 + j - 97 = j by omega, if_pos ⟨by omega, by omega, h2⟩, orAll]
    refine pz_map l _ n2 fun i hi => ⟨(h i (List.mem_cons_of_mem _ hi)).1, ?_⟩
    have e2 : ¬ j = i := fun g => n1 (g ▸ hi)
    rw [Nat.testBit_or, Nat.testBit_two_pow, (h i (List.mem_cons_of_mem _ hi)).2]
    simp [e2]
theorem bits_nodup (m i n : Nat) : (bitsOf m i n).Nodup := by
  have := bits_rise m i n
  exact List.Pairwise.imp (fun h => by omega) this
theorem pz_turned (m : Nat) (h : m < 65536) : pz (lets m).reverse 0 = some m := by
  have h0 := pz_lets m h
  have hb : ∀ j ∈ bitsOf m 0 16, j < 16 ∧ (0 : Nat).testBit j = false := fun j hj => ⟨by have := bitsOf_lt m 16 0 j hj; omega, by simp⟩
  unfold lets at h0 ⊢
  rw [pz_map _ _ (bits_nodup m 0 16) hb] at h0
  rw [← List.map_reverse, pz_map _ _ (List.pairwise_reverse.2 (List.Pairwise.imp (fun h => fun e => h e.symm) (bits_nodup m 0 16))) (fun j hj => hb j (List.mem_reverse.1 hj)), ← h0]
  congr 1
  refine Nat.eq_of_testBit_eq fun i => ?_
  rw [orAll_bit, orAll_bit]
  simp
theorem pz_append : ∀ (l k : List UInt8) (a : Nat), pz (l ++ k) a = (pz l a).bind (pz k)
  | [], k, a => rfl
  | c :: l, k, a => by
    rw [List.cons_append, pz, pz]
    split
    · exact pz_append l k _
    · rfl
theorem pz_more (m k : Nat) (h : m < 65536) (hk : k < 16) : pz (lets m ++ [UInt8.ofNat (97 + k)]) 0 = if m.testBit k = false then some (m ||| 2 ^ k) else none := by
  have e : (UInt8.ofNat (97 + k)).toNat = 97 + k := by rw [UInt8.toNat_ofNat']; omega
  rw [pz_append, pz_lets m h, Option.bind_some, pz, e, show 97 + k - 97 = k by omega]
  by_cases hb : m.testBit k = false
  · rw [if_pos ⟨by omega, by omega, hb⟩, if_pos hb]; rfl
  · rw [if_neg (fun g => hb g.2.2), if_neg hb]
theorem pz_strange (m : Nat) (h : m < 65536) : pz (lets m ++ [113]) 0 = none := by
  rw [pz_append, pz_lets m h, Option.bind_some, pz, if_neg (fun g => by have := g.2.1; simp at this)]

/-! ### turned round -/
/-- The row with its first i and its last i exchanged. -/
def revK (l : List UInt8) : Nat → List UInt8
  | 0 => l
  | i + 1 => ((revK l i).set i ((revK l i).getD (l.length - 1 - i) 0)).set (l.length - 1 - i) ((revK l i).getD i 0)
theorem revK_length (l : List UInt8) : ∀ i, (revK l i).length = l.length
  | 0 => rfl
  | i + 1 => by rw [revK, List.length_set, List.length_set, revK_length l i]
theorem revK_get (l : List UInt8) : ∀ i, 2 * i ≤ l.length → ∀ j, j < l.length → (revK l i).getD j 0 = if j < i ∨ l.length - 1 - j < i then l.getD (l.length - 1 - j) 0 else l.getD j 0
  | 0, _, j, hj => by rw [if_neg (by omega)]; rfl
  | i + 1, h, j, hj => by
    have IH := revK_get l i (by omega)
    have h1 := IH i (by omega)
    have h2 := IH (l.length - 1 - i) (by omega)
    rw [if_neg (by omega)] at h1 h2
    rw [revK, List.getD_eq_getElem?_getD, List.getElem?_set]
    by_cases e : l.length - 1 - i = j
    · rw [if_pos e, if_pos (by rw [List.length_set, revK_length]; omega), if_pos (by omega), h1]
      subst e
      show l.getD i 0 = _
      rw [show l.length - 1 - (l.length - 1 - i) = i by omega]
    · rw [if_neg e, List.getElem?_set]
      by_cases e2 : i = j
      · subst e2
        rw [if_pos rfl, if_pos (by rw [revK_length]; omega), if_pos (by omega), h2]
        rfl
      · rw [if_neg e2, ← List.getD_eq_getElem?_getD, IH j hj]
        by_cases e3 : j < i ∨ l.length - 1 - j < i
        · rw [if_pos e3, if_pos (by omega)]
        · rw [if_neg e3, if_neg (by omega)]
theorem revK_half (l : List UInt8) : revK l (l.length / 2) = l.reverse := by
  refine List.ext_getElem (by rw [revK_length, List.length_reverse]) fun j h1 h2 => ?_
  rw [revK_length] at h1
  have h := revK_get l (l.length / 2) (by omega) j h1
  rw [List.getD_eq_getElem?_getD, List.getElem?_eq_getElem (by rw [revK_length]; exact h1)] at h
  have h3 : (revK l (l.length / 2))[j]'(by rw [revK_length]; exact h1) = l.getD (l.length - 1 - j) 0 := by
    by_cases e : j < l.length / 2 ∨ l.length - 1 - j < l.length / 2
    · rw [if_pos e] at h; exact h
    · rw [if_neg e] at h
      rw [show l.length - 1 - j = j by omega]; exact h
  rw [h3, List.getElem_reverse, List.getD_eq_getElem?_getD, List.getElem?_eq_getElem (by omega)]
  rfl
end Go.Proofs.Ytjoogkpakelcaaa.Pure
