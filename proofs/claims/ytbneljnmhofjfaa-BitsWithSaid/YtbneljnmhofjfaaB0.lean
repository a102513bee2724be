/-
  Plain facts about sets of bits in rows of bytes: no program in sight but the printed functions' names.
-/
import Derived.Test.YtbneljnmhofjfaaA3
namespace Go.Proofs.Ytbneljnmhofjfaa.Pure
set_option linter.unusedVariables false
set_option linter.unusedSimpArgs false
open Go.RowKit Go.Proofs.Ytbneljnmhofjfaa.G Go.Proofs.YtbneljnmhofjfaaW.PrintWords

/-! ### one byte -/
theorem bit_ext {a b : Nat} (ha : a < 256) (hb : b < 256) (h : ∀ j, j < 8 → a.testBit j = b.testBit j) : a = b := by
  refine Nat.eq_of_testBit_eq fun i => ?_
  by_cases hi : i < 8
  · exact h i hi
  · have h2 : (2:Nat) ^ 8 ≤ 2 ^ i := Nat.pow_le_pow_right (by decide) (by omega)
    rw [Nat.testBit_lt_two_pow (by omega), Nat.testBit_lt_two_pow (by omega)]
theorem bit_xor (c r j : Nat) (hc : c < 256) (hr : r < 8) : ((UInt8.ofNat (c ^^^ 2 ^ r)).toNat).testBit j = (if j = r then !c.testBit j else c.testBit j) := by
  have hp := pow_lt r hr
  have hx : c ^^^ 2 ^ r < 2 ^ 8 := Nat.xor_lt_two_pow (by omega) (by omega)
  rw [UInt8.toNat_ofNat', Nat.mod_eq_of_lt hx, Nat.testBit_xor, Nat.testBit_two_pow]
  by_cases e : j = r
  · subst e; simp
  · have e2 : ¬ r = j := fun h => e h.symm
    simp [e, e2]
theorem bit_or (c r j : Nat) (hc : c < 256) (hr : r < 8) : ((UInt8.ofNat (c ||| 2 ^ r)).toNat).testBit j = (if j = r then true else c.testBit j) := by
  have hp := pow_lt r hr
  have hx : c ||| 2 ^ r < 2 ^ 8 := Nat.or_lt_two_pow (by omega) (by omega)
  rw [UInt8.toNat_ofNat', Nat.mod_eq_of_lt hx, Nat.testBit_or, Nat.testBit_two_pow]
  by_cases e : j = r
  · subst e; simp
  · have e2 : ¬ r = j := fun h => e h.symm
    simp [e, e2]
theorem bit_less (x y : UInt8) (j : Nat) (hj : j < 8) : (lessG x y).toNat.testBit j = (x.toNat.testBit j && !y.toNat.testBit j) := by
  rw [lessG_nat, Nat.testBit_and]
  congr 1
  have : ∀ n : Fin 256, ∀ j : Fin 8, (255 - n.val).testBit j.val = !n.val.testBit j.val := by decide +kernel
  exact this ⟨y.toNat, UInt8.toNat_lt y⟩ ⟨j, hj⟩

/-! ### rows -/
theorem hasL_out (l : List UInt8) (i : Nat) (h : l.length ≤ i / 8) : hasL l i = false := by
  unfold hasL
  rw [List.getD_eq_getElem?_getD, List.getElem?_eq_none h]
  simp
theorem getD_set (l : List UInt8) (a b : Nat) (d : UInt8) : (l.set a d).getD b 0 = if a = b ∧ a < l.length then d else l.getD b 0 := by
  simp only [List.getD_eq_getElem?_getD, List.getElem?_set]
  by_cases e : a = b
  · subst e
    by_cases h : a < l.length
    · simp [h]
    · simp [h]
  · simp [e]
theorem split_ne {i j : Nat} (h : j ≠ i) (h2 : i / 8 = j / 8) : j % 8 ≠ i % 8 := by omega
theorem flip_has (l : List UInt8) (i j : Nat) (h : i / 8 < l.length) : hasL (flipL l i) j = if j = i then !hasL l j else hasL l j := by
  unfold hasL flipL
  rw [getD_set]
  by_cases e : j = i
  · subst e
    rw [if_pos ⟨rfl, h⟩, bit_xor _ _ _ (UInt8.toNat_lt _) (Nat.mod_lt _ (by decide)), if_pos rfl, if_pos rfl]
  · rw [if_neg e]
    by_cases e2 : i / 8 = j / 8
    · rw [if_pos ⟨e2, h⟩, bit_xor _ _ _ (UInt8.toNat_lt _) (Nat.mod_lt _ (by decide)), if_neg (split_ne e e2), e2]
    · rw [if_neg (fun h => e2 h.1)]
theorem or_has (l : List UInt8) (i j : Nat) (h : i / 8 < l.length) : hasL (orL l i) j = if j = i then true else hasL l j := by
  unfold hasL orL
  rw [getD_set]
  by_cases e : j = i
  · subst e
    rw [if_pos ⟨rfl, h⟩, bit_or _ _ _ (UInt8.toNat_lt _) (Nat.mod_lt _ (by decide)), if_pos rfl, if_pos rfl]
  · rw [if_neg e]
    by_cases e2 : i / 8 = j / 8
    · rw [if_pos ⟨e2, h⟩, bit_or _ _ _ (UInt8.toNat_lt _) (Nat.mod_lt _ (by decide)), if_neg (split_ne e e2), e2]
    · rw [if_neg (fun h => e2 h.1)]
theorem flip_len (l i) : (flipL l i).length = l.length := List.length_set ..
theorem or_len (l i) : (orL l i).length = l.length := List.length_set ..
theorem has_ext {l m : List UInt8} (hl : l.length = m.length) (h : ∀ i, i < 8 * l.length → hasL l i = hasL m i) : l = m := by
  refine List.ext_getElem hl fun n h1 h2 => ?_
  have e : ∀ j, j < 8 → (l[n].toNat).testBit j = (m[n].toNat).testBit j := fun j hj => by
    have := h (8 * n + j) (by omega)
    unfold hasL at this
    rw [show (8 * n + j) / 8 = n by omega, show (8 * n + j) % 8 = j by omega, List.getD_eq_getElem?_getD, List.getElem?_eq_getElem h1, List.getD_eq_getElem?_getD, List.getElem?_eq_getElem h2] at this
    exact this
  exact UInt8.toNat_inj.1 (bit_ext (UInt8.toNat_lt _) (UInt8.toNat_lt _) e)
theorem hasL_cons_lt (c : UInt8) (l : List UInt8) (i : Nat) (h : i < 8) : hasL (c :: l) i = c.toNat.testBit i := by
  unfold hasL
  rw [show i / 8 = 0 by omega, show i % 8 = i by omega]; rfl
theorem hasL_cons_ge (c : UInt8) (l : List UInt8) (i : Nat) : hasL (c :: l) (i + 8) = hasL l i := by
  unfold hasL
  rw [show (i + 8) / 8 = i / 8 + 1 by omega, show (i + 8) % 8 = i % 8 by omega]; rfl

/-! ### with and without -/
def putL (l : List UInt8) (i : Nat) (on : Bool) : List UInt8 := if i / 8 < l.length ∧ hasL l i ≠ on then flipL l i else l
theorem put_len (l i on) : (putL l i on).length = l.length := by
  unfold putL; split
  · exact flip_len _ _
  · rfl
theorem put_has (l : List UInt8) (i : Nat) (on : Bool) (j : Nat) (h : i / 8 < l.length) : hasL (putL l i on) j = if j = i then on else hasL l j := by
  unfold putL
  by_cases ho : hasL l i = on
  · rw [if_neg (fun h => h.2 ho)]
    by_cases e : j = i
    · rw [if_pos e, e, ho]
    · rw [if_neg e]
  · rw [if_pos ⟨h, ho⟩, flip_has _ _ _ h]
    by_cases e : j = i
    · rw [if_pos e, if_pos e, e]
      revert ho; cases hasL l i <;> cases on <;> simp
    · rw [if_neg e, if_neg e]
theorem put_out (l : List UInt8) (i : Nat) (on : Bool) (h : ¬ i / 8 < l.length) : putL l i on = l := if_neg (fun g => h g.1)
theorem or_put (l : List UInt8) (i : Nat) (h : i / 8 < l.length) : orL l i = putL l i true := by
  refine has_ext (by rw [or_len, put_len]) fun j _ => ?_
  rw [or_has _ _ _ h, put_has _ _ _ _ h]
theorem orflip_put (l : List UInt8) (i : Nat) (h : i / 8 < l.length) : flipL (orL l i) i = putL l i false := by
  refine has_ext (by rw [flip_len, or_len, put_len]) fun j _ => ?_
  rw [flip_has _ _ _ (by rw [or_len]; exact h), or_has _ _ _ h, put_has _ _ _ _ h]
  by_cases e : j = i
  · simp [e]
  · simp [e]
theorem mk_list (b : ByteArray) : (⟨b.data.toList.toArray⟩ : ByteArray) = b := by simp
def In64 (i : Int) : Prop := -9223372036854775808 ≤ i ∧ i ≤ 9223372036854775807
theorem with_put (b : ByteArray) (i : Nat) (on : Bool) (hs : b.size ≤ 140737488355328) (hi : (i : Int) ≤ 9223372036854775807) :
    bits_With.f b (i : Int) on = some ⟨(putL b.data.toList i on).toArray⟩ := by
  unfold bits_With.f
  rw [if_pos ⟨hs, by omega, hi⟩]
  congr 1
  unfold putL
  have e : hasI b (i : Int) = hasL b.data.toList i := by simp [hasI]
  have hz : b.data.toList.length = b.size := rfl
  rw [hz]
  by_cases h : i / 8 < b.size ∧ hasL b.data.toList i ≠ on
  · rw [if_pos ⟨by omega, h.1, by rw [e]; exact h.2⟩, if_pos h]; rfl
  · rw [if_neg (fun g => h ⟨g.2.1, by rw [← e]; exact g.2.2⟩), if_neg h, mk_list]
theorem refwith_put (b : ByteArray) (i : Nat) (on : Bool) (hs : b.size ≤ 140737488355328) (hi : (i : Int) ≤ 9223372036854775807) :
    ref_With.f b (i : Int) on = some ⟨(putL b.data.toList i on).toArray⟩ := by
  unfold ref_With.f
  rw [if_pos ⟨hs, by omega, hi⟩]
  congr 1
  by_cases h : i / 8 < b.size
  · rw [if_pos ⟨by omega, h⟩]
    cases on with
    | true => rw [if_pos rfl, Int.toNat_natCast, or_put _ _ h]
    | false => rw [if_neg (by decide), Int.toNat_natCast, orflip_put _ _ h]
  · rw [if_neg (fun g => h g.2), put_out _ _ _ h, mk_list]
theorem with_neg (b : ByteArray) (i : Int) (on : Bool) (hs : b.size ≤ 140737488355328) (hi : i < 0) (h2 : -9223372036854775808 ≤ i) : bits_With.f b i on = some b := by
  unfold bits_With.f
  rw [if_pos ⟨hs, h2, by omega⟩, if_neg (fun g => by omega)]
theorem refwith_neg (b : ByteArray) (i : Int) (on : Bool) (hs : b.size ≤ 140737488355328) (hi : i < 0) (h2 : -9223372036854775808 ≤ i) : ref_With.f b i on = some b := by
  unfold ref_With.f
  rw [if_pos ⟨hs, h2, by omega⟩, if_neg (fun g => by omega)]
theorem has_nat (b : ByteArray) (i : Nat) (hi : (i : Int) ≤ 9223372036854775807) : P.bits_Has.f b (i : Int) = some (hasL b.data.toList i) := by
  rw [has_eq b i (by omega) hi]; simp [hasI]
theorem has_neg (b : ByteArray) (i : Int) (hi : i < 0) (h2 : -9223372036854775808 ≤ i) : P.bits_Has.f b i = some false := by
  rw [has_eq b i h2 (by omega)]; simp [hasI, show ¬ 0 ≤ i by omega]

/-! ### how many -/
def cnt (p : Nat → Bool) : Nat → Nat
  | 0 => 0
  | n + 1 => cnt p n + (p n).toNat
theorem cnt_congr {p q : Nat → Bool} : ∀ n, (∀ i, i < n → p i = q i) → cnt p n = cnt q n
  | 0, _ => rfl
  | n + 1, h => by rw [cnt, cnt, cnt_congr n (fun i hi => h i (by omega)), h n (by omega)]
theorem cnt_add (p : Nat → Bool) (m : Nat) : ∀ n, cnt p (m + n) = cnt p m + cnt (fun i => p (m + i)) n
  | 0 => rfl
  | n + 1 => by rw [← Nat.add_assoc, cnt, cnt_add p m n, cnt]; omega
theorem ones_cnt (c : UInt8) : Lib.onesCount c.toNat = cnt (fun i => c.toNat.testBit i) 8 := by
  have : ∀ n : Fin 256, Lib.onesCount n.val = cnt (fun i => n.val.testBit i) 8 := by decide +kernel
  exact this ⟨c.toNat, UInt8.toNat_lt c⟩
theorem count_cnt : ∀ l, countL l = cnt (hasL l) (8 * l.length)
  | [] => rfl
  | c :: l => by
    have h : 8 * (c :: l).length = 8 + 8 * l.length := by simp; omega
    rw [h, cnt_add, ← cnt_congr (p := fun i => c.toNat.testBit i) (q := hasL (c :: l)) 8 (fun i hi => (hasL_cons_lt c l i hi).symm), ← ones_cnt]
    rw [cnt_congr (p := fun i => hasL (c :: l) (8 + i)) (q := hasL l) _ (fun i _ => by rw [Nat.add_comm]; exact hasL_cons_ge c l i), ← count_cnt l]
    simp [countL]
theorem cnt_le (p) : ∀ n, cnt p n ≤ n
  | 0 => Nat.le_refl _
  | n + 1 => by have := cnt_le p n; rw [cnt]; have : (p n).toNat ≤ 1 := by cases p n <;> decide
                omega
theorem cnt_turn {p q : Nat → Bool} (i : Nat) (hp : p i = true) (hq : q i = false) (h : ∀ j, j ≠ i → p j = q j) : ∀ n, cnt p n = cnt q n + (if i < n then 1 else 0)
  | 0 => rfl
  | n + 1 => by
    rw [cnt, cnt, cnt_turn i hp hq h n]
    by_cases e : n = i
    · subst e; rw [hp, hq]; simp
    · rw [h n e]
      by_cases e2 : i < n
      · rw [if_pos e2, if_pos (by omega)]; omega
      · rw [if_neg e2, if_neg (by omega)]; omega
theorem count_turn (l : List UInt8) (i : Nat) (h : i / 8 < l.length) : countL (putL l i true) = countL (putL l i false) + 1 := by
  rw [count_cnt, count_cnt, put_len, put_len, cnt_turn (p := hasL (putL l i true)) (q := hasL (putL l i false)) i (by rw [put_has _ _ _ _ h, if_pos rfl]) (by rw [put_has _ _ _ _ h, if_pos rfl]) (fun j hj => by rw [put_has _ _ _ _ h, put_has _ _ _ _ h, if_neg hj, if_neg hj]), if_pos (by omega)]

/-! ### the least one that is free -/
theorem tz_low (c : UInt8) (j : Nat) (hj : j < tz c) : c.toNat.testBit j = true := by
  have : ∀ n : Fin 256, ∀ j : Fin 8, j.val < Lib.trailingZeros8 (255 - n.val) → n.val.testBit j.val = true := by decide +kernel
  have h8 := tz_le c
  exact this ⟨c.toNat, UInt8.toNat_lt c⟩ ⟨j, by omega⟩ hj
theorem tz_at (c : UInt8) (h : tz c < 8) : c.toNat.testBit (tz c) = false := by
  have : ∀ n : Fin 256, Lib.trailingZeros8 (255 - n.val) < 8 → n.val.testBit (Lib.trailingZeros8 (255 - n.val)) = false := by decide +kernel
  exact this ⟨c.toNat, UInt8.toNat_lt c⟩ h
/-- What First tells: the least number that is free. -/
def IsFree (l : List UInt8) : Option Nat → Prop
  | some k => k < 8 * l.length ∧ hasL l k = false ∧ ∀ j, j < k → hasL l j = true
  | none => ∀ j, j < 8 * l.length → hasL l j = true
theorem firstAt_free : ∀ (l : List UInt8) (i : Nat), ∃ o, IsFree l o ∧ firstAt l i = o.map (· + i * 8)
  | [], i => ⟨none, fun j h => by simp at h, rfl⟩
  | c :: l, i => by
    by_cases h : tz c < 8
    · refine ⟨some (tz c), ⟨by simp; omega, ?_, fun j hj => ?_⟩, by rw [firstAt, if_pos h]; rfl⟩
      · rw [hasL_cons_lt _ _ _ h]; exact tz_at c h
      · rw [hasL_cons_lt _ _ _ (by omega)]; exact tz_low c j hj
    · obtain ⟨o, h1, h2⟩ := firstAt_free l (i + 1)
      have low : ∀ j, j < 8 → hasL (c :: l) j = true := fun j hj => by
        rw [hasL_cons_lt _ _ _ hj]; exact tz_low c j (by omega)
      refine ⟨o.map (· + 8), ?_, ?_⟩
      · cases o with
        | none =>
          intro j hj
          by_cases e : j < 8
          · exact low j e
          · have := h1 (j - 8) (by simp at hj; omega)
            rw [← hasL_cons_ge c l (j - 8), show j - 8 + 8 = j by omega] at this
            exact this
        | some k =>
          obtain ⟨a, b, d⟩ := h1
          refine ⟨by simp; omega, by rw [hasL_cons_ge]; exact b, fun j hj => ?_⟩
          by_cases e : j < 8
          · exact low j e
          · have := d (j - 8) (by simp at hj; omega)
            rw [← hasL_cons_ge c l (j - 8), show j - 8 + 8 = j by omega] at this
            exact this
      · rw [firstAt, if_neg h, h2]
        cases o with
        | none => rfl
        | some k => simp; omega
theorem first_free (l : List UInt8) : ∃ o, IsFree l o ∧ firstAt l 0 = o := by
  obtain ⟨o, h1, h2⟩ := firstAt_free l 0
  refine ⟨o, h1, ?_⟩
  rw [h2]
  cases o <;> rfl
end Go.Proofs.Ytbneljnmhofjfaa.Pure
