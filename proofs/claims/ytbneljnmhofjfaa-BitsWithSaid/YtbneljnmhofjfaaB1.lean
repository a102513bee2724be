/-
  Plain facts about the printed functions of the chapter on bits: the examples, the reference's Has, First and Count.
-/
import Derived.Test.YtbneljnmhofjfaaB0
import Derived.Test.YtbneljnmhofjfaaGx1
import Derived.Lib.Bytes
namespace Go.Proofs.Ytbneljnmhofjfaa.Pure
set_option linter.unusedVariables false
set_option linter.unusedSimpArgs false
open Go.RowKit Go.Proofs.Ytbneljnmhofjfaa.G Go.Proofs.YtbneljnmhofjfaaW.PrintWords

theorem toList_eq (b : ByteArray) : b.toList = b.data.toList := Lib.toList_data b
theorem ex_eq : bailiwicklaw08_examples.f = some true := by
  unfold bailiwicklaw08_examples.f
  have e1 : bits_New.f 9 = some ⟨#[0, 0]⟩ := by rfl
  have e2 : bits_With.f ⟨#[0, 0]⟩ 8 true = some ⟨#[0, 1]⟩ := by decide +kernel
  have e3 : bits_First.f ⟨#[3]⟩ 8 = some (2, true) := by decide +kernel
  have e4 : P.bits_Has.f ⟨#[0, 1]⟩ 8 = some true := by decide +kernel
  rw [e1, Option.bind_some, e2, Option.bind_some, e3, Option.bind_some, if_pos (by rw [toList_eq]), e4]
  rfl
theorem rhas_eq (b : ByteArray) (i : Int) (hw : -9223372036854775808 ≤ i) (hw2 : i ≤ 9223372036854775807) : P.bailiwickref08_Has.f b i = some (hasI b i) := by
  unfold P.bailiwickref08_Has.f
  rw [room_eq b i hw hw2, Option.bind_some]
  by_cases h : 0 ≤ i ∧ i.toNat / 8 < b.size
  · obtain ⟨h0, h1⟩ := h
    obtain ⟨n, rfl⟩ := Int.eq_ofNat_of_zero_le h0
    rw [Int.toNat_natCast] at h1
    have e1 : wrap64 (Int.tdiv (n : Int) 8) = ((n / 8 : Nat) : Int) := by
      rw [show Int.tdiv (n : Int) 8 = ((n / 8 : Nat) : Int) from rfl]; unfold wrap64; omega
    have e2 : Int.tmod (n : Int) 8 = ((n % 8 : Nat) : Int) := rfl
    have h8 : n % 8 < 8 := Nat.mod_lt _ (by decide)
    rw [if_pos (by simp [h1]), e1, if_pos (by omega), if_pos (by omega), e2, if_pos (by omega), bt_nat b _ h1]
    congr 1
    have : ∀ c : Fin 256, ∀ j : Fin 8, (bits .and .u8 (shr .u8 ((c.val : Nat) : Int) ((j.val : Nat) : Int)) 1 == 1) = c.val.testBit j.val := by decide +kernel
    have h := this ⟨(b.data.toList.getD (n / 8) 0).toNat, UInt8.toNat_lt _⟩ ⟨n % 8, h8⟩
    rw [h]
    simp [hasI, hasL]
  · rw [decide_eq_false h, if_neg (by decide)]
    congr 1
    unfold hasI
    by_cases h0 : 0 ≤ i
    · rw [hasL_out _ _ (by have : b.data.toList.length = b.size := rfl
                           omega)]
      simp
    · simp [h0]
theorem rhas_nat (b : ByteArray) (i : Nat) (hi : (i : Int) ≤ 9223372036854775807) : P.bailiwickref08_Has.f b (i : Int) = some (hasL b.data.toList i) := by
  rw [rhas_eq b i (by omega) hi]; simp [hasI]
theorem wr (n : Int) (h : -9223372036854775808 ≤ n) (h2 : n ≤ 9223372036854775807) : wrap64 n = n := by unfold wrap64; omega
theorem firstOf_some (k : Nat) (n : Int) (h : (k : Int) < n) : firstOf (some k) n = ((k : Int), true) := by show (if (k : Int) < n then ((k : Int), true) else (0, false)) = _; rw [if_pos h]
theorem firstOf_far (k : Nat) (n : Int) (h : ¬ (k : Int) < n) : firstOf (some k) n = (0, false) := by show (if (k : Int) < n then ((k : Int), true) else (0, false)) = _; rw [if_neg h]
/-- The reference's First, from a number below which all are taken. -/
theorem rfirst_from (b : ByteArray) (n : Int) (hs : b.size ≤ 100000) (o : Option Nat) (ho : IsFree b.data.toList o) : ∀ (m i k : Nat), m = 8 * b.size - i → i ≤ 8 * b.size → (∀ j, j < i → hasL b.data.toList j = true) → (i : Int) ≤ max n 0 → 2 * m + 3 ≤ k →
    P.bailiwickref08_First.l0 k b n (i : Int) = some (firstOf o n)
  | m, i, k + 2, hm, hi, hl, hn, hk => by
    have hz : b.data.toList.length = b.size := rfl
    rw [P.bailiwickref08_First.l0, wr (8 * (b.size : Int)) (by omega) (by omega)]
    by_cases h1 : i < 8 * b.size
    · rw [if_pos (by omega), P.bailiwickref08_First.j1]
      by_cases h2 : (i : Int) < n
      · rw [if_pos (by simp [h2]), rhas_nat b i (by omega), Option.bind_some]
        cases hb : hasL b.data.toList i with
        | true =>
          obtain ⟨k', rfl⟩ : ∃ k', k = k' := ⟨_, rfl⟩
          rw [if_pos rfl, wr _ (by omega) (by omega), show ((i : Int) + 1) = ((i + 1 : Nat) : Int) by omega]
          refine rfirst_from b n hs o ho (m - 1) (i + 1) k (by omega) (by omega) (fun j hj => ?_) (by omega) (by omega)
          by_cases e : j = i
          · rw [e]; exact hb
          · exact hl j (by omega)
        | false =>
          rw [if_neg (by decide)]
          cases o with
          | none => rw [ho i (by omega)] at hb; cases hb
          | some q =>
            obtain ⟨a, b', c⟩ := ho
            have : q = i := by
              rcases Nat.lt_trichotomy q i with h | h | h
              · rw [hl q h] at b'; cases b'
              · exact h
              · rw [c i h] at hb; cases hb
            subst this
            rw [firstOf_some q n h2]
      · rw [if_neg (by simp [h2])]
        cases o with
        | none => rfl
        | some q =>
          have : i ≤ q := Nat.le_of_not_lt fun h => by
            have := ho.2.1
            rw [hl q h] at this; cases this
          rw [firstOf_far q n (by omega)]
    · rw [if_neg (by omega), P.bailiwickref08_First.j1, if_neg (by decide)]
      cases o with
      | none => rfl
      | some q =>
        have h2 := hl q (by have := ho.1; omega)
        rw [ho.2.1] at h2; cases h2
  | m, i, 0, _, _, _, _, hk => by omega
  | m, i, 1, _, _, _, _, hk => by omega
theorem first_eq (b : ByteArray) (n : Int) (hs : b.size ≤ 100000) : ∃ o, IsFree b.data.toList o ∧ bits_First.f b n = some (firstOf o n) := by
  obtain ⟨o, h1, h2⟩ := first_free b.data.toList
  exact ⟨o, h1, by unfold bits_First.f; rw [if_pos (by omega), h2]⟩
/-- What First says, number for number. -/
theorem first_said (b : ByteArray) (n : Int) (hs : b.size ≤ 100000) : ∃ r : Int × Bool, bits_First.f b n = some r ∧
    (r.2 = true → ∃ q : Nat, r.1 = (q : Int) ∧ (q : Int) < n ∧ q < 8 * b.size ∧ hasL b.data.toList q = false ∧ ∀ j, j < q → hasL b.data.toList j = true) ∧
    (r.2 = false → r.1 = 0 ∧ ∀ j : Nat, (j : Int) < n → j < 8 * b.size → hasL b.data.toList j = true) := by
  obtain ⟨o, h1, h2⟩ := first_eq b n hs
  refine ⟨_, h2, ?_⟩
  cases o with
  | none => exact ⟨fun h => (by cases h), fun _ => ⟨rfl, fun j _ hj => h1 j hj⟩⟩
  | some q =>
    by_cases h : (q : Int) < n
    · rw [firstOf_some q n h]
      exact ⟨fun _ => ⟨q, rfl, h, h1⟩, fun h => (by cases h)⟩
    · rw [firstOf_far q n h]
      exact ⟨fun h => (by cases h), fun _ => ⟨rfl, fun j hj _ => h1.2.2 j (by omega)⟩⟩
theorem rcount_from (b : ByteArray) (hs : b.size ≤ 100000) : ∀ (m i k : Nat), m = 8 * b.size - i → i ≤ 8 * b.size → m + 1 ≤ k →
    P.bailiwickref08_Count.l0 k b ((cnt (hasL b.data.toList) i : Nat) : Int) (i : Int) = some ((countL b.data.toList : Nat) : Int)
  | m, i, k + 1, hm, hi, hk => by
    have hc := cnt_le (hasL b.data.toList) i
    rw [P.bailiwickref08_Count.l0, wr (8 * (b.size : Int)) (by omega) (by omega)]
    by_cases h1 : i < 8 * b.size
    · rw [if_pos (by omega), rhas_nat b i (by omega), Option.bind_some]
      have IH := rcount_from b hs (m - 1) (i + 1) k (by omega) (by omega) (by omega)
      rw [cnt] at IH
      rw [wr ((i : Int) + 1) (by omega) (by omega), show ((i : Int) + 1) = ((i + 1 : Nat) : Int) by omega]
      cases hb : hasL b.data.toList i with
      | true =>
        rw [if_pos rfl, wr _ (by omega) (by omega)]
        rw [hb] at IH
        exact IH
      | false =>
        rw [if_neg (by decide)]
        rw [hb] at IH
        exact IH
    · obtain rfl : i = 8 * b.size := by omega
      rw [if_neg (by omega), count_cnt]; rfl
  | m, i, 0, _, _, hk => by omega
theorem rcount_eq (b : ByteArray) (hs : b.size ≤ 100000) (k : Nat) (hk : 8 * b.size + 1 ≤ k) : P.bailiwickref08_Count.f k b = some ((countL b.data.toList : Nat) : Int) :=
  rcount_from b hs (8 * b.size) 0 k (by omega) (by omega) hk
theorem count_eq (b : ByteArray) (hs : b.size ≤ 100000) : bits_Count.f b = some ((countL b.data.toList : Nat) : Int) := by unfold bits_Count.f; rw [if_pos (by omega)]
theorem mn_eq (a b : Int) : mn a b = min a b := by unfold mn; split <;> omega
end Go.Proofs.Ytbneljnmhofjfaa.Pure
