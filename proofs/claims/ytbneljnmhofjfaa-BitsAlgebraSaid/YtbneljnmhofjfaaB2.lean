/-
  Plain facts about two rows of bits, joined and taken away.
-/
import Derived.Test.YtbneljnmhofjfaaB0
namespace Go.Proofs.Ytbneljnmhofjfaa.Pure
set_option linter.unusedVariables false
set_option linter.unusedSimpArgs false
open Go.RowKit Go.Proofs.Ytbneljnmhofjfaa.G Go.Proofs.YtbneljnmhofjfaaW.PrintWords

theorem mix_has (g : UInt8 → UInt8 → UInt8) (F : Bool → Bool → Bool) (hg : ∀ x y j, j < 8 → (g x y).toNat.testBit j = F (x.toNat.testBit j) (y.toNat.testBit j)) (hF : ∀ p, F p false = p) :
    ∀ (a b : List UInt8) (m i : Nat), m = min a.length b.length → i < 8 * a.length → hasL (mixK g a b m) i = F (hasL a i) (hasL b i)
  | [], b, m, i, _, h => by simp at h
  | x :: a, [], m, i, hm, h => by
    have : m = 0 := by simpa using hm
    subst this
    rw [mixK_zero, hasL_out [] i (by simp), hF]
  | x :: a, y :: b, 0, i, hm, h => by simp at hm
  | x :: a, y :: b, m + 1, i, hm, h => by
    rw [mixK]
    by_cases e : i < 8
    · rw [hasL_cons_lt _ _ _ e, hasL_cons_lt _ _ _ e, hasL_cons_lt _ _ _ e, hg _ _ _ e]
    · obtain ⟨j, rfl⟩ : ∃ j, i = j + 8 := ⟨i - 8, by omega⟩
      rw [hasL_cons_ge, hasL_cons_ge, hasL_cons_ge]
      exact mix_has g F hg hF a b m j (by simp at hm; omega) (by simp at h; omega)
def JJ (a b : List UInt8) : List UInt8 := mixK orG a b (min a.length b.length)
def LL (a b : List UInt8) : List UInt8 := mixK lessG a b (min a.length b.length)
theorem JJ_len (a b) : (JJ a b).length = a.length := mixK_length _ _ _ _
theorem LL_len (a b) : (LL a b).length = a.length := mixK_length _ _ _ _
theorem JJ_has (a b : List UInt8) (i : Nat) (h : i < 8 * a.length) : hasL (JJ a b) i = (hasL a i || hasL b i) :=
  mix_has orG (· || ·) (fun x y j _ => by rw [orG_nat, Nat.testBit_or]) (fun p => by simp) a b _ i rfl h
theorem LL_has (a b : List UInt8) (i : Nat) (h : i < 8 * a.length) : hasL (LL a b) i = (hasL a i && !hasL b i) :=
  mix_has lessG (fun p q => p && !q) (fun x y j hj => bit_less x y j hj) (fun p => by simp) a b _ i rfl h
theorem join_eq (a b : ByteArray) (ha : a.size ≤ 100000) (hb : b.size ≤ 100000) : Join.f a b = some ⟨(JJ a.data.toList b.data.toList).toArray⟩ := by
  unfold Join.f; rw [if_pos ⟨by omega, by omega⟩]; rfl
theorem less_eq (a b : ByteArray) (ha : a.size ≤ 100000) (hb : b.size ≤ 100000) : Less.f a b = some ⟨(LL a.data.toList b.data.toList).toArray⟩ := by
  unfold Less.f; rw [if_pos ⟨by omega, by omega⟩]; rfl
theorem cnt_sum {p q r s : Nat → Bool} : ∀ n, (∀ i, i < n → (p i).toNat + (q i).toNat = (r i).toNat + (s i).toNat) → cnt p n + cnt q n = cnt r n + cnt s n
  | 0, _ => rfl
  | n + 1, h => by
    have h1 := cnt_sum n (fun i hi => h i (by omega))
    have h2 := h n (by omega)
    simp only [cnt]
    omega
theorem cnt_none {p : Nat → Bool} : ∀ n, (∀ i, i < n → p i = false) → cnt p n = 0
  | 0, _ => rfl
  | n + 1, h => by rw [cnt, cnt_none n (fun i hi => h i (by omega)), h n (by omega)]; rfl
theorem alg_count (a b : List UInt8) (h : a.length = b.length) : countL (JJ a b) + countL (LL a (LL a b)) = countL a + countL b := by
  rw [count_cnt, count_cnt, count_cnt, count_cnt, JJ_len, LL_len, ← h]
  refine cnt_sum _ fun i hi => ?_
  rw [JJ_has _ _ _ hi, LL_has _ _ _ hi, LL_has _ _ _ hi]
  cases hasL a i <;> cases hasL b i <;> rfl
theorem alg_comm (a b : List UInt8) (h : a.length = b.length) : JJ a b = JJ b a := by
  refine has_ext (by rw [JJ_len, JJ_len, h]) fun i hi => ?_
  rw [JJ_len] at hi
  rw [JJ_has _ _ _ hi, JJ_has _ _ _ (by omega), Bool.or_comm]
theorem alg_self (a : List UInt8) : countL (LL a a) = 0 := by
  rw [count_cnt, LL_len]
  refine cnt_none _ fun i hi => ?_
  rw [LL_has _ _ _ hi]; simp
theorem alg_same (a : List UInt8) : JJ a a = a := by
  refine has_ext (JJ_len _ _) fun i hi => ?_
  rw [JJ_len] at hi
  rw [JJ_has _ _ _ hi]; simp
theorem alg_away (a b : List UInt8) : LL (JJ a b) b = LL a b := by
  refine has_ext (by rw [LL_len, LL_len, JJ_len]) fun i hi => ?_
  rw [LL_len, JJ_len] at hi
  rw [LL_has _ _ _ (by rw [JJ_len]; exact hi), LL_has _ _ _ hi, JJ_has _ _ _ hi]
  cases hasL a i <;> cases hasL b i <;> rfl
theorem alg_back (a b : List UInt8) : JJ (LL a b) (LL a (LL a b)) = a := by
  refine has_ext (by rw [JJ_len, LL_len]) fun i hi => ?_
  rw [JJ_len, LL_len] at hi
  rw [JJ_has _ _ _ (by rw [LL_len]; exact hi), LL_has _ _ _ hi, LL_has _ _ _ hi, LL_has _ _ _ hi]
  cases hasL a i <;> cases hasL b i <;> rfl
end Go.Proofs.Ytbneljnmhofjfaa.Pure
