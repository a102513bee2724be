/- Any two texts are joined, and taken away, as the reference says; any one has as many numbers. No condition. -/
import Derived.Test.YtbneljnmhofjfaaB1
import Derived.Test.YtbneljnmhofjfaaB2
import Derived.Test.YtbneljnmhofjfaaGx3
import Derived.OpenShut
namespace Go.Proofs.Ytbneljnmhofjfaa.Pure
set_option linter.unusedVariables false
set_option linter.unusedSimpArgs false
open Go.RowKit Go.Proofs.Ytbneljnmhofjfaa.G Go.Proofs.YtbneljnmhofjfaaW.PrintWords Go.Proofs.YtbneljnmhofjfaaW.PrintLast Go.Proofs.YtbneljnmhofjfaaW.PrintMore

theorem rJoin_from (b : ByteArray) (hb : b.size ≤ 100000) (a : List UInt8) (ha : a.length ≤ 100000) : ∀ (m i k : Nat) (x : ByteArray), m = 8 * a.length - i → i ≤ 8 * a.length → x.data.toList.length = a.length →
    (∀ j, j < 8 * a.length → hasL x.data.toList j = if j < i then (fun p q => p || q) (hasL a j) (hasL b.data.toList j) else hasL a j) → m + 1 ≤ k →
    bailiwickref08_Join.l0 k x b (i : Int) = some ⟨(JJ a b.data.toList).toArray⟩
  | m, i, k + 1, x, hm, hi, hx, hj, hk => by
    have hz : x.size = a.length := hx
    rw [bailiwickref08_Join.l0, wr (8 * (x.size : Int)) (by omega) (by omega)]
    by_cases h1 : i < 8 * a.length
    · rw [if_pos (by omega), rhas_nat b i (by omega), Option.bind_some, wr ((i : Int) + 1) (by omega) (by omega), show ((i : Int) + 1) = ((i + 1 : Nat) : Int) by omega]
      have h8 : i / 8 < x.data.toList.length := by omega
      cases hh : hasL b.data.toList i with
      | true =>
        rw [if_pos rfl, refwith_put x i true (by omega) (by omega), Option.bind_some]
        refine rJoin_from b hb a ha (m - 1) (i + 1) k _ (by omega) (by omega) (by show (putL _ _ _).length = _; rw [put_len]; exact hx) (fun j hjl => ?_) (by omega)
        show hasL (putL x.data.toList i true) j = _
        rw [put_has _ _ _ _ h8]
        by_cases e : j = i
        · subst e
          rw [if_pos rfl, if_pos (by omega), hh]
          cases hasL a j <;> rfl
        · rw [if_neg e, hj j hjl]
          by_cases e2 : j < i
          · rw [if_pos e2, if_pos (by omega)]
          · rw [if_neg e2, if_neg (by omega)]
      | false =>
        rw [if_neg (by decide)]
        refine rJoin_from b hb a ha (m - 1) (i + 1) k x (by omega) (by omega) hx (fun j hjl => ?_) (by omega)
        rw [hj j hjl]
        by_cases e : j = i
        · subst e
          rw [if_neg (by omega), if_pos (by omega), hh]
          cases hasL a j <;> rfl
        · by_cases e2 : j < i
          · rw [if_pos e2, if_pos (by omega)]
          · rw [if_neg e2, if_neg (by omega)]
    · obtain rfl : i = 8 * a.length := by omega
      rw [if_neg (by omega)]
      have : x.data.toList = JJ a b.data.toList := has_ext (by rw [JJ_len]; exact hx) fun j hjl => by
        rw [hj j (by omega), if_pos (by omega), JJ_has _ _ _ (by omega)]
      rw [← this, mk_list]
  | m, i, 0, x, _, _, _, _, hk => by omega
theorem rLess_from (b : ByteArray) (hb : b.size ≤ 100000) (a : List UInt8) (ha : a.length ≤ 100000) : ∀ (m i k : Nat) (x : ByteArray), m = 8 * a.length - i → i ≤ 8 * a.length → x.data.toList.length = a.length →
    (∀ j, j < 8 * a.length → hasL x.data.toList j = if j < i then (fun p q => p && !q) (hasL a j) (hasL b.data.toList j) else hasL a j) → m + 1 ≤ k →
    bailiwickref08_Less.l0 k x b (i : Int) = some ⟨(LL a b.data.toList).toArray⟩
  | m, i, k + 1, x, hm, hi, hx, hj, hk => by
    have hz : x.size = a.length := hx
    rw [bailiwickref08_Less.l0, wr (8 * (x.size : Int)) (by omega) (by omega)]
    by_cases h1 : i < 8 * a.length
    · rw [if_pos (by omega), rhas_nat b i (by omega), Option.bind_some, wr ((i : Int) + 1) (by omega) (by omega), show ((i : Int) + 1) = ((i + 1 : Nat) : Int) by omega]
      have h8 : i / 8 < x.data.toList.length := by omega
      cases hh : hasL b.data.toList i with
      | true =>
        rw [if_pos rfl, refwith_put x i false (by omega) (by omega), Option.bind_some]
        refine rLess_from b hb a ha (m - 1) (i + 1) k _ (by omega) (by omega) (by show (putL _ _ _).length = _; rw [put_len]; exact hx) (fun j hjl => ?_) (by omega)
        show hasL (putL x.data.toList i false) j = _
        rw [put_has _ _ _ _ h8]
        by_cases e : j = i
        · subst e
          rw [if_pos rfl, if_pos (by omega), hh]
          cases hasL a j <;> rfl
        · rw [if_neg e, hj j hjl]
          by_cases e2 : j < i
          · rw [if_pos e2, if_pos (by omega)]
          · rw [if_neg e2, if_neg (by omega)]
      | false =>
        rw [if_neg (by decide)]
        refine rLess_from b hb a ha (m - 1) (i + 1) k x (by omega) (by omega) hx (fun j hjl => ?_) (by omega)
        rw [hj j hjl]
        by_cases e : j = i
        · subst e
          rw [if_neg (by omega), if_pos (by omega), hh]
          cases hasL a j <;> rfl
        · by_cases e2 : j < i
          · rw [if_pos e2, if_pos (by omega)]
          · rw [if_neg e2, if_neg (by omega)]
    · obtain rfl : i = 8 * a.length := by omega
      rw [if_neg (by omega)]
      have : x.data.toList = LL a b.data.toList := has_ext (by rw [LL_len]; exact hx) fun j hjl => by
        rw [hj j (by omega), if_pos (by omega), LL_has _ _ _ (by omega)]
      rw [← this, mk_list]
  | m, i, 0, x, _, _, _, _, hk => by omega
theorem BitsBoth : bailiwicklaw08_BitsBoth.Pure := by
  intro a0 b0 hs1 hs2
  refine ⟨2402, ?_⟩
  unfold bailiwicklaw08_BitsBoth.f
  have hm : 0 ≤ mn (a0.size : Int) 300 ∧ mn (a0.size : Int) 300 ≤ (a0.size : Int) ∧ mn (a0.size : Int) 300 ≤ 300 := by rw [mn_eq]; omega
  have hm2 : 0 ≤ mn (b0.size : Int) 300 ∧ mn (b0.size : Int) 300 ≤ (b0.size : Int) ∧ mn (b0.size : Int) 300 ≤ 300 := by rw [mn_eq]; omega
  rw [ex_eq, Option.bind_some, if_pos rfl, if_pos hm.1, if_pos hm.2.1, if_pos hm2.1, if_pos hm2.2.1]
  generalize h1 : a0.extract 0 ((mn (a0.size : Int) 300) : Int).toNat = a
  generalize h2 : b0.extract 0 ((mn (b0.size : Int) 300) : Int).toNat = b
  have hz1 : a.size ≤ 300 := by rw [← h1, ByteArray.size_extract]; omega
  have hz2 : b.size ≤ 300 := by rw [← h2, ByteArray.size_extract]; omega
  have hl : a.data.toList.length = a.size := rfl
  have e1 : bailiwickref08_Join.f 2402 a b = some ⟨(JJ a.data.toList b.data.toList).toArray⟩ :=
    rJoin_from b (by omega) a.data.toList (by omega) _ 0 2402 a rfl (by omega) rfl (fun j _ => by rw [if_neg (by omega)]) (by omega)
  have e2 : bailiwickref08_Less.f 2402 a b = some ⟨(LL a.data.toList b.data.toList).toArray⟩ :=
    rLess_from b (by omega) a.data.toList (by omega) _ 0 2402 a rfl (by omega) rfl (fun j _ => by rw [if_neg (by omega)]) (by omega)
  rw [join_eq a b (by omega) (by omega), Option.bind_some, e1, Option.bind_some, if_pos rfl, less_eq a b (by omega) (by omega), Option.bind_some, e2, Option.bind_some, if_pos rfl, count_eq a (by omega), Option.bind_some, rcount_eq a (by omega) 2402 (by omega), Option.bind_some]
  simp
end Go.Proofs.Ytbneljnmhofjfaa.Pure
