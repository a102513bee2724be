/- Put in one by one, each the least that is free, the numbers come in order till there is none. No condition. -/
import Derived.Test.YtbneljnmhofjfaaB1
import Derived.Test.YtbneljnmhofjfaaGx3
import Derived.OpenShut
namespace Go.Proofs.Ytbneljnmhofjfaa.Pure
set_option linter.unusedVariables false
set_option linter.unusedSimpArgs false
open Go.RowKit Go.Proofs.Ytbneljnmhofjfaa.G Go.Proofs.YtbneljnmhofjfaaW.PrintWords Go.Proofs.YtbneljnmhofjfaaW.PrintLast Go.Proofs.YtbneljnmhofjfaaW.PrintMore

theorem fills_l1 (b : ByteArray) (hs : b.size ≤ 8) (top was steps : Nat) (ht : top ≤ 64) (hc : countL b.data.toList = was + steps) (r : Int) (hf : bits_First.f b (top : Int) = some (r, false))
    (h : ∀ j, j < min top (8 * b.size) → hasL b.data.toList j = true) : ∀ (m i k : Nat), m = min top (8 * b.size) - i → m + 1 ≤ k →
    bailiwicklaw08_BitsFills.l1 k b true (top : Int) (was : Int) (steps : Int) (i : Int) = some true
  | m, i, k + 1, hm, hk => by
    have hcl := countL_le b.data.toList
    have hl : b.data.toList.length = b.size := rfl
    rw [bailiwicklaw08_BitsFills.l1, mn_eq, wr (8 * (b.size : Int)) (by omega) (by omega)]
    by_cases h1 : i < min top (8 * b.size)
    · rw [if_pos (by omega), has_nat b i (by omega), Option.bind_some, h i h1, if_pos rfl, wr _ (by omega) (by omega), show ((i : Int) + 1) = ((i + 1 : Nat) : Int) by omega]
      exact fills_l1 b hs top was steps ht hc r hf h (m - 1) (i + 1) k (by omega) (by omega)
    · rw [if_neg (by omega), hf, Option.bind_some, if_pos rfl, if_neg (by simp), count_eq b (by omega), Option.bind_some, wr _ (by omega) (by omega), hc]
      simp
  | m, i, 0, _, hk => by omega
theorem count_put (l : List UInt8) (i : Nat) (h : i / 8 < l.length) (h2 : hasL l i = false) : countL (putL l i true) = countL l + 1 := by
  rw [count_turn l i h]
  congr 2
  rw [putL, if_neg (fun g => g.2 h2)]
theorem fills_l0 (top was : Nat) (ht : top ≤ 64) : ∀ (m steps : Nat) (last : Int) (k : Nat) (b : ByteArray), b.size ≤ 8 → countL b.data.toList = was + steps → m = 64 - steps → -1 ≤ last → last < (top : Int) →
    (∀ j : Nat, (j : Int) ≤ last → hasL b.data.toList j = true) → m + 80 ≤ k →
    bailiwicklaw08_BitsFills.l0 k b true (top : Int) last (was : Int) (steps : Int) (steps : Int) = some true
  | m, steps, last, k + 2, b, hs, hc, hm, hl, hl2, hj, hk => by
    have hcl := countL_le b.data.toList
    have hlen : b.data.toList.length = b.size := rfl
    obtain ⟨⟨r1, r2⟩, e1, t1, t2⟩ := first_said b (top : Int) (by omega)
    rw [bailiwicklaw08_BitsFills.l0, if_pos (by omega), e1, Option.bind_some]
    cases r2 with
    | true =>
      obtain ⟨q, q0, q1, q2, q3, q4⟩ := t1 rfl
      simp only at q0
      subst q0
      have hq : last < (q : Int) := by
        rcases Int.lt_or_le last (q : Int) with h | h
        · exact h
        · rw [hj q h] at q3; cases q3
      have h8 : q / 8 < b.data.toList.length := by omega
      have hcp := count_put b.data.toList q h8 q3
      have hle2 := countL_le (putL b.data.toList q true)
      rw [put_len] at hle2
      simp only [if_true]
      rw [if_neg (by omega), if_neg (by omega), with_put b q true (by omega) (by omega), Option.bind_some, wr _ (by omega) (by omega), show ((steps : Int) + 1) = ((steps + 1 : Nat) : Int) by omega]
      refine fills_l0 top was ht (m - 1) (steps + 1) (q : Int) (k + 1) _ (by show (putL _ _ _).length ≤ 8; rw [put_len]; exact hs) (by show countL (putL _ _ _) = _; omega) (by omega) (by omega) q1 (fun j hjq => ?_) (by omega)
      show hasL (putL b.data.toList q true) j = true
      rw [put_has _ _ _ _ h8]
      by_cases e : j = q
      · rw [if_pos e]
      · rw [if_neg e]; exact q4 j (by omega)
    | false =>
      obtain ⟨q0, q2⟩ := t2 rfl
      simp only [Bool.false_eq_true, if_false]
      rw [bailiwicklaw08_BitsFills.j1]
      exact fills_l1 b hs top was steps ht hc r1 e1 (fun j hjt => q2 j (by omega) (by omega)) _ 0 k rfl (by omega)
  | m, steps, last, 0, b, _, _, _, _, _, _, hk => by omega
  | m, steps, last, 1, b, _, _, _, _, _, _, hk => by omega
theorem BitsFills : bailiwicklaw08_BitsFills.Pure := by
  intro a0 a1 hs h1
  refine ⟨200, ?_⟩
  replace h1 := bounds_u8 h1
  unfold bailiwicklaw08_BitsFills.f
  have hm : 0 ≤ mn (a0.size : Int) 8 ∧ mn (a0.size : Int) 8 ≤ (a0.size : Int) ∧ mn (a0.size : Int) 8 ≤ 8 := by rw [mn_eq]; omega
  rw [ex_eq, Option.bind_some, if_pos rfl, if_pos hm.1, if_pos hm.2.1]
  generalize hb : a0.extract 0 ((mn (a0.size : Int) 8) : Int).toNat = b
  have hz : b.size ≤ 8 := by rw [← hb, ByteArray.size_extract]; omega
  obtain ⟨n, rfl⟩ := Int.eq_ofNat_of_zero_le h1.1
  have e : Int.tmod (n : Int) 65 = ((n % 65 : Nat) : Int) := rfl
  rw [count_eq b (by omega), Option.bind_some, e, wr _ (by omega) (by omega)]
  exact fills_l0 (n % 65) (countL b.data.toList) (by omega) 64 0 (-1) 200 b hz rfl rfl (by omega) (by omega) (fun j hj => by omega) (by omega)
end Go.Proofs.Ytbneljnmhofjfaa.Pure
