/-
  The reference's label is the label.
-/
import Derived.Test.YtapfidadgafpbaaB5
import Derived.Test.YtapfidadgafpbaaOx1
namespace Go.Proofs.Ytapfidadgafpbaa.R
set_option linter.unusedVariables false
set_option linter.unusedSimpArgs false
open Go.RowKit Go.Proofs.YtapfidadgafpbaaW.PrintWords Go.Proofs.YtapfidadgafpbaaW.PrintLast Go.Proofs.YtapfidadgafpbaaW.PrintMore
def goodL : List Nat → Bool → Nat → Bool
  | [], _, w => plainB w
  | r :: l, f, w => (plainB r || ((r == 45 && !f) || (r == 46 && w != 46))) && goodL l false r
def refL : List Nat → Bool → Nat → Bool
  | [], _, _ => true
  | r :: l, f, w => (if r = 45 then !f && !l.isEmpty else if r = 46 then !f && (!l.isEmpty && w != 46) else plainB r) && refL l false r
theorem ok_good (s : ByteArray) : ∀ k pos was, okF s k pos was = goodL (rnF s k pos) (pos == 0) was
  | 0, pos, was => rfl
  | k + 1, pos, was => by
    by_cases h : pos < s.size
    · have hw := width_pos s pos h
      rw [okF, rnF, if_pos h, if_pos h, goodL, ok_good s k]
      have e : (pos + (Utf8.decode s pos).2 == 0) = false := by simp; omega
      have e2 : decide (0 < pos) = !(pos == 0) := by cases pos <;> simp
      rw [e, goodB, e2]
    · rw [okF, rnF, if_neg h, if_neg h, goodL]
theorem good_ref : ∀ (l : List Nat) (r : Nat) (f : Bool) (w : Nat), (f = true → w = 46) → goodL (r :: l) f w = refL (r :: l) f w
  | [], r, f, w, hf => by
    have p45 : plainB 45 = false := by decide
    have p46 : plainB 46 = false := by decide
    simp only [goodL, refL, List.isEmpty_nil]
    by_cases h1 : r = 45
    · subst h1; simp [p45]
    · by_cases h2 : r = 46
      · subst h2; simp [p46]
      · simp [h1, h2]
  | r2 :: l, r, f, w, hf => by
    have p45 : plainB 45 = false := by decide
    have p46 : plainB 46 = false := by decide
    have ih := good_ref l r2 false r (fun h => by cases h)
    rw [goodL, refL, ih]
    by_cases h1 : r = 45
    · subst h1; simp [p45]
    · by_cases h2 : r = 46
      · subst h2
        cases f
        · simp [p46]
        · simp [p46, hf rfl]
      · have b1 : (r == 45) = false := by simpa using h1
        have b2 : (r == 46) = false := by simpa using h2
        simp [h1, h2, b1, b2]
theorem letter_eq (r : Int) : P.bailiwickref02_letter.f r = some (plainB r) := by
  unfold P.bailiwickref02_letter.f plainB
  by_cases h1 : 97 ≤ r <;> by_cases h2 : r ≤ 122 <;> by_cases h3 : 65 ≤ r <;> by_cases h4 : r ≤ 90 <;> by_cases h5 : 48 ≤ r <;> by_cases h6 : r ≤ 57 <;> by_cases h7 : 192 ≤ r <;> first | omega | simp [h1, h2, h3, h4, h5, h6, h7]
theorem w64 (n : Int) (h1 : -9223372036854775808 ≤ n) (h2 : n ≤ 9223372036854775807) : wrap64 n = n := by unfold wrap64; omega
def prev (L : List Nat) (i : Nat) : Nat := if i = 0 then 46 else L.getD (i - 1) 0
theorem rd_map (L : List Nat) (i : Nat) (h : i < L.length) : rd (L.map Int.ofNat) (i : Int) = (L[i] : Int) := by
  simp [rd, h]
theorem ref_l0 (L : List Nat) (hL : L.length ≤ 1000) : ∀ k i, i ≤ L.length → L.length < i + k → O.bailiwickref02_Right.l0 k (L.map Int.ofNat) (i : Int) = some (refL (L.drop i) (i == 0) (prev L i))
  | 0, i, h1, h2 => by omega
  | k + 1, i, h1, h2 => by
    by_cases hi : i < L.length
    · have ih := ref_l0 L hL k (i + 1) (by omega) (by omega)
      have n1 : wrap64 ((i : Int) + 1) = ((i + 1 : Nat) : Int) := by rw [w64 _ (by omega) (by omega)]; omega
      have n2 : wrap64 ((L.map Int.ofNat).length - 1 : Int) = ((L.length - 1 : Nat) : Int) := by rw [List.length_map, w64 _ (by omega) (by omega)]; omega
      have e : L.drop i = L[i] :: L.drop (i + 1) := List.drop_eq_getElem_cons hi
      have p1 : prev L (i + 1) = L[i] := by simp [prev, hi]
      have f1 : ((i + 1 : Nat) == 0) = false := rfl
      have last : (L.drop (i + 1)).isEmpty = decide (i = L.length - 1) := by
        by_cases hl : i = L.length - 1
        · rw [List.drop_eq_nil_of_le (by omega)]; simp [← hl]
        · have hj : i + 1 < L.length := by omega
          rw [List.drop_eq_getElem_cons hj, decide_eq_false hl]; rfl
      rw [p1, f1] at ih
      rw [e, refL, last]
      have hlt : (i : Int) < ((L.map Int.ofNat).length : Int) := by rw [List.length_map]; omega
      rw [O.bailiwickref02_Right.l0, if_pos hlt, if_pos (by omega), rd_map L i hi, n1, n2, ih, letter_eq]
      have pv : 0 < i → (0 ≤ wrap64 ((i : Int) - 1) ∧ wrap64 ((i : Int) - 1) < ((L.map Int.ofNat).length : Int)) ∧ rd (L.map Int.ofNat) (wrap64 ((i : Int) - 1)) = (prev L i : Int) := fun h => by
        have w : wrap64 ((i : Int) - 1) = ((i - 1 : Nat) : Int) := by rw [w64 _ (by omega) (by omega)]; omega
        rw [w, List.length_map]
        refine ⟨by omega, ?_⟩
        rw [rd_map L (i - 1) (by omega)]
        have hb : i - 1 < L.length := by omega
        simp [prev, Nat.ne_of_gt h, hb]
      generalize hr : L[i] = r at *
      by_cases h0 : i = 0
      · have g0 : (i : Int) = 0 := by omega
        have g1 : ¬ (i : Int) > 0 := by omega
        have g2 : (i == 0) = true := by simp [h0]
        by_cases r45 : r = 45
        · subst r45; simp [g0, g2]
        · by_cases r46 : r = 46
          · subst r46; simp [g0, g2]
          · have q45 : ¬ (r : Int) = 45 := by omega
            have q46 : ¬ (r : Int) = 46 := by omega
            rw [if_neg q45, if_neg q46, Option.bind_some, if_neg r45, if_neg r46, if_neg q46, if_neg g1]
            cases plainB (r : Int) <;> simp
      · have g0 : ¬ (i : Int) = 0 := by omega
        have g1 : (i : Int) > 0 := by omega
        have g2 : (i == 0) = false := by simp [h0]
        obtain ⟨⟨v1, v2⟩, v3⟩ := pv (by omega)
        have gl : ((i : Int) = ((L.length - 1 : Nat) : Int)) ↔ i = L.length - 1 := by omega
        by_cases r45 : r = 45
        · subst r45
          by_cases hl : i = L.length - 1
          · have hl2 : (i : Int) = ((L.length - 1 : Nat) : Int) := by omega
            have d : decide (i = L.length - 1) = true := decide_eq_true hl
            rw [if_pos (by decide), if_neg g0, if_pos hl2, d]
            simp
          · have hl2 : ¬ (i : Int) = ((L.length - 1 : Nat) : Int) := by omega
            rw [if_pos (by decide), if_neg g0, if_neg hl2, if_pos g1, if_neg (by decide)]
            simp [g2, hl]
        · by_cases r46 : r = 46
          · subst r46
            by_cases hl : i = L.length - 1
            · have hl2 : (i : Int) = ((L.length - 1 : Nat) : Int) := by omega
              have d : decide (i = L.length - 1) = true := decide_eq_true hl
              rw [if_neg (by decide), if_pos (by decide), if_pos (by decide), if_neg g0, if_pos hl2, d]
              simp
            · have hl2 : ¬ (i : Int) = ((L.length - 1 : Nat) : Int) := by omega
              rw [if_neg (by decide), if_pos (by decide), if_pos (by decide), if_neg g0, if_neg hl2, if_pos g1, if_pos v1, if_pos v2, v3]
              by_cases hp : prev L i = 46
              · rw [if_pos (by rw [hp]; rfl)]
                simp [g2, hp]
              · rw [if_neg (by omega)]
                simp [g2, hl, hp]
          · have q45 : ¬ (r : Int) = 45 := by omega
            have q46 : ¬ (r : Int) = 46 := by omega
            rw [if_neg q45, if_neg q46, Option.bind_some, if_neg r45, if_neg r46, if_neg q46, if_pos g1]
            cases plainB (r : Int) <;> simp
    · have hi2 : i = L.length := by omega
      have hlt : ¬ (i : Int) < ((L.map Int.ofNat).length : Int) := by rw [List.length_map]; omega
      rw [O.bailiwickref02_Right.l0, if_neg hlt, hi2, List.drop_length, refL]
theorem rns_zero (s : ByteArray) : (rns s).length < 1 ↔ s.size = 0 := by
  unfold rns
  constructor
  · intro h
    cases hs : s.size with
    | zero => rfl
    | succ n =>
      rw [hs, rnF, if_pos (by omega)] at h
      simp at h
  · intro h
    rw [h]
    simp [rnF]
theorem ref_right (k : Nat) (s : ByteArray) (hk : 18 ≤ k) (hs : s.size ≤ 1000000000) : O.bailiwickref02_Right.f k s = some (rightB s) := by
  obtain ⟨k, rfl⟩ : ∃ j, k = j + 1 := ⟨k - 1, by omega⟩
  have hz := rns_zero s
  rw [O.bailiwickref02_Right.f, runes.f, if_pos hs, Option.bind_some]
  simp only [List.length_map, O.bailiwickref02_Right.j0]
  by_cases h1 : (rns s).length < 1
  · have := hz.1 h1
    rw [if_pos (by omega), if_pos trivial]
    simp [rightB, this]
  · rw [if_neg (by omega)]
    by_cases h2 : (rns s).length > 16
    · rw [if_pos (by omega), if_pos trivial]
      simp [rightB, Nat.not_le.2 h2]
    · rw [if_neg (by omega)]
      by_cases h3 : s.size > 32
      · rw [if_pos (by rw [decide_eq_true_iff]; omega)]
        simp [rightB, Nat.not_le.2 h3]
      · rw [if_neg (by rw [decide_eq_true_iff]; omega)]
        have hn0 : s.size ≠ 0 := fun e => h1 (hz.2 e)
        have e := ref_l0 (rns s) (by omega) k 0 (by omega) (by omega)
        rw [show ((0 : Nat) : Int) = 0 from rfl] at e
        rw [e, rightB, ok_good]
        have hd : decide (s.size ≠ 0 ∧ s.size ≤ 32 ∧ (rns s).length ≤ 16) = true := decide_eq_true ⟨hn0, by omega, by omega⟩
        rw [hd, Bool.true_and]
        show some (refL (rns s) true 46) = some (goodL (rns s) true 46)
        cases hr : rns s with
        | nil => rw [hr] at h1; simp at h1
        | cons r l => rw [good_ref l r true 46 (fun _ => rfl)]
end Go.Proofs.Ytapfidadgafpbaa.R
