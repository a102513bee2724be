/-
  Texts of plain bytes, their runes, and what makes a label of them.
-/
import Derived.Test.YtipfiodeakapdaaDoorB6
namespace Go.Proofs.YtipfiodeakapdaaDoor.R
set_option linter.unusedVariables false
set_option linter.unusedSimpArgs false
open Go.RowKit Go.Proofs.YtipfiodeakapdaaDoorW.PrintWords Go.Proofs.YtipfiodeakapdaaDoorW.PrintLast Go.Proofs.YtipfiodeakapdaaDoorW.PrintMore
def bs (l : List UInt8) : ByteArray := ⟨l.toArray⟩
theorem bs_size (l : List UInt8) : (bs l).size = l.length := List.size_toArray
theorem bs_get (l : List UInt8) (i : Nat) (h : i < (bs l).size) : (bs l)[i]'h = l[i]'(by rw [bs_size] at h; exact h) := rfl
theorem bs_append (l m : List UInt8) : bs l ++ bs m = bs (l ++ m) := by
  apply ByteArray.ext
  simp [bs, ByteArray.data_append]
theorem bs_nil : (⟨#[]⟩ : ByteArray) = bs [] := rfl
theorem bs_list (l : List UInt8) : (bs l).toList = l := by
  rw [ByteArray.toList_eq]
  simp [bs]
theorem bs_of (s : ByteArray) : bs s.data.toList = s := rfl
def b8 (n : Int) : UInt8 := UInt8.ofNat n.toNat
theorem b8_nat (n : Int) (h0 : 0 ≤ n) (h1 : n < 256) : (b8 n).toNat = n.toNat := by
  rw [b8, UInt8.toNat_ofNat']
  omega
theorem str_one (n : Int) : strOfNums [n] = bs [b8 n] := rfl
theorem str_two (n m : Int) : strOfNums [n, m] = bs [b8 n, b8 m] := rfl
theorem dec_ascii (l : List UInt8) (i : Nat) (h : i < l.length) (ha : l[i].toNat < 128) : Utf8.decode (bs l) i = (l[i].toNat, 1) := decode_ascii (bs l) i (by rw [bs_size]; exact h) ha
def ascii (l : List UInt8) : Prop := ∀ c ∈ l, c.toNat < 128
theorem rn_ascii (l : List UInt8) (hl : ascii l) : ∀ k i, l.length ≤ i + k → rnF (bs l) k i = (l.drop i).map UInt8.toNat
  | 0, i, h => by rw [List.drop_eq_nil_of_le (by omega)]; rfl
  | k + 1, i, h => by
    by_cases hi : i < l.length
    · rw [rnF, if_pos (by rw [bs_size]; exact hi), dec_ascii l i hi (hl _ (List.getElem_mem hi)), rn_ascii l hl k (i + 1) (by omega), List.drop_eq_getElem_cons hi]
      rfl
    · rw [rnF, if_neg (by rw [bs_size]; exact hi), List.drop_eq_nil_of_le (by omega)]
      rfl
theorem rns_ascii (l : List UInt8) (hl : ascii l) : rns (bs l) = l.map UInt8.toNat := by
  rw [rns, rn_ascii l hl _ 0 (by rw [bs_size]; omega), List.drop_zero]
theorem right_good (s : ByteArray) : rightB s = (decide (s.size ≠ 0 ∧ s.size ≤ 32 ∧ (rns s).length ≤ 16) && goodL (rns s) true 46) := by
  rw [rightB, ok_good]; rfl
theorem right_ascii (l : List UInt8) (hl : ascii l) : rightB (bs l) = (decide (l.length ≠ 0 ∧ l.length ≤ 16) && goodL (l.map UInt8.toNat) true 46) := by
  rw [right_good, rns_ascii l hl, bs_size, List.length_map]
  congr 1
  exact decide_eq_decide.2 (by omega)
/-- A byte that begins no rune. -/
theorem dec_cont (s : ByteArray) (i : Nat) (h : i < s.size) (h1 : 128 ≤ (s[i]'h).toNat) (h2 : (s[i]'h).toNat < 192) : Utf8.decode s i = (65533, 1) := by
  rw [Lib.decode_at, get_bang s i h]
  generalize (s[i]'h).toNat = x at *
  unfold Lib.decodeN
  rw [if_neg (by omega), if_neg (by omega), if_neg (by omega), if_neg (by omega)]
theorem rn_bad (l : List UInt8) (c : UInt8) (hl : ascii l) (h1 : 128 ≤ c.toNat) (h2 : c.toNat < 192) : ∀ k i, l.length + 1 ≤ i + k → i ≤ l.length → rnF (bs (l ++ [c])) k i = (l.drop i).map UInt8.toNat ++ [65533]
  | 0, i, h, h' => by omega
  | k + 1, i, h, h' => by
    have hz : i < (bs (l ++ [c])).size := by rw [bs_size, List.length_append]; simp; omega
    rw [rnF, if_pos hz]
    by_cases hi : i < l.length
    · have e : (l ++ [c])[i]'(by simp; omega) = l[i] := List.getElem_append_left hi
      have d := dec_ascii (l ++ [c]) i (by simp; omega) (by rw [e]; exact hl _ (List.getElem_mem hi))
      rw [e] at d
      rw [d, rn_bad l c hl h1 h2 k (i + 1) (by omega) (by omega), List.drop_eq_getElem_cons hi]
      rfl
    · obtain rfl : i = l.length := by omega
      have e : (bs (l ++ [c]))[l.length]'hz = c := by rw [bs_get]; simp
      rw [dec_cont (bs (l ++ [c])) l.length hz (by rw [e]; exact h1) (by rw [e]; exact h2), rnF_end _ _ _ (by rw [bs_size, List.length_append]; simp), List.drop_length]
      rfl
theorem rns_bad (l : List UInt8) (c : UInt8) (hl : ascii l) (h1 : 128 ≤ c.toNat) (h2 : c.toNat < 192) : rns (bs (l ++ [c])) = l.map UInt8.toNat ++ [65533] := by
  rw [rns, rn_bad l c hl h1 h2 _ 0 (by rw [bs_size, List.length_append]; simp) (by omega), List.drop_zero]
theorem good_last : ∀ (l : List Nat) (r : Nat) (f : Bool) (w : Nat), goodL (l ++ [r]) f w = true → plainB r = true
  | [], r, f, w, h => by
    rw [List.nil_append, goodL, Bool.and_eq_true] at h
    exact h.2
  | x :: l, r, f, w, h => by
    rw [List.cons_append, goodL, Bool.and_eq_true] at h
    exact good_last l r false x h.2
theorem good_all : ∀ (l : List Nat) (f : Bool) (w : Nat), goodL l f w = true → ∀ r ∈ l, plainB r = true ∨ r = 45 ∨ r = 46
  | [], f, w, h, r, hr => by cases hr
  | x :: l, f, w, h, r, hr => by
    rw [goodL, Bool.and_eq_true] at h
    rcases List.mem_cons.1 hr with rfl | hr
    · have := h.1
      by_cases h1 : r = 45
      · exact .inr (.inl h1)
      · by_cases h2 : r = 46
        · exact .inr (.inr h2)
        · left
          simpa [h1, h2] using this
    · exact good_all l false x h.2 r hr
theorem good_plain : ∀ (l : List Nat) (f : Bool) (w : Nat), (∀ r ∈ l, plainB (r : Nat) = true) → plainB w = true → goodL l f w = true
  | [], f, w, h, hw => hw
  | x :: l, f, w, h, hw => by
    have hx := h x List.mem_cons_self
    rw [goodL, hx, good_plain l false x (fun r hr => h r (List.mem_cons_of_mem _ hr)) hx]
    rfl
theorem good_letters (l : List Nat) (hl : l ≠ []) (h : ∀ r ∈ l, plainB (r : Nat) = true) (f : Bool) (w : Nat) : goodL l f w = true := by
  cases l with
  | nil => exact absurd rfl hl
  | cons x l =>
    have hx := h x List.mem_cons_self
    rw [goodL, hx, good_plain l false x (fun r hr => h r (List.mem_cons_of_mem _ hr)) hx]
    rfl
theorem good_suf : ∀ (l : List Nat) (w m b : Nat), (∀ r ∈ l, plainB (r : Nat) = true) → plainB w = true → (m = 45 ∨ m = 46) → plainB b = true → goodL (l ++ [m, b]) false w = true
  | [], w, m, b, h, hw, hm, hb => by
    have p46 : plainB 46 = false := by decide
    have hw2 : w ≠ 46 := by
      rintro rfl
      rw [show ((46 : Nat) : Int) = 46 from rfl, p46] at hw
      cases hw
    rw [List.nil_append, goodL, goodL, goodL, hb]
    rcases hm with rfl | rfl <;> simp [hw2]
  | x :: l, w, m, b, h, hw, hm, hb => by
    have hx := h x List.mem_cons_self
    rw [List.cons_append, goodL, hx, good_suf l x m b (fun r hr => h r (List.mem_cons_of_mem _ hr)) hx hm hb]
    rfl
theorem good_mid (l : List Nat) (m b : Nat) (hl : l ≠ []) (h : ∀ r ∈ l, plainB (r : Nat) = true) (hm : m = 45 ∨ m = 46) (hb : plainB b = true) (f : Bool) (w : Nat) : goodL (l ++ [m, b]) f w = true := by
  cases l with
  | nil => exact absurd rfl hl
  | cons x l =>
    have hx := h x List.mem_cons_self
    rw [List.cons_append, goodL, hx, good_suf l x m b (fun r hr => h r (List.mem_cons_of_mem _ hr)) hx hm hb]
    rfl
/-! ### runes of two bytes -/
def two (d : UInt8) : Nat → List UInt8
  | 0 => []
  | k + 1 => 195 :: d :: two d k
theorem two_len (d : UInt8) : ∀ k, (two d k).length = 2 * k
  | 0 => rfl
  | k + 1 => by rw [two, List.length_cons, List.length_cons, two_len d k]; omega
theorem two_snoc (d : UInt8) : ∀ k, two d k ++ [195, d] = two d (k + 1)
  | 0 => rfl
  | k + 1 => by rw [two, List.cons_append, List.cons_append, two_snoc d k]; rfl
theorem two_at (d : UInt8) : ∀ k j, j < k → (two d k)[2 * j]? = some 195 ∧ (two d k)[2 * j + 1]? = some d
  | 0, j, h => by omega
  | k + 1, 0, h => ⟨rfl, rfl⟩
  | k + 1, j + 1, h => by
    have := two_at d k j (by omega)
    rw [show 2 * (j + 1) = 2 * j + 1 + 1 by omega, two]
    simpa using this
theorem rn_two (d : UInt8) (K : Nat) (h1 : 160 ≤ d.toNat) (h2 : d.toNat < 192) : ∀ k j, K ≤ j + k → j ≤ K → rnF (bs (two d K)) k (2 * j) = List.replicate (K - j) (d.toNat + 64)
  | 0, j, h, h' => by rw [show K - j = 0 by omega]; rfl
  | k + 1, j, h, h' => by
    have hz := bs_size (two d K)
    rw [two_len] at hz
    by_cases hj : j < K
    · obtain ⟨e0, e1⟩ := two_at d K j hj
      have g0 : (bs (two d K))[2 * j]'(by omega) = 195 := by rw [bs_get]; exact (List.getElem?_eq_some_iff.1 e0).2
      have g1 : (bs (two d K))[2 * j + 1]'(by omega) = d := by rw [bs_get]; exact (List.getElem?_eq_some_iff.1 e1).2
      have dd := dec2_of (bs (two d K)) (2 * j) (by omega) (by rw [g0]; decide) (by rw [g0]; decide) (by rw [g1]; omega) (by rw [g1]; exact h2)
      rw [g0, g1] at dd
      rw [rnF, if_pos (by omega), dd, show 2 * j + 2 = 2 * (j + 1) by omega, rn_two d K h1 h2 k (j + 1) (by omega) (by omega), show K - j = (K - (j + 1)) + 1 by omega, List.replicate_succ]
      rw [show ((195 : UInt8).toNat - 192) * 64 + (d.toNat - 128) = d.toNat + 64 by rw [show (195 : UInt8).toNat = 195 from rfl]; omega]
    · rw [rnF_end _ _ _ (by omega), show K - j = 0 by omega]; rfl
theorem rns_two (d : UInt8) (K : Nat) (h1 : 160 ≤ d.toNat) (h2 : d.toNat < 192) : rns (bs (two d K)) = List.replicate K (d.toNat + 64) := by
  have := rn_two d K h1 h2 (bs (two d K)).size 0 (by rw [bs_size, two_len]; omega) (by omega)
  exact this
end Go.Proofs.YtipfiodeakapdaaDoor.R
