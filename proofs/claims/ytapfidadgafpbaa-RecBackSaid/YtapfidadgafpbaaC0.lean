/-
  Plain facts on caps, without the document's answer.
-/
import Derived.Test.YtapfidadgafpbaaB1
import Derived.Test.YtapfidadgafpbaaA3
namespace Go.Proofs.Ytapfidadgafpbaa.Pure
set_option linter.unusedVariables false
set_option linter.unusedSimpArgs false
open Go.RowKit Go.Proofs.Ytapfidadgafpbaa.G Go.Proofs.YtapfidadgafpbaaW.PrintWords Go.Proofs.YtapfidadgafpbaaW.PrintLast Go.Proofs.YtapfidadgafpbaaW.PrintMore

def capOk (a b c d e f g h i : Int) : Bool := decide (1 ≤ a ∧ a ≤ 16777215 ∧ 0 ≤ b ∧ b ≤ 16777215 ∧ b ≠ a ∧ 1 ≤ c ∧ c ≤ 16777215 ∧ 1 ≤ d ∧ d ≤ 16777215 ∧ 0 ≤ e ∧ e < 65536 ∧ 0 ≤ f ∧ f ≤ 4294967295 ∧ 1 ≤ g ∧ g ≤ 8 ∧ 0 ≤ h ∧ h ≤ 268435455 ∧ 0 ≤ i ∧ i ≤ 16777215 ∧ (g = 1 ↔ b = 0))
theorem andNot_self (a : Int) : (Go.bits .andNot .i64 a a == 0) = true := by
  rw [beq_iff_eq]
  show IntKind.i64.wrap ((BitVec.ofInt 64 a &&& ~~~ BitVec.ofInt 64 a).toNat : Int) = 0
  rw [BitVec.and_not_self]
  rfl
theorem sub_eq (a : Int) : P.rights_Sub.f a a = some (decide (0 ≤ a ∧ a < 65536)) := by
  unfold P.rights_Sub.f P.rights_right.f
  by_cases h0 : 0 ≤ a
  · by_cases h1 : a < 65536
    · simp [h0, h1, andNot_self]
    · simp [h0, h1]
  · simp [h0]
theorem iff_bool (g b : Int) : ((g == 1) == (b == 0)) = decide (g = 1 ↔ b = 0) := by
  have e1 : (g == 1) = decide (g = 1) := rfl
  have e2 : (b == 0) = decide (b = 0) := rfl
  rw [e1, e2]
  by_cases h1 : g = 1 <;> by_cases h2 : b = 0 <;> simp [h1, h2]
theorem cap_eq (k : Nat) (a b c d e f g h i : Int) (j : Bool) : P.rec_capRecord_right.f (k + 1) a b c d e f g h i j = some (capOk a b c d e f g h i) := by
  simp only [P.rec_capRecord_right.f, P.rec_capRecord_right.j0, in_eq, sub_eq, iff_bool, Option.bind_some, decide_eq_true_eq, Bool.not_eq_true', decide_eq_false_iff_not, if_true, if_false]
  by_cases h1 : 1 ≤ a ∧ a ≤ 16777215
  case neg => rw [if_neg h1, show capOk a b c d e f g h i = false from decide_eq_false (by omega)]
  rw [if_pos h1]
  by_cases h2 : 0 ≤ b ∧ b ≤ 16777215
  case neg => rw [if_neg h2, show capOk a b c d e f g h i = false from decide_eq_false (by omega)]
  rw [if_pos h2]
  by_cases h3 : b = a
  case pos => rw [if_pos h3, show capOk a b c d e f g h i = false from decide_eq_false (by omega)]
  rw [if_neg h3]
  by_cases h4 : 1 ≤ c ∧ c ≤ 16777215
  case neg => rw [if_neg h4, show capOk a b c d e f g h i = false from decide_eq_false (by omega)]
  rw [if_pos h4]
  by_cases h5 : 1 ≤ d ∧ d ≤ 16777215
  case neg => rw [if_pos h5, show capOk a b c d e f g h i = false from decide_eq_false (by omega)]
  rw [if_neg (by simpa using h5)]
  by_cases h6 : 0 ≤ e ∧ e < 65536
  case neg => rw [if_neg h6, show capOk a b c d e f g h i = false from decide_eq_false (by omega)]
  rw [if_pos h6]
  by_cases h7 : 0 ≤ f ∧ f ≤ 4294967295
  case neg => rw [if_neg h7, show capOk a b c d e f g h i = false from decide_eq_false (by omega)]
  rw [if_pos h7]
  by_cases h8 : 0 ≤ h ∧ h ≤ 268435455
  case neg => rw [if_neg h8, show capOk a b c d e f g h i = false from decide_eq_false (by omega)]
  rw [if_pos h8]
  by_cases h9 : 0 ≤ i ∧ i ≤ 16777215
  case neg => rw [if_neg h9, show capOk a b c d e f g h i = false from decide_eq_false (by omega)]
  rw [if_pos h9]
  by_cases h10 : 1 ≤ g ∧ g ≤ 8
  case neg => rw [if_neg h10, show capOk a b c d e f g h i = false from decide_eq_false (by omega)]
  rw [if_pos h10]
  congr 1
  unfold capOk
  rw [decide_eq_decide]
  constructor
  · intro hh; exact ⟨h1.1, h1.2, h2.1, h2.2, h3, h4.1, h4.2, h5.1, h5.2, h6.1, h6.2, h7.1, h7.2, h10.1, h10.2, h8.1, h8.2, h9.1, h9.2, hh⟩
  · intro hh; exact hh.2.2.2.2.2.2.2.2.2.2.2.2.2.2.2.2.2.2.2

/-! ### written -/
def lastB (j : Bool) : Int := if j = true then 1 else 0
def capB (b c d e f g h i : Int) (j : Bool) : ByteArray := strOfNums (be 3 b) ++ strOfNums (be 3 c) ++ strOfNums (be 3 d) ++ strOfNums (be 2 e) ++ strOfNums (be 4 f) ++ strOfNums (be 1 g) ++ strOfNums (be 4 h) ++ strOfNums (be 3 i) ++ strOfNums (be 1 (lastB j))
theorem capB_size (b c d e f g h i : Int) (j : Bool) : (capB b c d e f g h i j).size = 24 := by
  unfold capB
  simp only [ByteArray.size_append, bytes_size]
theorem cwrite_eq (a b c d e f g h i : Int) (j : Bool) : write_cap.f 40 a b c d e f g h i j = if capOk a b c d e f g h i = true then some (capB b c d e f g h i j, 0) else some (⟨#[]⟩, 1) := by
  rw [write_cap.f, cap_eq 39, Option.bind_some]
  by_cases hk : capOk a b c d e f g h i = true
  · rw [if_pos hk, if_pos hk]
    have gg := hk
    unfold capOk at gg
    have gg := of_decide_eq_true gg
    have hl : 0 ≤ lastB j ∧ lastB j ≤ 1 := by unfold lastB; split <;> omega
    have p1 := put3 b (by omega) (by omega)
    rw [if_pos (by omega)] at p1
    have p2 := put3 c (by omega) (by omega)
    rw [if_pos (by omega)] at p2
    have p3 := put3 d (by omega) (by omega)
    rw [if_pos (by omega)] at p3
    have p4 := put2 e (by omega) (by omega)
    rw [if_pos (by omega)] at p4
    have p5 := put4 f (by omega) (by omega)
    rw [if_pos (by omega)] at p5
    have p6 := put1 g (by omega) (by omega)
    rw [if_pos (by omega)] at p6
    have p7 := put4 h (by omega) (by omega)
    rw [if_pos (by omega)] at p7
    have p8 := put3 i (by omega) (by omega)
    rw [if_pos (by omega)] at p8
    have p9 := put1 (lastB j) (by omega) (by omega)
    rw [if_pos (by omega)] at p9
    have w1 := small_ok ⟨#[]⟩ _ b 3 0 (by omega) (by omega) p1 (by decide) (by rw [bytes_size]; decide)
    rw [empty_append, show ((3 : Nat) : Int) = 3 from rfl] at w1
    have w2 := small_ok (strOfNums (be 3 b)) _ c 3 0 (by omega) (by omega) p2 (by simp only [ByteArray.size_append, bytes_size]; decide) (by rw [bytes_size]; decide)
    rw [show ((3 : Nat) : Int) = 3 from rfl] at w2
    have w3 := small_ok (strOfNums (be 3 b) ++ strOfNums (be 3 c)) _ d 3 0 (by omega) (by omega) p3 (by simp only [ByteArray.size_append, bytes_size]; decide) (by rw [bytes_size]; decide)
    rw [show ((3 : Nat) : Int) = 3 from rfl] at w3
    have w4 := small_ok (strOfNums (be 3 b) ++ strOfNums (be 3 c) ++ strOfNums (be 3 d)) _ e 2 0 (by omega) (by omega) p4 (by simp only [ByteArray.size_append, bytes_size]; decide) (by rw [bytes_size]; decide)
    rw [show ((2 : Nat) : Int) = 2 from rfl] at w4
    have w5 := small_ok (strOfNums (be 3 b) ++ strOfNums (be 3 c) ++ strOfNums (be 3 d) ++ strOfNums (be 2 e)) _ f 4 0 (by omega) (by omega) p5 (by simp only [ByteArray.size_append, bytes_size]; decide) (by rw [bytes_size]; decide)
    rw [show ((4 : Nat) : Int) = 4 from rfl] at w5
    have w6 := small_ok (strOfNums (be 3 b) ++ strOfNums (be 3 c) ++ strOfNums (be 3 d) ++ strOfNums (be 2 e) ++ strOfNums (be 4 f)) _ g 1 0 (by omega) (by omega) p6 (by simp only [ByteArray.size_append, bytes_size]; decide) (by rw [bytes_size]; decide)
    rw [show ((1 : Nat) : Int) = 1 from rfl] at w6
    have w7 := small_ok (strOfNums (be 3 b) ++ strOfNums (be 3 c) ++ strOfNums (be 3 d) ++ strOfNums (be 2 e) ++ strOfNums (be 4 f) ++ strOfNums (be 1 g)) _ h 4 0 (by omega) (by omega) p7 (by simp only [ByteArray.size_append, bytes_size]; decide) (by rw [bytes_size]; decide)
    rw [show ((4 : Nat) : Int) = 4 from rfl] at w7
    have w8 := small_ok (strOfNums (be 3 b) ++ strOfNums (be 3 c) ++ strOfNums (be 3 d) ++ strOfNums (be 2 e) ++ strOfNums (be 4 f) ++ strOfNums (be 1 g) ++ strOfNums (be 4 h)) _ i 3 0 (by omega) (by omega) p8 (by simp only [ByteArray.size_append, bytes_size]; decide) (by rw [bytes_size]; decide)
    rw [show ((3 : Nat) : Int) = 3 from rfl] at w8
    have w9 := small_ok (strOfNums (be 3 b) ++ strOfNums (be 3 c) ++ strOfNums (be 3 d) ++ strOfNums (be 2 e) ++ strOfNums (be 4 f) ++ strOfNums (be 1 g) ++ strOfNums (be 4 h) ++ strOfNums (be 3 i)) _ (lastB j) 1 0 (by omega) (by omega) p9 (by simp only [ByteArray.size_append, bytes_size]; decide) (by rw [bytes_size]; decide)
    rw [show ((1 : Nat) : Int) = 1 from rfl] at w9
    rw [w1, Option.bind_some, w2, Option.bind_some, w3, Option.bind_some, w4, Option.bind_some, w5, Option.bind_some, w6, Option.bind_some, w7, Option.bind_some, w8, Option.bind_some]
    rw [show (if j = true then (1 : Int) else 0) = lastB j from rfl, w9]
    rfl
  · rw [if_neg hk, if_neg hk]

/-! ### read -/
/-- Where the reading stands. -/
def St (s : ByteArray) (a : Nat) (r : ByteArray) (bad : Bool) : Prop := (bad = false → a ≤ s.size ∧ r = s.extract a s.size) ∧ (bad = true → s.size < 24 ∧ r.size ≤ s.size)
theorem St.step {s r : ByteArray} {a : Nat} {bad : Bool} (h : St s a r bad) (k : Nat) (hk : 1 ≤ k) (h4 : k ≤ 8) (ha : a + k ≤ 24) :
    ∃ n r' e, P.num_Take.f 40 r k = some (n, r', e) ∧ St s (a + k) r' (bad || (e != 0)) ∧ ((bad || (e != 0)) = false → n = dat s a k) := by
  have t := takeN r k hk h4
  by_cases hs : r.size < k
  · rw [if_pos hs] at t
    refine ⟨_, _, _, t, ⟨fun hh => by simp at hh, fun _ => ?_⟩, fun hh => by simp at hh⟩
    cases bad
    · obtain ⟨h1, h2⟩ := h.1 rfl
      rw [h2, ByteArray.size_extract] at hs
      exact ⟨by omega, Nat.zero_le _⟩
    · exact ⟨(h.2 rfl).1, Nat.zero_le _⟩
  · rw [if_neg hs] at t
    refine ⟨_, _, _, t, ⟨fun hh => ?_, fun hh => ?_⟩, fun hh => ?_⟩
    · have hb : bad = false := by simpa using hh
      obtain ⟨h1, h2⟩ := h.1 hb
      rw [h2, ByteArray.size_extract] at hs
      exact ⟨by omega, by rw [h2]; exact extract_extract s a k (by omega)⟩
    · have hb : bad = true := by simpa using hh
      have := h.2 hb
      exact ⟨this.1, by rw [ByteArray.size_extract]; omega⟩
    · have hb : bad = false := by simpa using hh
      obtain ⟨h1, h2⟩ := h.1 hb
      rw [h2, de_extract s a h1]
theorem bt_last (X : ByteArray) (n : Int) (h : X.size = 23) (h0 : 0 ≤ n) (h1 : n < 256) : bt (X ++ strOfNums (be 1 n)) 23 = n := by
  have hz : (X ++ strOfNums (be 1 n)).size = 24 := by rw [ByteArray.size_append, bytes_size, h]
  unfold bt
  rw [dif_pos (by rw [hz]; decide)]
  have : (X ++ strOfNums (be 1 n))[(23 : Int).toNat]'(by rw [hz]; decide) = (strOfNums (be 1 n))[0]'(by rw [bytes_size]; decide) := by
    rw [ByteArray.getElem_append_right (by show X.size ≤ 23; omega)]
    congr 1
    show 23 - X.size = 0
    omega
  rw [this]
  show ((UInt8.ofNat (n % 256).toNat).toNat : Int) = n
  simp
  omega
end Go.Proofs.Ytapfidadgafpbaa.Pure
