/-
  Plain facts about codes: two texts told to be the same; the key in its two turns; the document's code is the code's.
-/
import Derived.Test.YtakbdknmfaoppaaMx1
import Derived.Test.YtakbdknmfaoppaaB3
namespace Go.Proofs.Ytakbdknmfaoppaa.Pure
set_option linter.unusedVariables false
set_option linter.unusedSimpArgs false
open Go.RowKit Go.Proofs.Ytakbdknmfaoppaa.R Go.Proofs.YtakbdknmfaoppaaW.PrintWords Go.Proofs.YtakbdknmfaoppaaW.PrintLast Go.Proofs.YtakbdknmfaoppaaW.PrintMore
/-! ### the same -/
theorem xor_nat (a b : Nat) (ha : a < 2 ^ 8) (hb : b < 2 ^ 8) : Go.bits .xor .u8 a b = ((a ^^^ b : Nat) : Int) := by
  have ha' : a % 2 ^ IntKind.u8.bits = a := Nat.mod_eq_of_lt ha
  have hb' : b % 2 ^ IntKind.u8.bits = b := Nat.mod_eq_of_lt hb
  simp only [Go.bits, BitVec.ofInt_natCast, BitVec.toNat_xor, BitVec.toNat_ofNat, ha', hb']
  exact wraps_u8 _ (Int.natCast_nonneg _) (by exact_mod_cast Nat.xor_lt_two_pow ha hb)
theorem or_nat (a b : Nat) (ha : a < 2 ^ 8) (hb : b < 2 ^ 8) : Go.bits .or .u8 a b = ((a ||| b : Nat) : Int) := (bits_nat .u8 8 (by decide) wraps_u8 a b ha hb).2
theorem xor_zero (a b : Nat) : a ^^^ b = 0 ↔ a = b := by
  constructor
  · intro h
    apply Nat.eq_of_testBit_eq
    intro i
    have := congrArg (fun n => n.testBit i) h
    simp only [Nat.testBit_xor, Nat.zero_testBit] at this
    revert this
    cases a.testBit i <;> cases b.testBit i <;> simp
  · rintro rfl
    exact Nat.xor_self a
theorem or_zero (a b : Nat) : a ||| b = 0 ↔ a = 0 ∧ b = 0 := by
  constructor
  · intro h
    constructor
    · apply Nat.eq_of_testBit_eq
      intro i
      have := congrArg (fun n => n.testBit i) h
      simp only [Nat.testBit_or, Nat.zero_testBit] at this ⊢
      revert this
      cases a.testBit i <;> cases b.testBit i <;> simp
    · apply Nat.eq_of_testBit_eq
      intro i
      have := congrArg (fun n => n.testBit i) h
      simp only [Nat.testBit_or, Nat.zero_testBit] at this ⊢
      revert this
      cases a.testBit i <;> cases b.testBit i <;> simp
  · rintro ⟨rfl, rfl⟩
    rfl
def bn (s : ByteArray) (i : Nat) : Nat := if h : i < s.size then (s[i]'h).toNat else 0
theorem bt_bn (s : ByteArray) (i : Nat) : bt s (i : Int) = (bn s i : Int) := by
  unfold bt bn
  by_cases h : i < s.size <;> simp [h]
theorem bn_lt (s : ByteArray) (i : Nat) : bn s i < 2 ^ 8 := by
  unfold bn
  split
  · exact UInt8.toNat_lt _
  · decide
theorem bn_out (s : ByteArray) (i : Nat) (h : ¬ i < s.size) : bn s i = 0 := by simp [bn, h]
def offF (a b : ByteArray) : Nat → Nat → Nat → Nat
  | 0, _, o => o
  | d + 1, i, o => offF a b d (i + 1) (o ||| (bn a i ^^^ bn b i))
theorem offF_zero (a b : ByteArray) : ∀ d i o, offF a b d i o = 0 ↔ o = 0 ∧ ∀ j, i ≤ j → j < i + d → bn a j = bn b j := by
  intro d
  induction d with
  | zero => intro i o; exact ⟨fun h => ⟨h, fun j h1 h2 => absurd h2 (by omega)⟩, fun h => h.1⟩
  | succ d ih =>
    intro i o
    rw [offF, ih, or_zero, xor_zero]
    constructor
    · rintro ⟨⟨h1, h2⟩, h3⟩
      refine ⟨h1, fun j hj hj2 => ?_⟩
      by_cases e : j = i
      · rw [e]; exact h2
      · exact h3 j (by omega) (by omega)
    · rintro ⟨h1, h2⟩
      exact ⟨⟨h1, h2 i (by omega) (by omega)⟩, fun j hj hj2 => h2 j (by omega) (by omega)⟩
theorem same_l0 (a b : ByteArray) (n m : Nat) (hn : n ≤ 140737488351232 * 2) : ∀ (d i o : Nat), o < 2 ^ 8 → i + d = n →
    P.mac_Same.l0 (m + d + 1) a b (o : Int) (n : Int) (i : Int) = some (decide (offF a b d i o = 0) && ((a.size : Int) == (b.size : Int))) := by
  intro d
  induction d with
  | zero =>
    intro i o ho h
    have q : ¬ (i : Int) < (n : Int) := by omega
    rw [P.mac_Same.l0, if_neg q, offF]
    by_cases e : o = 0
    · subst e; rfl
    · rw [if_neg (by omega)]
      simp [e]
  | succ d ih =>
    intro i o ho h
    have q : (i : Int) < (n : Int) := by omega
    have q0 : (0 : Int) ≤ (i : Int) := by omega
    have ha := bn_lt a i
    have hb := bn_lt b i
    have hx := Nat.xor_lt_two_pow ha hb
    have hn1 := ih (i + 1) (o ||| (bn a i ^^^ bn b i)) (Nat.or_lt_two_pow ho hx) (by omega)
    have w1 : wrap64 ((i : Int) + 1) = ((i + 1 : Nat) : Int) := by unfold wrap64; omega
    have e : Go.bits .or .u8 (o : Int) (Go.bits .xor .u8 (bn a i : Int) (bn b i : Int)) = ((o ||| (bn a i ^^^ bn b i) : Nat) : Int) := by
      rw [xor_nat _ _ ha hb, or_nat _ _ ho hx]
    rw [show m + (d + 1) + 1 = (m + d + 1) + 1 by omega, P.mac_Same.l0, if_pos q, w1]
    by_cases ca : (i : Int) < (a.size : Int)
    · rw [if_pos ca, if_pos q0]
      by_cases cb : (i : Int) < (b.size : Int)
      · rw [if_pos cb, bt_bn, bt_bn, e, hn1, offF]
      · rw [if_neg cb, bt_bn]
        rw [bn_out b i (by omega)] at e hn1
        rw [offF, bn_out b i (by omega), ← hn1, ← e]
        rfl
    · rw [if_neg ca]
      rw [bn_out a i (by omega)] at e hn1
      by_cases cb : (i : Int) < (b.size : Int)
      · rw [if_pos cb, if_pos q0, bt_bn, offF, bn_out a i (by omega), ← hn1, ← e]
        rfl
      · rw [if_neg cb]
        rw [bn_out b i (by omega)] at e hn1
        rw [offF, bn_out a i (by omega), bn_out b i (by omega), ← hn1, ← e]
        rfl
theorem ext_bn (a b : ByteArray) (h : a.size = b.size) (h2 : ∀ j, j < a.size → bn a j = bn b j) : a = b := by
  apply ByteArray.ext
  apply Array.ext
  · exact h
  · intro i h3 h4
    have := h2 i h3
    have h5 : i < b.size := h4
    have h6 : i < a.size := h3
    unfold bn at this
    rw [dif_pos h6, dif_pos h5] at this
    exact UInt8.toNat_inj.1 this
theorem same_f (a b : ByteArray) (k : Nat) (ha : a.size ≤ 140737488351232 * 2) (hb : b.size ≤ 140737488351232 * 2) (hk : a.size + b.size + 1 ≤ k) : P.mac_Same.f k a b = some (decide (a = b)) := by
  obtain ⟨n, hn⟩ : ∃ n : Nat, mx (a.size : Int) (b.size : Int) = (n : Int) ∧ (n = a.size ∨ n = b.size) ∧ a.size ≤ n ∧ b.size ≤ n := by
    unfold mx
    split
    · exact ⟨b.size, rfl, .inr rfl, by omega, by omega⟩
    · exact ⟨a.size, rfl, .inl rfl, by omega, by omega⟩
  obtain ⟨m, rfl⟩ : ∃ m, k = m + n + 1 := ⟨k - (n + 1), by omega⟩
  have h := same_l0 a b n m (by omega) n 0 0 (by decide) (by omega)
  unfold P.mac_Same.f
  rw [hn.1]
  refine h.trans ?_
  congr 1
  rw [Bool.eq_iff_iff, Bool.and_eq_true, decide_eq_true_eq, decide_eq_true_eq, offF_zero, beq_iff_eq]
  constructor
  · rintro ⟨⟨_, h1⟩, h2⟩
    exact ext_bn a b (by omega) (fun j hj => h1 j (by omega) (by omega))
  · rintro rfl
    exact ⟨⟨rfl, fun _ _ _ => rfl⟩, rfl⟩
/-! ### the code -/
theorem mac_f (key s : ByteArray) (h1 : key.size ≤ 1000000) (h2 : s.size ≤ 900000) : Mac.f key s = some (macB key s) := by rw [Mac.f, if_pos ⟨h1, h2⟩]
theorem macB_size (key s : ByteArray) : (macB key s).size = 32 := sum32 _
theorem tag_f (key s : ByteArray) (h1 : key.size ≤ 1000000) (h2 : s.size ≤ 900000) : M.mac_Tag.f key s = some ((macB key s).extract 0 16) := by
  unfold M.mac_Tag.f
  rw [mac_f key s h1 h2, Option.bind_some, if_pos (by decide), if_pos (by rw [macB_size]; decide)]
theorem turned_f (key : ByteArray) (b : Int) (h : key.size ≤ 64) : turned.f key b = some (turnF key b) := by rw [turned.f, if_pos h]
theorem mac_j0 (key s : ByteArray) (h1 : key.size ≤ 64) (h2 : s.size ≤ 300) (k : Nat) (hk : 2001 ≤ k) : M.bailiwickref04_Mac.j0 k key s = some (sumB (turnF key 92 ++ sumB (turnF key 54 ++ s))) := by
  obtain ⟨m, rfl⟩ : ∃ m, k = m + 1 := ⟨k - 1, by omega⟩
  have t1 := turn64 key 92 h1
  have t2 := turn64 key 54 h1
  have z := sum32 (turnF key 54 ++ s)
  rw [M.bailiwickref04_Mac.j0, turned_f _ _ h1, Option.bind_some, turned_f _ _ h1, Option.bind_some, if_pos (by omega), sum_ref _ (by rw [ByteArray.size_append]; omega) _ (by omega), Option.bind_some, if_pos (by omega), sum_ref _ (by rw [ByteArray.size_append]; omega) _ (by omega), Option.bind_some]
theorem mac_ref (key s : ByteArray) (h1 : key.size ≤ 300) (h2 : s.size ≤ 300) (k : Nat) (hk : 2001 ≤ k) : M.bailiwickref04_Mac.f k key s = some (macB key s) := by
  unfold M.bailiwickref04_Mac.f macB keyB
  by_cases c : key.size ≤ 64
  · rw [if_neg (by omega), if_pos c, mac_j0 key s c h2 k hk]
  · rw [if_pos (by omega), if_neg c, sum_ref _ (by omega) _ (by omega), Option.bind_some, mac_j0 _ s (by rw [sum32]; decide) h2 k hk]
theorem exm : hexL (macB (ofL [107, 101, 121]) (ofL [84, 104, 101, 32, 113, 117, 105, 99, 107, 32, 98, 114, 111, 119, 110, 32, 102, 111, 120, 32, 106, 117, 109, 112, 115, 32, 111, 118, 101, 114, 32, 116, 104, 101, 32, 108, 97, 122, 121, 32, 100, 111, 103])).data.toList = [102, 55, 98, 99, 56, 51, 102, 52, 51, 48, 53, 51, 56, 52, 50, 52, 98, 49, 51, 50, 57, 56, 101, 54, 97, 97, 54, 102, 98, 49, 52, 51, 101, 102, 52, 100, 53, 57, 97, 49, 52, 57, 52, 54, 49, 55, 53, 57, 57, 55, 52, 55, 57, 100, 98, 99, 50, 100, 49, 97, 51, 99, 100, 56] := by decide +kernel
theorem exm_eq (k : Nat) (hk : 2001 ≤ k) : M.bailiwicklaw04_examples.f k = some true := by
  unfold M.bailiwicklaw04_examples.f
  rw [mac_f _ _ (by decide) (by decide), Option.bind_some, hex_ref _ (by rw [macB_size]; decide) _ (by omega), Option.bind_some, toList_eq, hexB_data]
  have e := exm
  unfold ofL at e
  rw [e, if_pos rfl, same_f _ _ _ (by decide) (by decide) (by show 3 ≤ k; omega), Option.bind_some]
  simp
/-! ### the key -/
def ml (key : ByteArray) (b : Int) : Nat → Nat → List Int → List Int
  | 0, _, xs => xs
  | f + 1, i, xs => ml key b f (i + 1) (xs.set i (Go.bits .xor .u8 (bt key (i : Int)) b))
theorem tl_ml (key : ByteArray) (b : Int) : ∀ (f i : Nat) (xs : List Int), (∀ j : Nat, i ≤ j → j < i + f → xs.getD j 0 = bt key (j : Int)) → tl b f i xs = ml key b f i xs := by
  intro f
  induction f with
  | zero => intro i xs h; rfl
  | succ f ih =>
    intro i xs h
    rw [tl, ml, h i (by omega) (by omega)]
    apply ih
    intro j hj hj2
    rw [← h j (by omega) (by omega)]
    simp [List.getD_eq_getElem?_getD, List.getElem?_set, show ¬ i = j by omega]
theorem ml_all (key : ByteArray) (b : Int) : ∀ (f i : Nat) (xs : List Int), i + f = 64 → xs.length = 64 → ml key b f i xs = xs.take i ++ (List.range' i f).map (fun j : Nat => Go.bits .xor .u8 (bt key (j : Int)) b) := by
  intro f
  induction f with
  | zero =>
    intro i xs h hl
    rw [ml, List.take_of_length_le (by omega)]
    simp
  | succ f ih =>
    intro i xs h hl
    rw [ml, ih (i + 1) _ (by omega) (by rw [List.length_set]; exact hl), List.range'_succ, List.map_cons, List.take_set, List.take_succ_eq_append_getElem (by omega)]
    rw [List.set_append_right _ _ (by simp; omega)]
    simp [show min i xs.length = i by omega]
theorem klong_bt (key : ByteArray) (h : key.size ≤ 64) (j : Nat) (hj : j < 64) : (klong key).getD j 0 = bt key (j : Int) := by
  unfold klong
  by_cases c : j < key.size
  · have : j < (bytesOf key).length := by rw [bytesOf_length]; exact c
    rw [List.getD_eq_getElem?_getD, List.getElem?_append_left this]
    have e := rd_bytesOf key (j : Int)
    rw [rd, Int.toNat_natCast, List.getD_eq_getElem?_getD] at e
    exact e
  · rw [List.getD_eq_getElem?_getD, List.getElem?_append_right (by rw [bytesOf_length]; omega), bt_bn, bn_out _ _ c, bytesOf_length]
    simp [List.getElem?_replicate]
    split <;> rfl
theorem turn_ml (key : ByteArray) (h : key.size ≤ 64) (b : Int) : tl b 64 0 (klong key) = (List.range' 0 64).map (fun j : Nat => Go.bits .xor .u8 (bt key (j : Int)) b) := by
  rw [tl_ml key b 64 0 (klong key) (fun j _ hj => klong_bt key h j (by omega)), ml_all key b 64 0 _ rfl (klong_len key h)]
  rfl
end Go.Proofs.Ytakbdknmfaoppaa.Pure
