/-
  Plain facts of a request's parts.
-/
import Derived.Test.YtfbcidfbgebbhaaB2
import Derived.Test.YtfbcidfbgebbhaaC0
import Derived.Laws.Bits128
namespace Go.Proofs.Ytfbcidfbgebbhaa.Pure
set_option linter.unusedVariables false
set_option linter.unusedSimpArgs false
open Go.RowKit Go.Proofs.YtfbcidfbgebbhaaW.PrintWords Go.Proofs.YtfbcidfbgebbhaaW.PrintLast Go.Proofs.YtfbcidfbgebbhaaW.PrintMore
open Go.Proofs.Ytfbcidfbgebbhaa.Q
theorem right_eq (a : Int) : rights_right.f a = some (decide (0 ≤ a ∧ a < 65536)) := by
  unfold rights_right.f
  split
  · rename_i h; congr 1; simp; omega
  · rename_i h; congr 1; simp; omega
def bitsOf (m i n : Nat) : List Nat := (List.range' i n).filter (fun j => m.testBit j)
theorem bitsOf_zero (m i : Nat) : bitsOf m i 0 = [] := rfl
theorem bitsOf_succ (m i n : Nat) : bitsOf m i (n + 1) = (if m.testBit i then [i] else []) ++ bitsOf m (i + 1) n := by
  unfold bitsOf
  rw [List.range'_succ, List.filter_cons]
  split <;> simp
theorem bitsOf_none (m : Nat) : ∀ n i, m / 2 ^ i = 0 → bitsOf m i n = []
  | 0, i, _ => rfl
  | n + 1, i, h => by
    have h0 : m.testBit i = false := by
      rw [Nat.testBit_eq_decide_div_mod_eq, h]; rfl
    rw [bitsOf_succ, h0, bitsOf_none m n (i + 1) (by rw [Nat.pow_succ, ← Nat.div_div_eq_div_mul, h])]
    rfl
theorem bitsOf_length (m : Nat) : ∀ n i, (bitsOf m i n).length ≤ n := fun n i => by
  unfold bitsOf
  have := List.length_filter_le (fun j => m.testBit j) (List.range' i n)
  simpa using this
def lets (m : Nat) : List UInt8 := (bitsOf m 0 16).map fun j => UInt8.ofNat (97 + j)

theorem and_one (x : Nat) (h : x < 2 ^ 63) : bits .and .i64 (x : Int) 1 = ((x % 2 : Nat) : Int) := by
  have := i64_and x 1 h (by decide)
  rw [Nat.and_one_is_mod] at this
  exact this
theorem mod_two_bit (m i : Nat) : m / 2 ^ i % 2 = if m.testBit i then 1 else 0 := by
  rw [Nat.testBit_eq_decide_div_mod_eq]
  have : m / 2 ^ i % 2 < 2 := Nat.mod_lt _ (by decide)
  by_cases h : m / 2 ^ i % 2 = 1
  · simp [h]
  · simp [h]; omega
theorem div_lt (m i : Nat) (h : m < 65536) : m / 2 ^ i < 65536 := Nat.lt_of_le_of_lt (Nat.div_le_self _ _) h

theorem text_l0 (m : Nat) (hm : m < 65536) : ∀ (d i : Nat), i + d = 16 → ∀ (k : Nat), d < k → ∀ acc : List Int, acc.length ≤ i →
    rights_Text.l0 k ((m / 2 ^ i : Nat) : Int) acc ((97 + i : Nat) : Int) = some (Go.runesBytes (acc ++ (bitsOf m i d).map fun j => ((97 + j : Nat) : Int)), true)
  | 0, i, hi, k, hk, acc, ha => by
    obtain ⟨k, rfl⟩ : ∃ q, k = q + 1 := ⟨k - 1, by omega⟩
    obtain rfl : i = 16 := by omega
    simp only [rights_Text.l0]
    rw [if_neg (by rw [Nat.div_eq_of_lt (by omega)]; simp), bitsOf_zero]
    simp
  | d + 1, i, hi, k, hk, acc, ha => by
    obtain ⟨k, rfl⟩ : ∃ q, k = q + 1 := ⟨k - 1, by omega⟩
    simp only [rights_Text.l0]
    by_cases h0 : m / 2 ^ i = 0
    · rw [if_neg (by rw [h0]; simp), bitsOf_none _ _ _ h0]
      simp
    · have hd := div_lt m i hm
      have e1 : (((m / 2 ^ i : Nat) : Int) / 2) = ((m / 2 ^ (i + 1) : Nat) : Int) := by rw [Nat.pow_succ, ← Nat.div_div_eq_div_mul]; omega
      have e2 : wrap32 (((97 + i : Nat) : Int) + 1) = ((97 + (i + 1) : Nat) : Int) := by unfold wrap32; omega
      have h0' : ((m / 2 ^ i : Nat) : Int) > 0 := by
        have := Nat.pos_of_ne_zero h0
        generalize m / 2 ^ i = q at this
        omega
      rw [if_pos h0', and_one _ (by omega), mod_two_bit, e1, e2]
      by_cases hb : m.testBit i = true
      · rw [if_neg (by simp [hb]), if_pos (by omega), text_l0 m hm d (i + 1) (by omega) k (by omega) _ (by simp; omega), bitsOf_succ, hb]
        simp
      · rw [if_pos (by simp [hb]), text_l0 m hm d (i + 1) (by omega) k (by omega) _ (by omega), bitsOf_succ]
        simp [hb]

theorem runesBytes_ascii : ∀ (l : List Nat), (∀ x ∈ l, x < 128) → ∀ s : ByteArray, (l.map (fun (x : Nat) => (x : Int))).foldl (fun r n => r ++ Utf8.encode n) s = s ++ ⟨(l.map UInt8.ofNat).toArray⟩
  | [], _, s => by
    apply ByteArray.ext
    simp [ByteArray.data_append]
  | x :: l, h, s => by
    have hx := h x (by simp)
    have e : Utf8.encode (x : Int) = ⟨#[UInt8.ofNat x]⟩ := by
      unfold Utf8.encode Utf8.valid
      have h1 : (decide ((0 : Int) ≤ (x : Int)) && decide ((x : Int) < 0xD800) || decide ((0xE000 : Int) ≤ (x : Int)) && decide ((x : Int) ≤ 0x10FFFF)) = true := by
        simp; omega
      simp only [h1, if_true, Int.toNat_natCast]
      rw [if_pos (by omega)]
    rw [List.map_cons, List.foldl_cons, runesBytes_ascii l (fun y hy => h y (by simp [hy])), e]
    apply ByteArray.ext
    simp [ByteArray.data_append]
theorem bitsOf_lt (m n i j : Nat) (h : j ∈ bitsOf m i n) : j < i + n := by
  unfold bitsOf at h
  have := (List.mem_filter.1 h).1
  rw [List.mem_range'] at this
  obtain ⟨q, h1, h2⟩ := this
  omega

theorem text_eq (m : Nat) (hm : m < 65536) (k : Nat) (hk : 17 ≤ k) : rights_Text.f k (m : Int) = some (⟨(lets m).toArray⟩, true) := by
  unfold rights_Text.f
  have h := text_l0 m hm 16 0 rfl k (by omega) [] (by simp)
  simp only [Nat.pow_zero, Nat.div_one, Nat.add_zero, List.nil_append] at h
  rw [right_eq, Option.bind_some, if_pos (by simp; omega)]
  rw [show (97 : Int) = ((97 : Nat) : Int) from rfl, h]
  unfold Go.runesBytes lets
  have h2 := runesBytes_ascii ((bitsOf m 0 16).map fun j => 97 + j) (fun x hx => by
    obtain ⟨j, hj, rfl⟩ := List.mem_map.1 hx
    have := bitsOf_lt _ _ _ _ hj
    omega) ByteArray.empty
  rw [List.map_map, List.map_map] at h2
  rw [show (fun j : Nat => ((97 + j : Nat) : Int)) = ((fun (x : Nat) => (x : Int)) ∘ fun j => 97 + j) from rfl, h2]
  simp [Function.comp_def]
theorem i64_andNot_zero (a b : Nat) (ha : a < 65536) (hb : b < 65536) : (bits .andNot .i64 (a : Int) (b : Int) == 0) = decide (a &&& b = a) := by
  have hz : bits .andNot .i64 (a : Int) (b : Int) = 0 ↔ (BitVec.ofNat 64 a &&& ~~~ BitVec.ofNat 64 b) = 0#64 := by
    show IntKind.i64.wrap ((BitVec.ofInt 64 (a : Int) &&& ~~~ BitVec.ofInt 64 (b : Int)).toNat : Int) = 0 ↔ _
    rw [BitVec.ofInt_natCast, BitVec.ofInt_natCast, IntKind.wrap_i64]
    have hl := (BitVec.ofNat 64 a &&& ~~~ BitVec.ofNat 64 b).isLt
    constructor
    · intro h
      apply BitVec.eq_of_toNat_eq
      simp only [BitVec.toNat_ofNat]
      omega
    · intro h
      rw [h]
      simp
  rw [Bool.eq_iff_iff, beq_iff_eq, hz, decide_eq_true_eq]
  constructor
  · intro h
    refine Nat.eq_of_testBit_eq fun i => ?_
    by_cases hi : i < 64
    · have h1 := congrArg (fun x : BitVec 64 => x.getLsbD i) h
      simp only [BitVec.getLsbD_and, BitVec.getLsbD_not, BitVec.getLsbD_ofNat, hi, decide_true, Bool.true_and] at h1
      rw [Nat.testBit_and]
      revert h1
      cases a.testBit i <;> cases b.testBit i <;> simp
    · have : a.testBit i = false := Nat.testBit_lt_two_pow (Nat.lt_of_lt_of_le ha (Nat.le_trans (show 65536 ≤ 2 ^ 64 by decide) (Nat.pow_le_pow_right (by decide) (by omega))))
      rw [Nat.testBit_and, this]
      rfl
  · intro h
    refine BitVec.eq_of_getLsbD_eq fun i hi => ?_
    have h1 : (a.testBit i && b.testBit i) = a.testBit i := by rw [← Nat.testBit_and, h]
    simp only [BitVec.getLsbD_and, BitVec.getLsbD_not, BitVec.getLsbD_ofNat, hi, decide_true, Bool.true_and]
    revert h1
    cases a.testBit i <;> cases b.testBit i <;> simp
theorem sub_eq (a b : Nat) (ha : a < 65536) (hb : b < 65536) : rights_Sub.f (a : Int) (b : Int) = some (decide (a &&& b = a)) := by
  unfold rights_Sub.f
  rw [right_eq, Option.bind_some, if_pos (by simp; omega), right_eq, Option.bind_some, if_pos (by simp; omega), i64_andNot_zero a b ha hb]
theorem sub_none (a b : Int) (h : ¬ (0 ≤ a ∧ a < 65536) ∨ ¬ (0 ≤ b ∧ b < 65536)) : rights_Sub.f a b = some false := by
  unfold rights_Sub.f
  rw [right_eq, Option.bind_some, right_eq]
  by_cases h1 : 0 ≤ a ∧ a < 65536
  · rw [if_pos (by simpa using h1), Option.bind_some, if_neg (by simp; omega)]
  · rw [if_neg (by simp; omega)]
theorem put2 (n : Int) (h0 : 0 ≤ n) (h1 : n < 18446744073709551616) : P.num_Put.f 40 n 2 = if n < 65536 then some (strOfNums (be 2 n), 0) else some (⟨#[]⟩, 1) := by
  have e : (n / 256 / 256 = 0) = (n < 65536) := by apply propext; omega
  simp [P.num_Put.f, P.num_Put.j0, P.num_Put.l0, be, wrap64, List.replicate, e]
theorem put3 (n : Int) (h0 : 0 ≤ n) (h1 : n < 18446744073709551616) : P.num_Put.f 40 n 3 = if n < 16777216 then some (strOfNums (be 3 n), 0) else some (⟨#[]⟩, 1) := by
  have e : (n / 256 / 256 / 256 = 0) = (n < 16777216) := by apply propext; omega
  simp [P.num_Put.f, P.num_Put.j0, P.num_Put.l0, be, wrap64, List.replicate, e]
theorem mask_right (n : Int) : rights_Sub.f n n = some (decide (0 ≤ n ∧ n < 65536)) := by
  by_cases h : 0 ≤ n ∧ n < 65536
  · obtain ⟨m, rfl⟩ := Int.eq_ofNat_of_zero_le h.1
    rw [sub_eq m m (by omega) (by omega), Nat.and_self, decide_eq_true rfl, decide_eq_true h]
  · rw [sub_none n n (.inl h), decide_eq_false h]
/-- How many ones. -/
def ones : Nat → Nat → Nat
  | 0, _ => 0
  | k + 1, m => m % 2 + ones k (m / 2)
theorem ones_bits (m : Nat) : ∀ d i, ones d (m / 2 ^ i) = (bitsOf m i d).length
  | 0, i => rfl
  | d + 1, i => by
    rw [ones, bitsOf_succ, Nat.div_div_eq_div_mul, ← Nat.pow_succ, ones_bits m d (i + 1), mod_two_bit]
    by_cases hb : m.testBit i = true <;> simp [hb]
    omega
theorem lets_ones (m : Nat) : (lets m).length = ones 16 m := by
  have := ones_bits m 16 0
  rw [Nat.pow_zero, Nat.div_one] at this
  rw [lets, List.length_map, ← this]
theorem lets_len (m : Nat) : (lets m).length ≤ 16 := by
  rw [lets, List.length_map]
  exact bitsOf_length m 16 0
theorem letter_one (c : Int) (h0 : 97 ≤ c) (h1 : c < 113) (W : World) : (convert 21 9 (.int .i32 c)).run Try.prog W = .ok (.string ⟨#[UInt8.ofNat c.toNat]⟩) W := by
  have e : Utf8.encode c = ⟨#[UInt8.ofNat c.toNat]⟩ := by
    unfold Utf8.encode Utf8.valid
    have h1 : (decide ((0 : Int) ≤ c) && decide (c < 0xD800) || decide ((0xE000 : Int) ≤ c) && decide (c ≤ 0x10FFFF)) = true := by
      simp; omega
    simp only [h1, if_true]
    rw [if_pos (by omega)]
  rw [← e]
  have hu := Try.underlying21
  have hv := Try.underlying9
  simp [convert, hu, hv, Conv.intToString]
theorem text_size (s : ByteArray) (h : s.size ≤ 255) : ∃ t, P.proto_text.f s = some t ∧ t = strOfNums [(s.size : Int) % 256] ++ s ∧ t.size = 1 + s.size := by
  refine ⟨_, by rw [P.proto_text.f, text_ok s h]; rfl, rfl, ?_⟩
  rw [ByteArray.size_append, strOfNums_size]
  rfl
theorem num_any (n : Int) (s : Nat) (hs : s = 1 ∨ s = 2 ∨ s = 3 ∨ s = 4) (h0 : 0 ≤ n) (h1 : n < 256 ^ s) : P.proto_number.f 40 n s = some (strOfNums (be s n)) := by
  have c1 : ((1 : Nat) : Int) = 1 := rfl
  have c2 : ((2 : Nat) : Int) = 2 := rfl
  have c3 : ((3 : Nat) : Int) = 3 := rfl
  have c4 : ((4 : Nat) : Int) = 4 := rfl
  rcases hs with rfl | rfl | rfl | rfl
  · have h2 : n < 256 := h1
    have p := put1 n h0 (by omega)
    rw [if_pos h2] at p
    rw [P.proto_number.f, u64_in n h0 (by omega), c1, p]
    rfl
  · have h2 : n < 65536 := by simpa using h1
    have p := put2 n h0 (by omega)
    rw [if_pos h2] at p
    rw [P.proto_number.f, u64_in n h0 (by omega), c2, p]
    rfl
  · have h2 : n < 16777216 := by simpa using h1
    have p := put3 n h0 (by omega)
    rw [if_pos h2] at p
    rw [P.proto_number.f, u64_in n h0 (by omega), c3, p]
    rfl
  · have h2 : n < 4294967296 := by simpa using h1
    have p := put4 n h0 (by omega)
    rw [if_pos h2] at p
    rw [P.proto_number.f, u64_in n h0 (by omega), c4, p]
    rfl
theorem num_size (n : Int) (s : Nat) : (strOfNums (be s n)).size = s := by rw [strOfNums_size, be_length]
theorem name_size (s : ByteArray) (h : R.rightB s = true) : s.size ≤ 32 := by
  unfold R.rightB at h
  simp at h
  omega
end Go.Proofs.Ytfbcidfbgebbhaa.Pure
