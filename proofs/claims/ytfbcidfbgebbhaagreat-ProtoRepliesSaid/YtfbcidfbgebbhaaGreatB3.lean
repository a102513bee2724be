/-
  Plain law: the document's Reply and its reading.
-/
import Derived.Test.YtfbcidfbgebbhaaGreatB2
namespace Go.Proofs.YtfbcidfbgebbhaaGreat.Pure
set_option linter.unusedVariables false
set_option linter.unusedSimpArgs false
open Go.RowKit Go.Proofs.YtfbcidfbgebbhaaGreatW.PrintWords Go.Proofs.YtfbcidfbgebbhaaGreatW.PrintLast Go.Proofs.YtfbcidfbgebbhaaGreatW.PrintMore
theorem or_add (x y : Int) (h0 : 0 ≤ x) (h1 : x < 72057594037927936) (h2 : 0 ≤ y) (h3 : y ≤ 255) : Go.bits .or .u64 (x * 256) y = x * 256 + y := by
  obtain ⟨a, rfl⟩ := Int.eq_ofNat_of_zero_le h0
  obtain ⟨b, rfl⟩ := Int.eq_ofNat_of_zero_le h2
  rw [show (a : Int) * 256 = ((a * 256 : Nat) : Int) by simp, bits_or_u64_nat _ _ (by omega) (by omega)]
  have : a * 256 ||| b = a * 256 + b := by
    have := Nat.shiftLeft_add_eq_or_of_lt (b := b) (i := 8) (by omega) a
    rw [Nat.shiftLeft_eq] at this
    exact this.symm
  rw [this]
  simp
theorem rput1 (n : Int) (h0 : 0 ≤ n) (h1 : n < 18446744073709551616) : P.bailiwickref01_Put.f 40 n 1 = if n < 256 then some (strOfNums (be 1 n), true) else some (⟨#[]⟩, false) := by
  have e : (0 < n / 256) = ¬ (n < 256) := by apply propext; omega
  by_cases hn : n < 256 <;> simp [P.bailiwickref01_Put.f, P.bailiwickref01_Put.j0, P.bailiwickref01_Put.l0, be, wrap64, List.replicate, shr, u64bits, e, hn]
theorem rput4 (n : Int) (h0 : 0 ≤ n) (h1 : n < 18446744073709551616) : P.bailiwickref01_Put.f 40 n 4 = if n < 4294967296 then some (strOfNums (be 4 n), true) else some (⟨#[]⟩, false) := by
  have e : (0 < n / 4294967296) = ¬ (n < 4294967296) := by apply propext; omega
  by_cases hn : n < 4294967296 <;> simp [P.bailiwickref01_Put.f, P.bailiwickref01_Put.j0, P.bailiwickref01_Put.l0, be, wrap64, List.replicate, shr, u64bits, e, hn]
theorem rtake_l0 (b : ByteArray) (s : Nat) (hs : s ≤ b.size) (h8 : s ≤ 8) : ∀ m j k : Nat, j + m = s → m < k → P.bailiwickref01_Take.l0 k b s (de b j) j = some (de b s, b.extract s b.size, 0)
  | 0, j, k + 1, hj, hk => by
    obtain rfl : j = s := by omega
    rw [P.bailiwickref01_Take.l0, if_neg (by omega), if_pos (by omega), if_pos (by omega)]
    rfl
  | m + 1, j, k + 1, hj, hk => by
    have d := de_lt b j
    have r := bt_range b j
    have p := pow_le8 j (by omega)
    rw [P.bailiwickref01_Take.l0, if_pos (by omega), if_pos (by omega), if_pos (by omega), u64_in (bt b j) (by omega) (by omega), u64_in (de b j * 256) (by omega) (by omega), or_add _ _ d.1 (by omega) r.1 r.2, wrap64_in _ (by omega) (by omega)]
    exact rtake_l0 b s hs h8 m (j + 1) k (by omega) (by omega)
theorem rtakeN (b : ByteArray) (s : Nat) (h1 : 1 ≤ s) (h8 : s ≤ 8) : P.bailiwickref01_Take.f 40 b s = if b.size < s then some (0, ⟨#[]⟩, 2) else some (de b s, b.extract s b.size, 0) := by
  rw [P.bailiwickref01_Take.f, if_neg (by omega), show decide ((s : Int) > 8) = false from decide_eq_false (by omega), P.bailiwickref01_Take.j0, if_neg (by decide)]
  by_cases h : b.size < s
  · rw [if_pos (by omega), if_pos h]
  · rw [if_neg (by omega), if_neg h]
    exact rtake_l0 b s (by omega) h8 s 0 39 (by omega) (by omega)
theorem rtakeText_eq (r : ByteArray) (hz : r.size ≤ 140737488355328) : P.bailiwickref01_TakeText.f r = if r.size = 0 then some (⟨#[]⟩, ⟨#[]⟩, false) else if bt r 0 ≥ r.size then some (⟨#[]⟩, ⟨#[]⟩, false) else some (r.extract 1 (bt r 0 + 1).toNat, r.extract (bt r 0 + 1).toNat r.size, true) := by
  have b := bt_range r 0
  unfold P.bailiwickref01_TakeText.f
  by_cases h0 : r.size = 0
  · have : r = ⟨#[]⟩ := by
      apply ByteArray.ext
      exact Array.eq_empty_of_size_eq_zero h0
    rw [if_pos h0, this, if_pos (by rw [ByteArray.toList_eq])]
  · have e0 : ¬ r.toList = [] := by
      rw [ByteArray.toList_eq]
      intro e
      have : r.data.toList.length = 0 := by rw [e]; rfl
      rw [Array.length_toList] at this
      exact h0 this
    rw [if_neg e0, if_neg h0, if_pos (by omega), wrap64_in (bt r 0) (by omega) (by omega), wrap64_in ((r.size : Int) - 1) (by omega) (by omega)]
    by_cases h1 : bt r 0 ≥ r.size
    · rw [if_pos (by omega), if_pos h1]
    · rw [if_neg (by omega), if_neg h1, Int.add_comm 1 (bt r 0)]
      simp only [wrap64_in (bt r 0 + 1) (by omega) (by omega)]
      repeat rw [if_pos (by omega)]
theorem rreply_no (id c : Int) (body : ByteArray) (h : ¬ (0 ≤ id ∧ id < 4294967296 ∧ 0 ≤ c ∧ c ≤ 255 ∧ body.size ≤ 100)) : P.bailiwickref21_Reply.f 42 id c body = some (⟨#[]⟩, false) := by
  unfold P.bailiwickref21_Reply.f P.bailiwickref21_in.f P.bailiwickref21_Reply.j0
  by_cases h1 : id ≥ 0
  · rw [if_pos h1, Option.bind_some]
    by_cases h2 : id ≤ 4294967295
    · rw [if_pos (decide_eq_true h2)]
      by_cases h3 : c ≥ 0
      · rw [if_pos h3, Option.bind_some]
        by_cases h4 : c ≤ 255
        · have h5 : (body.size : Int) > 100 := by omega
          simp [h4, h5]
        · simp [h4]
      · simp [h3]
    · rw [if_neg (by simp [h2])]
      simp
  · rw [if_neg h1]
    simp
theorem rnum_in (n : Int) (s : Nat) (hs : s = 1 ∨ s = 4) (h0 : 0 ≤ n) (h1 : n < 256 ^ s) : P.bailiwickref21_put.f 41 n s = some (strOfNums (be s n)) := by
  have e : P.bailiwickref21_put.f 40 n s = some (strOfNums (be s n)) := by
    rcases hs with rfl | rfl
    · have : n < 256 := h1
      rw [P.bailiwickref21_put.f, u64_in n h0 (by omega)]
      have p := rput1 n h0 (by omega)
      rw [if_pos this] at p
      have e : ((1 : Nat) : Int) = 1 := rfl
      rw [e, p]
      rfl
    · have : n < 4294967296 := by simpa using h1
      rw [P.bailiwickref21_put.f, u64_in n h0 (by omega)]
      have p := rput4 n h0 (by omega)
      rw [if_pos this] at p
      have e : ((4 : Nat) : Int) = 4 := rfl
      rw [e, p]
      rfl
  exact P.bailiwickref21_put.mono n s 40 _ e
theorem rtext_ok (nm : ByteArray) (h : nm.size ≤ 255) : P.bailiwickref01_Text.f nm = some (strOfNums [(nm.size : Int) % 256] ++ nm, true) := by
  rw [P.bailiwickref01_Text.f, if_neg (by omega), Option.bind_some, if_pos (by rw [strOfNums_size]; simp; omega)]
theorem one_be : (⟨#[1]⟩ : ByteArray) = strOfNums (be 1 1) := by decide
theorem rreply_yes (id c : Int) (body : ByteArray) (h : 0 ≤ id ∧ id < 4294967296 ∧ 0 ≤ c ∧ c ≤ 255 ∧ body.size ≤ 100) : P.bailiwickref21_Reply.f 42 id c body = some (rep id c body, true) := by
  obtain ⟨a1, a2, a3, a4, a5⟩ := h
  have n2 := rnum_in id 4 (.inr rfl) (by omega) (by simpa using a2)
  have n3 := rnum_in c 1 (.inl rfl) (by omega) (by omega)
  have t : P.bailiwickref21_text.f body = some (strOfNums [(body.size : Int) % 256] ++ body) := by rw [P.bailiwickref21_text.f, rtext_ok body (by omega)]; rfl
  have e1 : ((1 : Nat) : Int) = 1 := rfl
  have e4 : ((4 : Nat) : Int) = 4 := rfl
  rw [e1] at n3
  rw [e4] at n2
  have s1 : (strOfNums (be 1 1)).size = 1 := by rw [strOfNums_size, be_length]
  have s2 : (strOfNums (be 4 id)).size = 4 := by rw [strOfNums_size, be_length]
  have s3 : (strOfNums (be 1 c)).size = 1 := by rw [strOfNums_size, be_length]
  have s4 : (strOfNums [(body.size : Int) % 256]).size = 1 := by rw [strOfNums_size]; rfl
  unfold P.bailiwickref21_Reply.f P.bailiwickref21_in.f
  rw [if_pos (by omega), Option.bind_some, if_pos (decide_eq_true (by omega)), if_pos (by omega), Option.bind_some, if_pos (decide_eq_true (by omega)), P.bailiwickref21_Reply.j0, if_neg (by simp; omega), n2, Option.bind_some, if_pos (by omega), n3, Option.bind_some, one_be, if_pos (by rw [ByteArray.size_append]; omega), t, Option.bind_some, if_pos (by (repeat rw [ByteArray.size_append]); omega)]
  rfl
end Go.Proofs.YtfbcidfbgebbhaaGreat.Pure
