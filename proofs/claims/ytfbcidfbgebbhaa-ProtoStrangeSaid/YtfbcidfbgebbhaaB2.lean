/-
  What Reply and TakeReply answer, in all.
-/
import Derived.Test.YtfbcidfbgebbhaaB1
import Derived.Test.YtfbcidfbgebbhaaA4
namespace Go.Proofs.Ytfbcidfbgebbhaa.Pure
set_option linter.unusedVariables false
set_option linter.unusedSimpArgs false
open Go.RowKit Go.Proofs.YtfbcidfbgebbhaaW.PrintWords Go.Proofs.YtfbcidfbgebbhaaW.PrintLast Go.Proofs.YtfbcidfbgebbhaaW.PrintMore
/-- The text of an answer. -/
def rep (id c : Int) (body : ByteArray) : ByteArray := strOfNums (be 1 1) ++ strOfNums (be 4 id) ++ strOfNums (be 1 c) ++ (strOfNums [(body.size : Int) % 256] ++ body)
theorem reply_no (id c : Int) (body : ByteArray) (h : ¬ (0 ≤ id ∧ id < 4294967296 ∧ 0 ≤ c ∧ c ≤ 255 ∧ body.size ≤ 100)) : P.proto_Reply.f 42 id c body = some (⟨#[]⟩, 1) := by
  unfold P.proto_Reply.f P.proto_idRight.f P.proto_Reply.j0
  by_cases h1 : id ≥ 0
  · rw [if_pos h1, Option.bind_some]
    by_cases h2 : id < 4294967296
    · rw [if_pos (decide_eq_true h2)]
      by_cases h3 : c < 0
      · simp [h3]
      · by_cases h4 : c > 255
        · simp [h3, h4]
        · have h5 : (body.size : Int) > 100 := by omega
          simp [h3, h4, h5]
    · rw [if_neg (by simp [h2])]
      simp
  · rw [if_neg h1]
    simp
theorem num_in (n : Int) (s : Nat) (hs : s = 1 ∨ s = 4) (h0 : 0 ≤ n) (h1 : n < 256 ^ s) : P.proto_number.f 40 n s = some (strOfNums (be s n)) ∧ P.proto_number.f 41 n s = some (strOfNums (be s n)) := by
  have e : P.proto_number.f 40 n s = some (strOfNums (be s n)) := by
    rcases hs with rfl | rfl
    · have : n < 256 := h1
      rw [P.proto_number.f, u64_in n h0 (by omega)]
      have p := put1 n h0 (by omega)
      rw [if_pos this] at p
      have e : ((1 : Nat) : Int) = 1 := rfl
      rw [e, p]
      rfl
    · have : n < 4294967296 := by simpa using h1
      rw [P.proto_number.f, u64_in n h0 (by omega)]
      have p := put4 n h0 (by omega)
      rw [if_pos this] at p
      have e : ((4 : Nat) : Int) = 4 := rfl
      rw [e, p]
      rfl
  exact ⟨e, P.proto_number.mono n s 40 _ e⟩
theorem reply_yes (id c : Int) (body : ByteArray) (h : 0 ≤ id ∧ id < 4294967296 ∧ 0 ≤ c ∧ c ≤ 255 ∧ body.size ≤ 100) : P.proto_Reply.f 42 id c body = some (rep id c body, 0) := by
  obtain ⟨a1, a2, a3, a4, a5⟩ := h
  have n1 := (num_in 1 1 (.inl rfl) (by omega) (by omega)).2
  have n2 := (num_in id 4 (.inr rfl) (by omega) (by simpa using a2)).2
  have n3 := (num_in c 1 (.inl rfl) (by omega) (by omega)).2
  have t : P.proto_text.f body = some (strOfNums [(body.size : Int) % 256] ++ body) := by rw [P.proto_text.f, text_ok body (by omega)]; rfl
  have e1 : ((1 : Nat) : Int) = 1 := rfl
  have e4 : ((4 : Nat) : Int) = 4 := rfl
  rw [e1] at n1 n3
  rw [e4] at n2
  have s1 : (strOfNums (be 1 1)).size = 1 := by rw [strOfNums_size, be_length]
  have s2 : (strOfNums (be 4 id)).size = 4 := by rw [strOfNums_size, be_length]
  have s3 : (strOfNums (be 1 c)).size = 1 := by rw [strOfNums_size, be_length]
  have s4 : (strOfNums [(body.size : Int) % 256]).size = 1 := by rw [strOfNums_size]; rfl
  unfold P.proto_Reply.f P.proto_idRight.f
  rw [if_pos (by omega), Option.bind_some, if_pos (decide_eq_true a2), if_neg (by omega), if_neg (by omega), P.proto_Reply.j0, if_neg (by simp; omega), n1, Option.bind_some, n2, Option.bind_some, if_pos (by omega), n3, Option.bind_some, if_pos (by rw [ByteArray.size_append]; omega), t, Option.bind_some, if_pos (by (repeat rw [ByteArray.size_append]); omega)]
  rfl
/-- What is read of any text: what was written, or nothing. -/
theorem take_total (b : ByteArray) (hb : b.size ≤ 140737488351232) : ∃ n c t f u g, (∀ W : World, Calls Try.prog 14 #[.string b] W fun r w' => r = .returned (.tuple #[.int .i64 n, .int .i64 c, .string t, .int .i64 f]) ∧ Below W.heap.size W w') ∧ P.proto_Reply.f 42 n c t = some (u, g) ∧ ((f = 0 ∧ g = 0 ∧ u = b) ∨ f = 2) := by
  have e1 : ((1 : Nat) : Int) = 1 := rfl
  have e4 : ((4 : Nat) : Int) = 4 := rfl
  obtain ⟨x0, b1, e0, h0, z1⟩ := take_some b 1 (by omega) (by omega)
  obtain ⟨id, b2, ee1, h1, z2⟩ := take_some b1 4 (by omega) (by omega)
  obtain ⟨c, b3, ee2, h2, z3⟩ := take_some b2 1 (by omega) (by omega)
  have ri : 0 ≤ id ∧ id < 4294967296 := by
    have t := takeN b1 4 (by omega) (by omega)
    rw [h1] at t
    have d := de_lt b1 4
    split at t
    · injection t with t; injection t with t1 t2; omega
    · injection t with t; injection t with t1 t2; omega
  have rc : 0 ≤ c ∧ c < 256 := by
    have t := takeN b2 1 (by omega) (by omega)
    rw [h2] at t
    have d := de_lt b2 1
    split at t
    · injection t with t; injection t with t1 t2; omega
    · injection t with t; injection t with t1 t2; omega
  obtain ⟨body, b4, ee3, h3⟩ : ∃ body b4 e3, P.num_TakeText.f b3 = some (body, b4, e3) := by
    rw [takeText_eq b3 (by omega)]
    split
    · exact ⟨_, _, _, rfl⟩
    · split <;> exact ⟨_, _, _, rfl⟩
  obtain ⟨s, e, hR⟩ : ∃ s e, P.proto_Reply.f 42 id c body = some (s, e) := by
    by_cases h : 0 ≤ id ∧ id < 4294967296 ∧ 0 ≤ c ∧ c ≤ 255 ∧ body.size ≤ 100
    · exact ⟨_, _, reply_yes _ _ _ h⟩
    · exact ⟨_, _, reply_no _ _ _ h⟩
  rw [e1] at h0 h2
  rw [e4] at h1
  have T := fun W => A.TakeReply.calls 42 b x0 b1 e0 id b2 ee1 c b3 ee2 body b4 ee3 s e W h0 h1 h2 h3 hR ri rc _ rfl
  by_cases hok : ((((false || (e0 != 0)) || (ee1 != 0)) || (ee2 != 0)) || (ee3 != 0)) = false ∧ e = 0 ∧ s = b
  · simp only [if_pos hok] at T
    exact ⟨id, c, body, 0, s, e, T, hR, .inl ⟨rfl, hok.2.1, hok.2.2⟩⟩
  · simp only [if_neg hok] at T
    exact ⟨0, 0, ⟨#[]⟩, 2, _, _, T, reply_yes 0 0 _ (by decide), .inr rfl⟩
/-- What was written is read as it was. -/
theorem take_back (id c : Int) (body : ByteArray) (h : 0 ≤ id ∧ id < 4294967296 ∧ 0 ≤ c ∧ c ≤ 255 ∧ body.size ≤ 100) (W : World) : Calls Try.prog 14 #[.string (rep id c body)] W fun r w' => r = .returned (.tuple #[.int .i64 id, .int .i64 c, .string body, .int .i64 0]) ∧ Below W.heap.size W w' := by
  obtain ⟨a1, a2, a3, a4, a5⟩ := h
  have x0 := take_put 1 1 (strOfNums (be 4 id) ++ (strOfNums (be 1 c) ++ (strOfNums [(body.size : Int) % 256] ++ body))) (by omega) (by omega) (by omega) (by omega)
  have x1 := take_put 4 id (strOfNums (be 1 c) ++ (strOfNums [(body.size : Int) % 256] ++ body)) (by omega) (by omega) (by omega) (by simpa using a2)
  have x2 := take_put 1 c (strOfNums [(body.size : Int) % 256] ++ body) (by omega) (by omega) (by omega) (by omega)
  have x3 := text_back body (by omega)
  have e1 : ((1 : Nat) : Int) = 1 := rfl
  have e4 : ((4 : Nat) : Int) = 4 := rfl
  rw [e1] at x0 x2
  rw [e4] at x1
  rw [← app_assoc, ← app_assoc] at x0
  have T := A.TakeReply.calls 42 (rep id c body) _ _ _ _ _ _ _ _ _ _ _ _ _ _ W x0 x1 x2 x3 (reply_yes id c body ⟨a1, a2, a3, a4, a5⟩) ⟨a1, a2⟩ ⟨a3, by omega⟩ _ rfl
  rw [if_pos ⟨rfl, rfl, rfl⟩] at T
  exact T
end Go.Proofs.Ytfbcidfbgebbhaa.Pure
