/-
  Both readings of any text.
-/
import Derived.Test.YtfbcidfbgebbhaaGreatB3
import Derived.Test.YtfbcidfbgebbhaaGreatA6
namespace Go.Proofs.YtfbcidfbgebbhaaGreat.Pure
set_option linter.unusedVariables false
set_option linter.unusedSimpArgs false
open Go.RowKit Go.Proofs.YtfbcidfbgebbhaaGreatW.PrintWords Go.Proofs.YtfbcidfbgebbhaaGreatW.PrintLast Go.Proofs.YtfbcidfbgebbhaaGreatW.PrintMore
theorem both_take (b : ByteArray) (s : Nat) (h1 : 1 ≤ s) (h8 : s ≤ 8) : ∃ n r e, P.num_Take.f 40 b s = some (n, r, e) ∧ P.bailiwickref01_Take.f 40 b s = some (n, r, e) ∧ r.size ≤ b.size ∧ 0 ≤ n ∧ n < 256 ^ s := by
  have t := takeN b s h1 h8
  have u := rtakeN b s h1 h8
  have d := de_lt b s
  by_cases hs : b.size < s
  · rw [if_pos hs] at t u
    exact ⟨_, _, _, t, u, Nat.zero_le _, Int.le_refl _, by omega⟩
  · rw [if_neg hs] at t u
    exact ⟨_, _, _, t, u, by rw [ByteArray.size_extract]; omega, d⟩
theorem both_total (b : ByteArray) (hb : b.size ≤ 140737488351232) : ∃ id c body f is, (∀ W : World, Calls Tryz.prog 12 #[.string b] W fun r w' => r = .returned (.tuple #[.int .i64 id, .int .i64 c, .string body, .int .i64 f]) ∧ Below W.heap.size W w') ∧ (∀ W : World, Calls Tryz.prog 13 #[.string b] W fun r w' => r = .returned (.tuple #[.int .i64 id, .int .i64 c, .string body, .bool is]) ∧ Below W.heap.size W w') ∧ ((f = 0 ∧ is = true) ∨ (f = 2 ∧ is = false)) := by
  have e1 : ((1 : Nat) : Int) = 1 := rfl
  have e4 : ((4 : Nat) : Int) = 4 := rfl
  obtain ⟨x0, b1, e0, h0, g0, z1, rx⟩ := both_take b 1 (by omega) (by omega)
  obtain ⟨id, b2, ee1, h1, g1, z2, ri⟩ := both_take b1 4 (by omega) (by omega)
  obtain ⟨c, b3, ee2, h2, g2, z3, rc⟩ := both_take b2 1 (by omega) (by omega)
  have ri2 : 0 ≤ id ∧ id < 4294967296 := ⟨ri.1, by simpa using ri.2⟩
  have rc2 : 0 ≤ c ∧ c < 256 := ⟨rc.1, by simpa using rc.2⟩
  have rx2 : 0 ≤ x0 ∧ x0 < 256 := ⟨rx.1, by simpa using rx.2⟩
  obtain ⟨body, b4, ee3, ok3, h3, g3, h33⟩ : ∃ body b4 e3 ok, P.num_TakeText.f b3 = some (body, b4, e3) ∧ P.bailiwickref01_TakeText.f b3 = some (body, b4, ok) ∧ (e3 != 0) = !ok := by
    rw [takeText_eq b3 (by omega), rtakeText_eq b3 (by omega)]
    split
    · exact ⟨_, _, _, _, rfl, rfl, rfl⟩
    · split <;> exact ⟨_, _, _, _, rfl, rfl, rfl⟩
  obtain ⟨s, e, ok, hR, gR, heq⟩ : ∃ s e ok, P.proto_Reply.f 42 id c body = some (s, e) ∧ P.bailiwickref21_Reply.f 42 id c body = some (s, ok) ∧ ((e = 0) = (ok = true)) := by
    by_cases h : 0 ≤ id ∧ id < 4294967296 ∧ 0 ≤ c ∧ c ≤ 255 ∧ body.size ≤ 100
    · exact ⟨_, _, _, reply_yes _ _ _ h, rreply_yes _ _ _ h, by simp⟩
    · exact ⟨_, _, _, reply_no _ _ _ h, rreply_no _ _ _ h, by simp⟩
  rw [e1] at h0 h2 g0 g2
  rw [e4] at h1 g1
  have T := fun W => A.TakeReply.calls 42 b x0 b1 e0 id b2 ee1 c b3 ee2 body b4 ee3 s e W h0 h1 h2 h3 hR ri2 rc2 _ rfl
  have T' := fun W => A.RTakeReply.calls 42 b x0 b1 e0 id b2 ee1 c b3 ee2 body b4 ok3 s ok W g0 g1 g2 g3 gR rx2 ri2 rc2 _ rfl
  rw [← h33] at T'
  by_cases hok : ((((false || (e0 != 0)) || (ee1 != 0)) || (ee2 != 0)) || (ee3 != 0)) = false ∧ e = 0 ∧ s = b
  · have hok' : ((((false || (e0 != 0)) || (ee1 != 0)) || (ee2 != 0)) || (ee3 != 0)) = false ∧ ok = true ∧ s = b := ⟨hok.1, heq ▸ hok.2.1, hok.2.2⟩
    simp only [if_pos hok] at T
    simp only [if_pos hok'] at T'
    exact ⟨id, c, body, 0, true, T, T', .inl ⟨rfl, rfl⟩⟩
  · have hok' : ¬ (((((false || (e0 != 0)) || (ee1 != 0)) || (ee2 != 0)) || (ee3 != 0)) = false ∧ ok = true ∧ s = b) := fun h => hok ⟨h.1, heq.symm ▸ h.2.1, h.2.2⟩
    simp only [if_neg hok] at T
    simp only [if_neg hok'] at T'
    exact ⟨0, 0, ⟨#[]⟩, 2, false, T, T', .inr ⟨rfl, rfl⟩⟩
end Go.Proofs.YtfbcidfbgebbhaaGreat.Pure
