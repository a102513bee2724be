/-
  A disk's Write and Read, each in one contract.
-/
import Derived.Test.YtnffhdlkkfphbaaD9
namespace Go.Proofs.Ytnffhdlkkfphbaa.D
set_option linter.unusedVariables false
set_option linter.unusedSimpArgs false
open Go.RowKit Go.Proofs.YtnffhdlkkfphbaaW.PrintWords Go.Proofs.YtnffhdlkkfphbaaW.PrintLast Go.Proofs.YtnffhdlkkfphbaaW.PrintMore
open Go.Lib (hid)
/-- What a Write answers, and what the disk is then. -/
def writes (st : St) (n : Int) (s : ByteArray) : Int × St :=
  if st.gone then (5, st)
  else if n < 0 ∨ (st.now.length : Int) ≤ n then (1, st)
  else if s.size ≠ 256 then (1, st)
  else if st.fuse = 0 then (5, { st with gone := true })
  else (0, { st with fuse := max (-1) (st.fuse - 1), loose := if hasS st.loose n then st.loose else st.loose ++ [(n, st.now.getD n.toNat ⟨#[]⟩)], now := st.now.set n.toNat s })
theorem Write.calls (F : Nat → Prop) (d : Nat) (st : St) (n : Int) (s : ByteArray) (w : World) (h : DiskAt F w d st) (hll : st.loose.length ≤ 100000) :
    Calls Try.prog 23 #[.pointer (some ⟨d, 0, none⟩), .int .i64 n, .string s] w fun e w' => e = .returned (.int .i64 (writes st n s).1) ∧ DiskAt (fun i => F i ∨ w.heap.size ≤ i) w' d (writes st n s).2 ∧ Fr (fun i => F i ∨ w.heap.size ≤ i) w w' := by
  have hsame : ∀ r, r = (writes st n s).1 → (writes st n s).2 = st → Calls Try.prog 23 #[.pointer (some ⟨d, 0, none⟩), .int .i64 n, .string s] w (fun e w' => e = .returned (.int .i64 r) ∧ w = w') →
      Calls Try.prog 23 #[.pointer (some ⟨d, 0, none⟩), .int .i64 n, .string s] w fun e w' => e = .returned (.int .i64 (writes st n s).1) ∧ DiskAt (fun i => F i ∨ w.heap.size ≤ i) w' d (writes st n s).2 ∧ Fr (fun i => F i ∨ w.heap.size ≤ i) w w' := by
    intro r h1 h2 hc
    refine hc.mono ?_
    rintro e w' ⟨rfl, rfl⟩
    rw [h2, ← h1]
    exact ⟨rfl, h.more (fun _ h => .inl h), Fr.refl _ _⟩
  by_cases hg : st.gone = true
  · exact hsame 5 (by simp [writes, hg]) (by simp [writes, hg]) (Write.no d n 5 (by decide) s w (may.gone_ F d st n w h hg))
  · have hg : st.gone = false := by simpa using hg
    by_cases h0 : n < 0
    · exact hsame 1 (by simp [writes, hg, h0]) (by simp [writes, hg, h0]) (Write.no d n 1 (by decide) s w (may.low F d st n w h hg h0))
    · by_cases h1 : n < (st.now.length : Int)
      · obtain ⟨m, rfl⟩ : ∃ m : Nat, n = (m : Int) := ⟨n.toNat, by omega⟩
        have hm : m < st.now.length := by omega
        have hr : ¬ ((m : Int) < 0 ∨ (st.now.length : Int) ≤ (m : Int)) := by omega
        by_cases hs : s.size = 256
        · by_cases hf : st.fuse = 0
          · refine (Write.down F d st m s hs w h hg hm hf).mono ?_
            rintro e w' ⟨rfl, h1, h2⟩
            have e : writes st (m : Int) s = (5, { st with gone := true }) := by
              unfold writes
              rw [hg, if_neg (by decide), if_neg hr, if_neg (by omega), if_pos hf]
            rw [e]
            exact ⟨rfl, h1.more (fun _ h => .inl h), h2.more (fun _ h => .inl h)⟩
          · by_cases hl : hasS st.loose (m : Int) = true
            · refine (Write.again F d st m s hs w h hg hm hf hl).mono ?_
              rintro e w' ⟨rfl, h1, h2⟩
              have e : writes st (m : Int) s = (0, { st with fuse := max (-1) (st.fuse - 1), now := st.now.set m s }) := by
                unfold writes
                rw [hg, if_neg (by decide), if_neg hr, if_neg (by omega), if_neg hf, if_pos hl, Int.toNat_natCast, ← hg]
              rw [e]
              exact ⟨rfl, h1.more (fun _ h => .inl h), h2.more (fun _ h => .inl h)⟩
            · have hl' : hasS st.loose (m : Int) = false := by simpa using hl
              refine (Write.first F d st m s hs w h hg hm hf hl' hll).mono ?_
              rintro e w' ⟨rfl, h1, h2⟩
              have e : writes st (m : Int) s = (0, { st with fuse := max (-1) (st.fuse - 1), loose := st.loose ++ [((m : Int), st.now.getD m ⟨#[]⟩)], now := st.now.set m s }) := by
                unfold writes
                rw [hg, if_neg (by decide), if_neg hr, if_neg (by omega), if_neg hf, if_neg hl, Int.toNat_natCast, ← hg]
              rw [e]
              exact ⟨rfl, h1, h2⟩
        · have e : writes st (m : Int) s = (1, st) := by
            unfold writes
            rw [hg, if_neg (by decide), if_neg hr, if_pos hs]
          exact hsame 1 (by rw [e]) (by rw [e]) (Write.size F d st m s hs w h hg hm)
      · have e : writes st n s = (1, st) := by
          unfold writes
          rw [hg, if_neg (by decide), if_pos (.inr (by omega))]
        exact hsame 1 (by rw [e]) (by rw [e]) (Write.no d n 1 (by decide) s w (may.high F d st n w h hg (by omega) h1))
/-- What a Read answers. -/
def reads (st : St) (n : Int) : ByteArray × Int :=
  if st.gone then (⟨#[]⟩, 5) else if n < 0 ∨ (st.now.length : Int) ≤ n then (⟨#[]⟩, 1) else (st.now.getD n.toNat ⟨#[]⟩, 0)
theorem Read.calls (F : Nat → Prop) (d : Nat) (st : St) (n : Int) (w : World) (h : DiskAt F w d st) :
    Calls Try.prog 24 #[.pointer (some ⟨d, 0, none⟩), .int .i64 n] w fun e w' => e = .returned (.tuple #[.string (reads st n).1, .int .i64 (reads st n).2]) ∧ w = w' := by
  by_cases hg : st.gone = true
  · have e : reads st n = (⟨#[]⟩, 5) := by simp [reads, hg]
    rw [e]
    exact Read.no F d st n 5 (by decide) w (may.gone_ F d st n w h hg)
  · have hg : st.gone = false := by simpa using hg
    by_cases h0 : n < 0
    · have e : reads st n = (⟨#[]⟩, 1) := by simp [reads, hg, h0]
      rw [e]
      exact Read.no F d st n 1 (by decide) w (may.low F d st n w h hg h0)
    · by_cases h1 : n < (st.now.length : Int)
      · obtain ⟨m, rfl⟩ : ∃ m : Nat, n = (m : Int) := ⟨n.toNat, by omega⟩
        have e : reads st (m : Int) = (st.now.getD m ⟨#[]⟩, 0) := by
          unfold reads
          rw [hg, if_neg (by decide), if_neg (by omega), Int.toNat_natCast]
        rw [e]
        exact Read.ok F d st m w h hg (by omega)
      · have e : reads st n = (⟨#[]⟩, 1) := by
          unfold reads
          rw [hg, if_neg (by decide), if_pos (.inr (by omega))]
        rw [e]
        exact Read.no F d st n 1 (by decide) w (may.high F d st n w h hg (by omega) h1)
end Go.Proofs.Ytnffhdlkkfphbaa.D
