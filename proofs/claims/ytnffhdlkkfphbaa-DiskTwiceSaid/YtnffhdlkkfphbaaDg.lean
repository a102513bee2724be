/-
  Plain words for the disk's laws: a byte as a text; the last bit; what a crash leaves of eight sectors.
-/
import Derived.Test.YtnffhdlkkfphbaaDf
namespace Go.Proofs.Ytnffhdlkkfphbaa.D
set_option linter.unusedVariables false
set_option linter.unusedSimpArgs false
open Go.RowKit Go.Proofs.YtnffhdlkkfphbaaW.PrintWords Go.Proofs.YtnffhdlkkfphbaaW.PrintLast Go.Proofs.YtnffhdlkkfphbaaW.PrintMore
open Go.Lib (hid)
theorem and_one (x : Int) : Go.bits .and .i64 x 1 = x % 2 := by
  have h : ((BitVec.ofInt 64 x) &&& (BitVec.ofInt 64 1)).toNat = (x % 2).toNat := by
    rw [BitVec.toNat_and, BitVec.toNat_ofInt]
    show (x % ((2 ^ 64 : Nat) : Int)).toNat &&& 1 = _
    rw [Nat.and_one_is_mod]
    have : ((2 ^ 64 : Nat) : Int) = 18446744073709551616 := by decide
    rw [this]
    omega
  show IntKind.i64.wrap (((BitVec.ofInt 64 x) &&& (BitVec.ofInt 64 1)).toNat : Int) = _
  rw [h, IntKind.wrap_i64]
  omega
theorem conv_byte (w : World) (n : Nat) (hn : n < 256) :
    (convert 35 9 (.slice (some ⟨w.heap.size, 0, none⟩) 1 1)).run Try.prog (w.alloc (.cells #[.int .u8 (n : Int)] 5)) = .ok (.string ⟨#[UInt8.ofNat n]⟩) (w.alloc (.cells #[.int .u8 (n : Int)] 5)) := by
  have hc : (w.alloc (.cells #[.int .u8 (n : Int)] 5)).heap[w.heap.size]? = some (.cells #[.int .u8 (n : Int)] 5 (0, 0)) := Array.getElem?_push_size
  have h := run_convert_bytes_arg (P := Try.prog) (w.alloc (.cells #[.int .u8 (n : Int)] 5)) 35 5 Try.underlying35 Try.underlying5 w.heap.size 0 1 1 [(n : Int)] (by simp) (fun i hi => by
    obtain rfl : i = 0 := by simp at hi; omega
    exact (blk_cell hc 0).trans rfl) 9 Try.underlying9
  rw [h]
  congr 2
theorem below_after {w W : World} (o : Obj) (h : Below (w.alloc o).heap.size (w.alloc o) W) : Below w.heap.size w W :=
  ((Below.refl w.heap.size w).alloc (Nat.le_refl _) o).trans (h.mono (by simp))
theorem tmod_two (x : Int) : x.tmod 2 = 0 ↔ x % 2 = 0 := by
  rw [← Int.dvd_iff_tmod_eq_zero, ← Int.dvd_iff_emod_eq_zero]
theorem loose_n {B d : Nat} {st : St} {n : Nat} (hn : st.loose.length = n) (hl : n ≤ 100000) (w : World) (h : DiskOn B w d st) :
    Calls Try.prog 30 #[.pointer (some ⟨d, 0, none⟩)] w fun e w' => ∃ A c, e = .returned (.slice A n c) ∧ Below w.heap.size w w' := by
  refine (Loose.calls _ d st w h (by omega)).mono ?_
  rintro e w' ⟨v, rfl, hR, hb⟩
  obtain ⟨A, c, rfl⟩ := Kd.R_slice hR
  rw [List.length_map, hn]
  exact ⟨A, c, rfl, hb⟩
/-- Eight sectors, written from the last one to the first. -/
def eight (A : Nat → ByteArray) (i : Nat) : List (Int × ByteArray) := (List.range i).map fun j => (((7 - j : Nat) : Int), A (7 - j))
theorem eight_succ (A : Nat → ByteArray) (i : Nat) : eight A (i + 1) = eight A i ++ [(((7 - i : Nat) : Int), A (7 - i))] := by
  unfold eight
  rw [List.range_succ, List.map_append]
  rfl
theorem eight_has (A : Nat → ByteArray) (i m : Nat) (hi : i ≤ 8) (hm : m < 8) : hasS (eight A i) ((7 - m : Nat) : Int) = decide (m < i) := by
  obtain rfl | rfl | rfl | rfl | rfl | rfl | rfl | rfl | rfl : i = 0 ∨ i = 1 ∨ i = 2 ∨ i = 3 ∨ i = 4 ∨ i = 5 ∨ i = 6 ∨ i = 7 ∨ i = 8 := by omega
  all_goals
    obtain rfl | rfl | rfl | rfl | rfl | rfl | rfl | rfl : m = 0 ∨ m = 1 ∨ m = 2 ∨ m = 3 ∨ m = 4 ∨ m = 5 ∨ m = 6 ∨ m = 7 := by omega
  all_goals rfl
theorem eight_get (A : Nat → ByteArray) (m : Nat) (hm : m < 8) : getS (eight A 8) ((7 - m : Nat) : Int) = A (7 - m) := by
  obtain rfl | rfl | rfl | rfl | rfl | rfl | rfl | rfl : m = 0 ∨ m = 1 ∨ m = 2 ∨ m = 3 ∨ m = 4 ∨ m = 5 ∨ m = 6 ∨ m = 7 := by omega
  all_goals rfl
theorem eight_key (A : Nat → ByteArray) (m : Nat) (hm : m < 8) : ((eight A 8).map Prod.fst).getD m 0 = ((7 - m : Nat) : Int) := by
  obtain rfl | rfl | rfl | rfl | rfl | rfl | rfl | rfl : m = 0 ∨ m = 1 ∨ m = 2 ∨ m = 3 ∨ m = 4 ∨ m = 5 ∨ m = 6 ∨ m = 7 := by omega
  all_goals rfl
theorem eight_len (A : Nat → ByteArray) (i : Nat) : (eight A i).length = i := by simp [eight]
theorem crash_len (L : List (Int × ByteArray)) (ks : List Int) (now : List ByteArray) : ∀ n, (crashN L ks now n).length = now.length
  | 0 => rfl
  | n + 1 => by
    unfold crashN
    split
    · rw [List.length_set]; exact crash_len L ks now n
    · exact crash_len L ks now n
theorem getD_set_ (l : List ByteArray) (i j : Nat) (x d : ByteArray) (h : i < l.length) : (l.set i x).getD j d = if i = j then x else l.getD j d := by
  simp only [List.getD_eq_getElem?_getD, List.getElem?_set, h]
  split <;> simp
theorem eight_crash (A : Nat → ByteArray) (ks : List Int) (now : List ByteArray) (hn : now.length = 8) (m : Nat) (hm : m < 8) :
    ∀ n, n ≤ 8 → (crashN (eight A 8) ks now n).getD (7 - m) ⟨#[]⟩ = if m < n ∧ lets ks m = true then A (7 - m) else now.getD (7 - m) ⟨#[]⟩
  | 0, _ => by rw [if_neg (by omega)]; rfl
  | n + 1, h => by
    have ih := eight_crash A ks now hn m hm n (by omega)
    unfold crashN
    rw [eight_key A n (by omega), eight_get A n (by omega), Int.toNat_natCast]
    cases hl : lets ks n with
    | false =>
      rw [if_neg (by decide), ih]
      by_cases h1 : m = n
      · subst h1
        rw [if_neg (by omega), if_neg (by rw [hl]; rintro ⟨_, h⟩; exact absurd h (by decide))]
      · by_cases h2 : m < n
        · simp [h2, show m < n + 1 by omega]
        · simp [h2, show ¬ m < n + 1 by omega]
    | true =>
      rw [if_pos rfl, getD_set_ _ _ _ _ _ (by rw [crash_len, hn]; omega)]
      by_cases h1 : m = n
      · subst h1
        rw [if_pos rfl, if_pos ⟨by omega, hl⟩]
      · rw [if_neg (by omega), ih]
        by_cases h2 : m < n
        · simp [h2, show m < n + 1 by omega]
        · simp [h2, show ¬ m < n + 1 by omega]
theorem writes_ok (st : St) (n : Int) (s : ByteArray) (hg : st.gone = false) (h0 : 0 ≤ n) (h1 : n < (st.now.length : Int)) (hs : s.size = 256) (hf : st.fuse ≠ 0) :
    writes st n s = (0, { st with fuse := max (-1) (st.fuse - 1), loose := if hasS st.loose n then st.loose else st.loose ++ [(n, st.now.getD n.toNat ⟨#[]⟩)], now := st.now.set n.toNat s }) := by
  unfold writes
  rw [hg, if_neg (by decide), if_neg (by omega), if_neg (by omega), if_neg hf]
end Go.Proofs.Ytnffhdlkkfphbaa.D
