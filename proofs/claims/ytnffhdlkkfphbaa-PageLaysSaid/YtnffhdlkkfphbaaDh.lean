/-
  Plain words for the disk's laws: a byte as a text; the last bit; what a crash leaves of eight sectors.
  A disk beside blocks of its caller's.
-/
import Derived.Test.YtnffhdlkkfphbaaDf
namespace Go.Proofs.Ytnffhdlkkfphbaa.D
set_option linter.unusedVariables false
set_option linter.unusedSimpArgs false
open Go.RowKit Go.Proofs.YtnffhdlkkfphbaaW.PrintWords Go.Proofs.YtnffhdlkkfphbaaW.PrintLast Go.Proofs.YtnffhdlkkfphbaaW.PrintMore
open Go.Lib (hid)
theorem and_one (x : Int) : Go.bits .and .i64 x 1 = x % 2 := by
  have h : ((BitVec.ofInt 64 x) &&& (BitVec.ofInt 64 1)).toNat = (x % 2).toNat := by
    rw [BitVec.toNat_and, BitVec.toNat_ofInt]
    show (x % ((2 ^ 64 : Nat) : Int)).toNat &&& 1 = _
    rw [Nat.and_one_is_mod]
    have : ((2 ^ 64 : Nat) : Int) = 18446744073709551616 := by decide
    rw [this]
    omega
  show IntKind.i64.wrap (((BitVec.ofInt 64 x) &&& (BitVec.ofInt 64 1)).toNat : Int) = _
  rw [h, IntKind.wrap_i64]
  omega
theorem conv_byte (w : World) (n : Nat) (hn : n < 256) :
    (convert 35 9 (.slice (some ⟨w.heap.size, 0, none⟩) 1 1)).run Try.prog (w.alloc (.cells #[.int .u8 (n : Int)] 5)) = .ok (.string ⟨#[UInt8.ofNat n]⟩) (w.alloc (.cells #[.int .u8 (n : Int)] 5)) := by
  have hc : (w.alloc (.cells #[.int .u8 (n : Int)] 5)).heap[w.heap.size]? = some (.cells #[.int .u8 (n : Int)] 5 (0, 0)) := Array.getElem?_push_size
  have h := run_convert_bytes_arg (P := Try.prog) (w.alloc (.cells #[.int .u8 (n : Int)] 5)) 35 5 Try.underlying35 Try.underlying5 w.heap.size 0 1 1 [(n : Int)] (by simp) (fun i hi => by
    obtain rfl : i = 0 := by simp at hi; omega
    exact (blk_cell hc 0).trans rfl) 9 Try.underlying9
  rw [h]
  congr 2
theorem below_after {w W : World} (o : Obj) (h : Below (w.alloc o).heap.size (w.alloc o) W) : Below w.heap.size w W :=
  ((Below.refl w.heap.size w).alloc (Nat.le_refl _) o).trans (h.mono (by simp))
theorem tmod_two (x : Int) : x.tmod 2 = 0 ↔ x % 2 = 0 := by
  rw [← Int.dvd_iff_tmod_eq_zero, ← Int.dvd_iff_emod_eq_zero]
theorem loose_n {B d : Nat} {st : St} {n : Nat} (hn : st.loose.length = n) (hl : n ≤ 100000) (w : World) (h : DiskOn B w d st) :
    Calls Try.prog 30 #[.pointer (some ⟨d, 0, none⟩)] w fun e w' => ∃ A c, e = .returned (.slice A n c) ∧ Below w.heap.size w w' := by
  refine (Loose.calls _ d st w h (by omega)).mono ?_
  rintro e w' ⟨v, rfl, hR, hb⟩
  obtain ⟨A, c, rfl⟩ := Kd.R_slice hR
  rw [List.length_map, hn]
  exact ⟨A, c, rfl, hb⟩
/-- Eight sectors, written from the last one to the first. -/
def eight (A : Nat → ByteArray) (i : Nat) : List (Int × ByteArray) := (List.range i).map fun j => (((7 - j : Nat) : Int), A (7 - j))
theorem eight_succ (A : Nat → ByteArray) (i : Nat) : eight A (i + 1) = eight A i ++ [(((7 - i : Nat) : Int), A (7 - i))] := by
  unfold eight
  rw [List.range_succ, List.map_append]
  rfl
theorem eight_has (A : Nat → ByteArray) (i m : Nat) (hi : i ≤ 8) (hm : m < 8) : hasS (eight A i) ((7 - m : Nat) : Int) = decide (m < i) := by
  obtain rfl | rfl | rfl | rfl | rfl | rfl | rfl | rfl | rfl : i = 0 ∨ i = 1 ∨ i = 2 ∨ i = 3 ∨ i = 4 ∨ i = 5 ∨ i = 6 ∨ i = 7 ∨ i = 8 := by omega
  all_goals
    obtain rfl | rfl | rfl | rfl | rfl | rfl | rfl | rfl : m = 0 ∨ m = 1 ∨ m = 2 ∨ m = 3 ∨ m = 4 ∨ m = 5 ∨ m = 6 ∨ m = 7 := by omega
  all_goals rfl
theorem eight_get (A : Nat → ByteArray) (m : Nat) (hm : m < 8) : getS (eight A 8) ((7 - m : Nat) : Int) = A (7 - m) := by
  obtain rfl | rfl | rfl | rfl | rfl | rfl | rfl | rfl : m = 0 ∨ m = 1 ∨ m = 2 ∨ m = 3 ∨ m = 4 ∨ m = 5 ∨ m = 6 ∨ m = 7 := by omega
  all_goals rfl
theorem eight_key (A : Nat → ByteArray) (m : Nat) (hm : m < 8) : ((eight A 8).map Prod.fst).getD m 0 = ((7 - m : Nat) : Int) := by
  obtain rfl | rfl | rfl | rfl | rfl | rfl | rfl | rfl : m = 0 ∨ m = 1 ∨ m = 2 ∨ m = 3 ∨ m = 4 ∨ m = 5 ∨ m = 6 ∨ m = 7 := by omega
  all_goals rfl
theorem eight_len (A : Nat → ByteArray) (i : Nat) : (eight A i).length = i := by simp [eight]
theorem crash_len (L : List (Int × ByteArray)) (ks : List Int) (now : List ByteArray) : ∀ n, (crashN L ks now n).length = now.length
  | 0 => rfl
  | n + 1 => by
    unfold crashN
    split
    · rw [List.length_set]; exact crash_len L ks now n
    · exact crash_len L ks now n
theorem getD_set_ (l : List ByteArray) (i j : Nat) (x d : ByteArray) (h : i < l.length) : (l.set i x).getD j d = if i = j then x else l.getD j d := by
  simp only [List.getD_eq_getElem?_getD, List.getElem?_set, h]
  split <;> simp
theorem eight_crash (A : Nat → ByteArray) (ks : List Int) (now : List ByteArray) (hn : now.length = 8) (m : Nat) (hm : m < 8) :
    ∀ n, n ≤ 8 → (crashN (eight A 8) ks now n).getD (7 - m) ⟨#[]⟩ = if m < n ∧ lets ks m = true then A (7 - m) else now.getD (7 - m) ⟨#[]⟩
  | 0, _ => by rw [if_neg (by omega)]; rfl
  | n + 1, h => by
    have ih := eight_crash A ks now hn m hm n (by omega)
    unfold crashN
    rw [eight_key A n (by omega), eight_get A n (by omega), Int.toNat_natCast]
    cases hl : lets ks n with
    | false =>
      rw [if_neg (by decide), ih]
      by_cases h1 : m = n
      · subst h1
        rw [if_neg (by omega), if_neg (by rw [hl]; rintro ⟨_, h⟩; exact absurd h (by decide))]
      · by_cases h2 : m < n
        · simp [h2, show m < n + 1 by omega]
        · simp [h2, show ¬ m < n + 1 by omega]
    | true =>
      rw [if_pos rfl, getD_set_ _ _ _ _ _ (by rw [crash_len, hn]; omega)]
      by_cases h1 : m = n
      · subst h1
        rw [if_pos rfl, if_pos ⟨by omega, hl⟩]
      · rw [if_neg (by omega), ih]
        by_cases h2 : m < n
        · simp [h2, show m < n + 1 by omega]
        · simp [h2, show ¬ m < n + 1 by omega]
theorem writes_ok (st : St) (n : Int) (s : ByteArray) (hg : st.gone = false) (h0 : 0 ≤ n) (h1 : n < (st.now.length : Int)) (hs : s.size = 256) (hf : st.fuse ≠ 0) :
    writes st n s = (0, { st with fuse := max (-1) (st.fuse - 1), loose := if hasS st.loose n then st.loose else st.loose ++ [(n, st.now.getD n.toNat ⟨#[]⟩)], now := st.now.set n.toNat s }) := by
  unfold writes
  rw [hg, if_neg (by decide), if_neg (by omega), if_neg (by omega), if_neg hf]
theorem DiskAt.tight {F : Nat → Prop} {w : World} {d : Nat} {st : St} (h : DiskAt F w d st) : DiskAt (fun i => F i ∧ i < w.heap.size) w d st := by
  obtain ⟨gn, gm, ov, hd, hs, hm, ho, f1, f2, f3, r⟩ := h
  exact ⟨gn, gm, ov, hd, hs, hm, ⟨fun k hk => ⟨ho.1 k hk, Kd.R_lt ho k hk⟩, ho.2⟩, ⟨f1, blk_lt hd⟩, ⟨f2, blk_lt hs⟩, ⟨f3, hm.lt⟩, r⟩
/-- A disk that lies at B or above, in none of the blocks G. -/
def DiskOff (B : Nat) (G : Nat → Prop) (w : World) (d : Nat) (st : St) : Prop := DiskAt (fun i => (B ≤ i ∧ ¬ G i) ∧ i < w.heap.size) w d st
theorem DiskAt.off {B : Nat} {w : World} {d : Nat} {st : St} (h : DiskOn B w d st) : DiskOff B (fun _ => False) w d st :=
  h.tight.more (fun i hi => ⟨⟨hi.1, fun h => h⟩, hi.2⟩)
theorem DiskOff.step {B : Nat} {G G' : Nat → Prop} {w w' : World} {d : Nat} {st : St} (h : DiskOff B G w d st) (hb : ∀ i, i < w.heap.size → B ≤ i → ¬ G i → w'.heap[i]? = w.heap[i]?) (hs : w.heap.size ≤ w'.heap.size) (hG : ∀ i, i < w.heap.size → G' i → G i) : DiskOff B G' w' d st :=
  (h.moved (w' := w') (fun i hi hF => hb i hi hF.1.1 hF.1.2)).more (fun i hi => ⟨⟨hi.1.1, fun hg => hi.1.2 (hG i hi.2 hg)⟩, Nat.lt_of_lt_of_le hi.2 hs⟩)
theorem DiskOff.below {B : Nat} {G : Nat → Prop} {w w' : World} {d : Nat} {st : St} (h : DiskOff B G w d st) (hb : Below w.heap.size w w') : DiskOff B G w' d st :=
  h.step (fun i hi _ _ => hb.block i hi) hb.size (fun _ _ h => h)
theorem Fr.off {B : Nat} {G : Nat → Prop} {w w' : World} (h : Fr (fun i => ((B ≤ i ∧ ¬ G i) ∧ i < w.heap.size) ∨ w.heap.size ≤ i) w w') (hB : B ≤ w.heap.size) (hG : ∀ i, G i → i < w.heap.size) : Below B w w' ∧ ∀ i, G i → w'.heap[i]? = w.heap[i]? :=
  ⟨⟨h.os, h.tape, h.output, h.size, fun k hk => h.keep k (by omega) (by omega)⟩, fun i hi => h.keep i (hG i hi) (by have := hG i hi; rintro (⟨⟨_, h1⟩, _⟩ | h1); exact h1 hi; omega)⟩
theorem DiskAt.off_ {B : Nat} {G : Nat → Prop} {w w' : World} {d : Nat} {st : St} (h : DiskAt (fun i => ((B ≤ i ∧ ¬ G i) ∧ i < w.heap.size) ∨ w.heap.size ≤ i) w' d st) (hB : B ≤ w.heap.size) (hG : ∀ i, G i → i < w.heap.size) : DiskOff B G w' d st :=
  h.tight.more (fun i hi => ⟨⟨by rcases hi.1 with h | h; exact h.1.1; omega, fun hg => by rcases hi.1 with h | h; exact h.1.2 hg; have := hG i hg; omega⟩, hi.2⟩)
theorem Write.off (B : Nat) (G : Nat → Prop) (d : Nat) (st : St) (n : Int) (s : ByteArray) (w : World) (h : DiskOff B G w d st) (hB : B ≤ w.heap.size) (hG : ∀ i, G i → i < w.heap.size) (hll : st.loose.length ≤ 100000) :
    Calls Try.prog 23 #[.pointer (some ⟨d, 0, none⟩), .int .i64 n, .string s] w fun e w' => e = .returned (.int .i64 (writes st n s).1) ∧ DiskOff B G w' d (writes st n s).2 ∧ Below B w w' ∧ ∀ i, G i → w'.heap[i]? = w.heap[i]? := by
  refine (Write.calls _ d st n s w h hll).mono ?_
  rintro e w' ⟨rfl, h1, h2⟩
  exact ⟨rfl, h1.off_ hB hG, h2.off hB hG⟩
theorem Crash.off (B : Nat) (G : Nat → Prop) (d : Nat) (st : St) (Ak : Option Addr) (ck : Nat) (ks : List Int) (w : World) (h : DiskOff B G w d st) (hB : B ≤ w.heap.size) (hG : ∀ i, G i → i < w.heap.size) (hk : RowA w (fun i => B ≤ i) Ak ks) (hll : st.loose.length ≤ 100000) :
    Calls Try.prog 28 #[.pointer (some ⟨d, 0, none⟩), .slice Ak ks.length ck] w fun e w' => e = .returned (.tuple #[]) ∧ DiskOff B G w' d { now := crashN st.loose ks st.now st.loose.length, loose := [], fuse := -1, gone := false } ∧ Below B w w' ∧ ∀ i, G i → w'.heap[i]? = w.heap[i]? := by
  refine (Crash.calls _ d st Ak ck ks w h (hk.moved (fun _ _ _ => rfl) (fun i _ h h2 => h h2.1.1)) hll).mono ?_
  rintro e w' ⟨rfl, h1, h2⟩
  exact ⟨rfl, h1.off_ hB hG, h2.off hB hG⟩
theorem Read.off (B : Nat) (G : Nat → Prop) (d : Nat) (st : St) (n : Nat) (hn : n < st.now.length) (hg : st.gone = false) (w : World) (h : DiskOff B G w d st) :
    Calls Try.prog 24 #[.pointer (some ⟨d, 0, none⟩), .int .i64 (n : Int)] w fun e w' => e = .returned (.tuple #[.string (st.now.getD n ⟨#[]⟩), .int .i64 0]) ∧ w = w' := Read.ok _ d st n w h hg hn
/-- An array of texts of the caller's. -/
def StrsAt (w : World) (b t : Nat) (ws : List ByteArray) : Prop := w.heap[b]? = some (.cells (ws.map Value.string).toArray t (0, 0))
theorem StrsAt.set {w : World} {b t : Nat} {ws : List ByteArray} (h : StrsAt w b t ws) (n : Nat) (y : ByteArray) : StrsAt (w.setCell ⟨b, n, none⟩ (.string y)) b t (ws.set n y) := by
  have := blk_set h n (.string y)
  unfold StrsAt
  rw [List.map_set]
  simpa using this
theorem StrsAt.cell {w : World} {b t : Nat} {ws : List ByteArray} (h : StrsAt w b t ws) (n : Nat) (hn : n < ws.length) : w.cell? ⟨b, n, none⟩ = some (.string (ws.getD n ⟨#[]⟩)) := (blk_cell h n).trans (strs_at _ _ hn)
theorem StrsAt.kept {w w' : World} {b t : Nat} {ws : List ByteArray} (h : StrsAt w b t ws) (hb : w'.heap[b]? = w.heap[b]?) : StrsAt w' b t ws := hb.trans h
/-- A slice of texts that is read, below B. -/
def RowS (w : World) (B : Nat) (A : Option Addr) (ls : List ByteArray) : Prop :=
  ∀ i, i < ls.length → ∃ x, A = some x ∧ x.block < B ∧ w.cell? (x.add i) = some (.string (ls.getD i ⟨#[]⟩))
theorem RowS.below {w w' : World} {B : Nat} {A : Option Addr} {ls : List ByteArray} (h : RowS w B A ls) (hb : Below B w w') : RowS w' B A ls := fun i hi => by
  obtain ⟨x, h1, h2, h3⟩ := h i hi
  exact ⟨x, h1, h2, (cell_same (by rw [D.add_block]; exact hb.block _ h2)).trans h3⟩
/-- A row of texts among the arguments. -/
def IsStrs (w : World) (a : Option Addr) (len cap : Nat) (ss : List ByteArray) : Prop :=
  (a = none ∧ len = 0 ∧ cap = 0 ∧ ss = []) ∨
  ∃ x, a = some x ∧ len ≤ cap ∧ cap ≤ maxLen ∧ ss.length = cap ∧ (∀ i, i < ss.length → w.cell? (x.add i) = some (.string (ss.getD i ByteArray.empty))) ∧ ∀ s ∈ ss, s.size ≤ maxLen
theorem IsStrs.row {w : World} {a : Option Addr} {len cap : Nat} {zs : List ByteArray} (h : IsStrs w a len cap zs) : (zs.take len).length = len ∧ RowS w w.heap.size a (zs.take len) ∧ ∀ s ∈ zs.take len, s.size ≤ maxLen := by
  rcases h with ⟨rfl, rfl, rfl, rfl⟩ | ⟨x, rfl, h1, h2, h3, h4, h5⟩
  · exact ⟨rfl, fun i hi => absurd hi (Nat.not_lt_zero i), fun s hs => absurd hs List.not_mem_nil⟩
  · have hl : (zs.take len).length = len := by rw [List.length_take]; omega
    refine ⟨hl, fun i hi => ?_, fun s hs => h5 s (List.mem_of_mem_take hs)⟩
    rw [hl] at hi
    have hc := h4 i (by omega)
    have hlt := cell_lt hc
    rw [D.add_block] at hlt
    refine ⟨x, rfl, hlt, ?_⟩
    rw [hc]
    simp [List.getD_eq_getElem?_getD, hi]
    rfl
end Go.Proofs.Ytnffhdlkkfphbaa.D
