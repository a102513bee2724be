/-
  What this session proved by hand beside the print, for the parts of a request: 'string(runes)' of a row of the call's own; the contract of rights.Parse.
-/
import Derived.Test.YtfbcidfbgebbhaaProg
import Derived.Test.YtfbcidfbgebbhaaWWords
import Derived.Laws.Cover4
import Derived.Lib.OthersKept
import Derived.Lib.Hide
import Derived.WalkKit
import Derived.WalkSpells
import Derived.WalkLawsBesides
namespace Go.Proofs.Ytfbcidfbgebbhaa.Q
open Go.RowKit Go.Proofs.YtfbcidfbgebbhaaW.PrintWords
open Go.Lib (hid)

theorem own_runes {P : Program} {w : World} {base n : Nat} {e' src dst e : TypeId} {v : Value} {xs : List Int} (hs : P.underlying src = some (.slice e)) (he : P.underlying e = some (.int .i32)) (hd : P.underlying dst = some .string)
    (h : w.ownsRow base e' 1 v n (nums .i32 xs)) : (convert src dst v).run P w = .ok (.string (Go.runesBytes xs)) w := by
  have hl : xs.length = n := by have := h.1; simp [nums] at this; exact this
  rcases h.2 with ⟨rfl, rfl⟩ | ⟨g, cap, cur, rfl, _⟩
  · obtain rfl : xs = [] := List.eq_nil_of_length_eq_zero hl
    exact run_convert_runes_nil w src dst e 0 0 hs he hd
  · rw [run_convert_runes w src dst e ⟨g, 0, none⟩ n cap xs (by omega) hs he hd (fun j hj => ?_), List.take_of_length_le (by omega)]
    exact h.cells (g := g) rfl j (.int .i32 (xs.getD j 0)) (by simp [nums, List.getElem?_eq_getElem hj, List.getD_eq_getElem?_getD])

/-- The mask of some letters' bytes. -/
def pz : List UInt8 → Nat → Option Nat
  | [], m => some m
  | c :: l, m => if 97 ≤ c.toNat ∧ c.toNat < 113 ∧ m.testBit (c.toNat - 97) = false then pz l (m ||| 2 ^ (c.toNat - 97)) else none
def rights_Parse.f (a0 : ByteArray) : Option (Int × Bool) :=
  some (match pz a0.data.toList 0 with | some m => ((m : Int), true) | none => (0, false))

theorem iterPos_of {w : World} {k : Nat} {s : ByteArray} {p : Nat} (h : w.heap[k]? = some (.stringIter s p)) : w.iterPos k = p := by simp [World.iterPos, h]
theorem drop_cons (s : ByteArray) (pos : Nat) (h : pos < s.size) : s.data.toList.drop pos = s[pos] :: s.data.toList.drop (pos + 1) := by
  rw [List.drop_eq_getElem_cons (by simpa using h)]
  rfl

theorem byte_of_decode (s : ByteArray) (pos : Nat) (h : pos < s.size) (hc : (Utf8.decode s pos).1 < 128) : Utf8.decode s pos = ((s[pos]'h).toNat, 1) ∧ (s[pos]'h).toNat < 128 := by
  by_cases hb : (s[pos]'h).toNat < 128
  · exact ⟨decode_ascii s pos h hb, hb⟩
  · have := (decode_high s pos h (by omega)).1
    omega
theorem decode_of_byte (s : ByteArray) (pos : Nat) (h : pos < s.size) : (128 ≤ (s[pos]'h).toNat ∧ 128 ≤ (Utf8.decode s pos).1) ∨ ((s[pos]'h).toNat < 128 ∧ Utf8.decode s pos = ((s[pos]'h).toNat, 1)) := by
  by_cases hb : (s[pos]'h).toNat < 128
  · exact .inr ⟨hb, decode_ascii s pos h hb⟩
  · exact .inl ⟨by omega, (decode_high s pos h (by omega)).1⟩
theorem i64_and (a b : Nat) (ha : a < 2 ^ 63) (hb : b < 2 ^ 63) : bits .and .i64 (a : Int) (b : Int) = ((a &&& b : Nat) : Int) :=
  (bits_nat .i64 63 (by decide) (fun n h0 h1 => by rw [IntKind.wrap_i64]; omega) a b ha hb).1
theorem i64_or (a b : Nat) (ha : a < 2 ^ 63) (hb : b < 2 ^ 63) : bits .or .i64 (a : Int) (b : Int) = ((a ||| b : Nat) : Int) :=
  (bits_nat .i64 63 (by decide) (fun n h0 h1 => by rw [IntKind.wrap_i64]; omega) a b ha hb).2
theorem two_pow_k (j : Nat) (h : j < 16) : wrap64 (2 ^ j) = ((2 ^ j : Nat) : Int) ∧ (2 ^ j : Nat) < 65536 := by
  have : (2 ^ j : Nat) < 2 ^ 16 := Nat.pow_lt_pow_right (by decide) h
  have e : ((2 : Int) ^ j) = ((2 ^ j : Nat) : Int) := by simp
  refine ⟨?_, by omega⟩
  rw [e]
  generalize (2 ^ j : Nat) = p at this
  unfold wrap64
  omega
theorem and_pow (m j : Nat) : (m &&& 2 ^ j = 0) ↔ m.testBit j = false := by
  constructor
  · intro h
    have := congrArg (fun x => Nat.testBit x j) h
    simpa [Nat.testBit_and, Nat.testBit_two_pow] using this
  · intro h
    refine Nat.eq_of_testBit_eq fun i => ?_
    rw [Nat.testBit_and, Nat.testBit_two_pow, Nat.zero_testBit]
    by_cases e : j = i
    · subst e; simp [h]
    · simp [e]
theorem k_of (c j : Nat) (hc : c ≤ 2147483647) (h : wrap32 ((c : Int) - 97) = (j : Int)) (hj : j < 16) : c = 97 + j := by
  unfold wrap32 at h
  omega
/-- A round that goes wrong. -/
theorem round_none (s : ByteArray) (pos m : Nat) (hm : m < 65536) (h : pos < s.size)
    (hk : wrap32 (((Utf8.decode s pos).1 : Int) - 97) < 0 ∨ 16 ≤ wrap32 (((Utf8.decode s pos).1 : Int) - 97) ∨ (bits .and .i64 (m : Int) (wrap64 (2 ^ (wrap32 (((Utf8.decode s pos).1 : Int) - 97)).toNat)) != 0) = true) : pz (s.data.toList.drop pos) m = none := by
  rw [drop_cons s pos h]
  unfold pz
  rw [if_neg]
  rintro ⟨h1, h2, h3⟩
  rcases decode_of_byte s pos h with ⟨hb, _⟩ | ⟨hb, hd⟩
  · omega
  · rw [hd] at hk
    simp only at hk
    have e : wrap32 (((s[pos]).toNat : Int) - 97) = ((s[pos].toNat - 97 : Nat) : Int) := by unfold wrap32; omega
    rw [e] at hk
    rcases hk with hk | hk | hk
    · omega
    · omega
    · rw [Int.toNat_natCast, (two_pow_k _ (by omega)).1, i64_and _ _ (by omega) (by have := (two_pow_k (s[pos].toNat - 97) (by omega)).2; omega), (and_pow _ _).2 h3] at hk
      simp at hk
/-- A round that goes on. -/
theorem round_some (s : ByteArray) (pos m : Nat) (hm : m < 65536) (h : pos < s.size) (h0 : 0 ≤ wrap32 (((Utf8.decode s pos).1 : Int) - 97)) (h1 : wrap32 (((Utf8.decode s pos).1 : Int) - 97) < 16)
    (hk : (bits .and .i64 (m : Int) (wrap64 (2 ^ (wrap32 (((Utf8.decode s pos).1 : Int) - 97)).toNat)) != 0) = false) :
    ∃ m' : Nat, bits .or .i64 (m : Int) (wrap64 (2 ^ (wrap32 (((Utf8.decode s pos).1 : Int) - 97)).toNat)) = (m' : Int) ∧ m' < 65536 ∧ pos + (Utf8.decode s pos).2 ≤ s.size ∧ pos < pos + (Utf8.decode s pos).2 ∧ pz (s.data.toList.drop (pos + (Utf8.decode s pos).2)) m' = pz (s.data.toList.drop pos) m := by
  obtain ⟨j, hj⟩ := Int.eq_ofNat_of_zero_le h0
  rw [hj] at h1 hk ⊢
  have hj16 : j < 16 := by omega
  have hc := k_of _ j (decode_le s pos) hj hj16
  obtain ⟨hd, hb⟩ := byte_of_decode s pos h (by omega)
  have hbj : s[pos].toNat = 97 + j := by rw [hd] at hc; exact hc
  have hp := two_pow_k j hj16
  rw [Int.toNat_natCast, hp.1, i64_and _ _ (by omega) (by omega)] at hk
  have h3 : m.testBit j = false := by
    rw [← and_pow]
    have : ((m &&& 2 ^ j : Nat) : Int) = 0 := by simpa using hk
    omega
  rw [Int.toNat_natCast, hp.1, i64_or _ _ (by omega) (by omega), hd]
  refine ⟨_, rfl, ?_, by simp only; omega, by simp only; omega, ?_⟩
  · have := Nat.or_lt_two_pow (n := 16) (x := m) (y := 2 ^ j) (by omega) (by omega)
    omega
  · simp only
    rw [drop_cons s pos h]
    conv => rhs; unfold pz
    rw [if_pos ⟨by omega, by omega, by rw [hbj]; simpa using h3⟩, hbj, show 97 + j - 97 = j by omega]

set_option maxHeartbeats 1000000 in
theorem rights_Parse.calls (a0 : ByteArray) (r1 : Int) (r2 : Bool) (w : World) (h : rights_Parse.f a0 = some (r1, r2)) :
    Calls Try.prog 109 #[.string a0] w fun e w' => e = .returned (.tuple #[.int .i64 r1, .bool r2]) ∧ Below w.heap.size w w' := by
  have h' := Option.some.inj h
  clear h
  have HS := hid h'
  clear h'
  go_enter Try.func109, Try.ntmps109
  go_wp2
  go_loopw [4] (fun v wr => ∃ (pos m : Nat), v = .int .i64 (m : Int) ∧ m < 65536 ∧ pos ≤ a0.size ∧ wr.heap[w.heap.size]? = some (.stringIter a0 pos) ∧ Below w.heap.size w wr ∧ Hid (pz (a0.data.toList.drop pos) m = pz a0.data.toList 0)) (fun _ wr => a0.size - wr.iterPos w.heap.size)
  case atStart => exact ⟨0, 0, rfl, by omega, by omega, World.iter_heap w a0 0, (Below.refl _ _).alloc (Nat.le_refl _) _, rfl⟩
  case round =>
    obtain ⟨pos, m, rfl, hm, hpos, hit, hbw, HP⟩ := hrel
    have hpos0 := iterPos_of hit
    by_cases hp : pos < a0.size
    · have hnx : ∀ ty, (Instr.next (.pointer (some ⟨w.heap.size, 0, none⟩)) true ty).run Try.prog wr = _ := fun ty => Lib.run_next_any_at wr w.heap.size a0 pos ty hit hp
      have hit2 := Lib.iterAt_heap wr w.heap.size a0 pos (pos + (Utf8.decode a0 pos).2) hit
      have hbw2 := Lib.below_iterAt hbw (k := w.heap.size) (Nat.le_refl _) a0 (pos + (Utf8.decode a0 pos).2)
      have HN := hid (round_none a0 pos m hm hp)
      have HY := hid (round_some a0 pos m hm hp)
      go_wp2
      all_goals first
        | (go_roundw
           case rel =>
            obtain ⟨m', e1, e2, e3, e4, e5⟩ := HY (by assumption) (by assumption) (by rename_i hx; exact hx.2)
            exact ⟨pos + (Utf8.decode a0 pos).2, m', by rw [e1], e2, e3, hit2, hbw2, by show _ = _; rw [e5]; exact HP⟩
           case measure =>
            obtain ⟨m', e1, e2, e3, e4, e5⟩ := HY (by assumption) (by assumption) (by rename_i hx; exact hx.2)
            rw [iterPos_of hit2, hpos0]
            omega)
        | (go_ret2
           have hn : pz a0.data.toList 0 = none := by
             rw [← HP]
             refine HN ?_
             first
               | exact Or.inl (by assumption)
               | exact Or.inr (Or.inl (by assumption))
               | (rename_i hx; exact hx.elim (fun hy => hy.elim Or.inl (fun z => Or.inr (Or.inl z))) (fun z => Or.inr (Or.inr z)))
           have HS' := HS
           unfold Hid at HS'
           rw [hn] at HS'
           obtain ⟨rfl, rfl⟩ := Prod.mk.inj HS'
           exact ⟨rfl, hbw2⟩)
    · have hnx : ∀ ty, (Instr.next (.pointer (some ⟨w.heap.size, 0, none⟩)) true ty).run Try.prog wr = _ := fun ty => Lib.run_next_end_at wr w.heap.size a0 pos ty hit hp
      have hn : pz a0.data.toList 0 = some m := by rw [← HP, List.drop_eq_nil_of_le (by simp; omega)]; rfl
      have HS' := HS
      unfold Hid at HS'
      rw [hn] at HS'
      obtain ⟨rfl, rfl⟩ := Prod.mk.inj HS'
      clear HS' hn
      go_wp2
      go_ret2
      exact ⟨rfl, hbw⟩
end Go.Proofs.Ytfbcidfbgebbhaa.Q
