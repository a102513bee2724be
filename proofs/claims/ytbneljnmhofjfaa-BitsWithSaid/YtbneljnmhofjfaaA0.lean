/-
  What this session proved by hand beside the print, for the seat of the chapter on bits: the contracts of bits.Has, With, First, Count, New, Join, Less and of the reference's With.
-/
import Derived.Test.YtbneljnmhofjfaaProg
import Derived.Test.YtbneljnmhofjfaaWWords
import Derived.Test.YtbneljnmhofjfaaM0
import Derived.Test.YtbneljnmhofjfaaSh
import Derived.Test.YtbneljnmhofjfaaPx1
import Derived.Lib.Hide
import Derived.WalkKit
import Derived.WalkSpells
import Derived.WalkLawsBesides
import Derived.RegionTactic
import Derived.ChangeAlike
import Derived.BigRegion
import Derived.Deep.QuietTactic
import Derived.BigQuiet
namespace Go.Proofs.Ytbneljnmhofjfaa.G
set_option linter.unusedVariables false
set_option linter.unusedSimpArgs false
open Go.RowKit Go.Proofs.Ytbneljnmhofjfaa.M Go.Proofs.YtbneljnmhofjfaaW.PrintWords
open Go.Lib (hid)

theorem emod_u8 (n : Int) : 0 ≤ n % 256 := by omega
theorem emod_u16 (n : Int) : 0 ≤ n % 65536 := by omega
theorem emod_u32 (n : Int) : 0 ≤ n % 4294967296 := by omega

/-! ### sets -/
def hasL (l : List UInt8) (i : Nat) : Bool := (l.getD (i / 8) 0).toNat.testBit (i % 8)
def hasI (b : ByteArray) (i : Int) : Bool := decide (0 ≤ i) && hasL b.data.toList i.toNat

theorem bt_nat (s : ByteArray) (i : Nat) (h : i < s.size) : bt s (i : Int) = (((s.data.toList.getD i 0).toNat : Nat) : Int) := by
  unfold bt
  rw [dif_pos (by simpa using h), List.getD_eq_getElem?_getD, List.getElem?_eq_getElem (by simpa using h)]
  rfl
theorem u8_and_n (a b : Nat) (ha : a < 256) (hb : b < 256) : bits .and .u8 (a : Int) (b : Int) = ((a &&& b : Nat) : Int) := u8_and_nat a b ha hb
theorem and_pow (m j : Nat) : (m &&& 2 ^ j = 0) ↔ m.testBit j = false := by
  constructor
  · intro h
    have := congrArg (fun x => Nat.testBit x j) h
    simpa [Nat.testBit_and, Nat.testBit_two_pow] using this
  · intro h
    refine Nat.eq_of_testBit_eq fun i => ?_
    rw [Nat.testBit_and, Nat.testBit_two_pow, Nat.zero_testBit]
    by_cases e : j = i
    · subst e; simp [h]
    · simp [e]
theorem pow_lt (r : Nat) (h : r < 8) : 2 ^ r < 256 := Nat.pow_lt_pow_right (a := 2) (by decide) h
theorem shl_u8 (r : Nat) (h : r < 8) : IntKind.u8.wrap (2 ^ r) = ((2 ^ r : Nat) : Int) := by
  have := pow_lt r h
  have e : ((2 : Int) ^ r) = ((2 ^ r : Nat) : Int) := by simp
  rw [e, IntKind.wrap_u8]
  generalize 2 ^ r = p at this
  omega
theorem has_eq (b : ByteArray) (i : Int) (hw : -9223372036854775808 ≤ i) (hw2 : i ≤ 9223372036854775807) : P.bits_Has.f b i = some (hasI b i) := by
  unfold P.bits_Has.f hasI
  by_cases h0 : 0 ≤ i
  · obtain ⟨n, rfl⟩ := Int.eq_ofNat_of_zero_le h0
    have e1 : wrap64 (Int.tdiv (n : Int) 8) = ((n / 8 : Nat) : Int) := by
      rw [show Int.tdiv (n : Int) 8 = ((n / 8 : Nat) : Int) from rfl]; unfold wrap64; omega
    have e2 : Int.tmod (n : Int) 8 = ((n % 8 : Nat) : Int) := rfl
    have h8 : n % 8 < 8 := Nat.mod_lt _ (by decide)
    rw [if_pos h0, e1]
    by_cases h1 : n / 8 < b.size
    · rw [if_pos (by omega), if_pos (by omega), e2, if_pos (by omega), bt_nat b _ h1]
      have e3 : shl .u8 1 ((n % 8 : Nat) : Int) = ((2 ^ (n % 8) : Nat) : Int) := by
        unfold shl
        rw [Int.toNat_natCast, show IntKind.u8.bits = 8 from rfl, Nat.min_eq_left (by omega), Int.one_mul]
        exact shl_u8 _ h8
      have hc : (b.data.toList.getD (n / 8) 0).toNat < 256 := UInt8.toNat_lt _
      rw [e3, u8_and_n _ _ hc (pow_lt _ h8)]
      congr 1
      unfold hasL
      simp only [Int.toNat_natCast, h0, decide_true, Bool.true_and]
      cases hb : Nat.testBit (b.data.toList.getD (n / 8) 0).toNat (n % 8) with
      | false => rw [(and_pow _ _).2 hb]; rfl
      | true =>
        have : (b.data.toList.getD (n / 8) 0).toNat &&& 2 ^ (n % 8) ≠ 0 := fun h => by
          have := (and_pow _ _).1 h
          rw [hb] at this
          cases this
        rw [bne_iff_ne]
        omega
    · rw [if_neg (by omega)]
      congr 1
      unfold hasL
      rw [Int.toNat_natCast, List.getD_eq_getElem?_getD, List.getElem?_eq_none (by simpa using h1)]
      simp
  · rw [if_neg (by omega)]
    simp [h0]
/-- The set with one number turned. -/
def flipL (l : List UInt8) (i : Nat) : List UInt8 := l.set (i / 8) (UInt8.ofNat ((l.getD (i / 8) 0).toNat ^^^ 2 ^ (i % 8)))
theorem xor_byte (c r : Nat) (hc : c < 256) (hr : r < 8) : bits .xor .u8 (c : Int) ((2 : Int) ^ r % 256) = (((UInt8.ofNat (c ^^^ 2 ^ r)).toNat : Nat) : Int) := by
  have hp := pow_lt r hr
  have e : ((2 : Int) ^ r % 256) = ((2 ^ r : Nat) : Int) := by
    have e0 : ((2 : Int) ^ r) = ((2 ^ r : Nat) : Int) := by simp
    rw [e0]
    generalize 2 ^ r = p at hp
    omega
  have hx : c ^^^ 2 ^ r < 2 ^ 8 := Nat.xor_lt_two_pow (by omega) (by omega)
  rw [e, u8_xor_nat c _ hc hp, UInt8.toNat_ofNat', Nat.mod_eq_of_lt hx]
theorem or_byte (c r : Nat) (hc : c < 256) (hr : r < 8) : bits .or .u8 (c : Int) ((2 : Int) ^ r % 256) = (((UInt8.ofNat (c ||| 2 ^ r)).toNat : Nat) : Int) := by
  have hp := pow_lt r hr
  have e : ((2 : Int) ^ r % 256) = ((2 ^ r : Nat) : Int) := by
    have e0 : ((2 : Int) ^ r) = ((2 ^ r : Nat) : Int) := by simp
    rw [e0]
    generalize 2 ^ r = p at hp
    omega
  have hx : c ||| 2 ^ r < 2 ^ 8 := Nat.or_lt_two_pow (by omega) (by omega)
  rw [e, u8_or_nat c _ hc hp, UInt8.toNat_ofNat', Nat.mod_eq_of_lt hx]
def bits_With.f (a0 : ByteArray) (a1 : Int) (a2 : Bool) : Option ByteArray :=
  if a0.size ≤ 140737488355328 ∧ -9223372036854775808 ≤ a1 ∧ a1 ≤ 9223372036854775807 then
    some (if 0 ≤ a1 ∧ a1.toNat / 8 < a0.size ∧ hasI a0 a1 ≠ a2 then ⟨(flipL a0.data.toList a1.toNat).toArray⟩ else a0)
  else none
theorem next {w w1 w2 : World} (h : Below w.heap.size w w1) (k : Below w1.heap.size w1 w2) : Below w.heap.size w w2 := below_then h h.size k
theorem below_draws {w : World} (n : Nat) : Below w.heap.size w (w.drewN n) := pw_below_drewN (Below.refl _ _) n
set_option maxRecDepth 100000 in
set_option maxHeartbeats 1000000 in
theorem bits_With.turned (b : ByteArray) (n : Nat) (on : Bool) (w : World) (h1 : n / 8 < b.size) (hn : n ≤ 9223372036854775807) (hs : b.size ≤ 140737488355328) (ho : (hasI b (n : Int) == on) = false) :
    Calls Try.prog 15 #[.string b, .int .i64 n, .bool on] w fun e w' => e = .returned (.string ⟨(flipL b.data.toList n).toArray⟩) ∧ Below w.heap.size w w' := by
  have HH := hid (fun W => P.bits_Has.calls b (n : Int) _ W (has_eq b n (by omega) (by omega)))
  have h8 : n % 8 < 8 := Nat.mod_lt _ (by decide)
  have q0 : (n : Int) / 8 < (b.size : Int) := by omega
  have q1 : decide ((b.size : Int) ≤ (n : Int) / 8) = false := decide_eq_false (by omega)
  go_enter Try.func15, Try.ntmps15
  go_wp2_with fail
  refine (HH _).mono ?_
  rintro e w1 ⟨rfl, ⟨nd, rfl⟩⟩
  have hcv := Lib.run_convert_string_bytes (P := Try.prog) (w.drewN nd) 9 36 5 b Try.underlying9 Try.underlying36 (by kernel_rfl)
  have hmb := MB.new (w.drewN nd) 5 b
  have hcell : (Lib.bytesWorld (w.drewN nd) 5 b).cell? ⟨w.heap.size, n / 8, none⟩ = some (.int .u8 (((b.data.toList.getD (n / 8) 0).toNat : Nat) : Int)) := by
    rw [List.getD_eq_getElem?_getD, List.getElem?_eq_getElem (by simpa using h1)]
    exact hmb.cell (n / 8) (by simpa using h1)
  have hfree : (Lib.bytesWorld (w.drewN nd) 5 b).frozen? ⟨w.heap.size, n / 8, none⟩ = false := hmb.free (n / 8) (by simpa using h1)
  obtain ⟨d, hd1, hd2⟩ : ∃ d : UInt8, bits .xor .u8 (((b.data.toList.getD (n / 8) 0).toNat : Nat) : Int) ((2 : Int) ^ (n % 8) % 256) = ((d.toNat : Nat) : Int) ∧ b.data.toList.set (n / 8) d = flipL b.data.toList n :=
    ⟨_, xor_byte _ _ (UInt8.toNat_lt _) h8, rfl⟩
  have hb3 := (below_bytes (w.drewN nd) 5 b).setCell (p := ⟨w.heap.size, n / 8, none⟩) (Nat.le_refl _) (.int .u8 ((d.toNat : Nat) : Int))
  have hm2 := (hmb.set_ (n / 8) d).drew
  have hcb := hm2.str (P := Try.prog) (src := 36) (dst := 9) Try.underlying36 (by kernel_rfl) (by kernel_rfl) (grownCap (w.drewN nd) b.size 0 5)
  rw [hd2, show (flipL b.data.toList n).length = b.size by rw [← hd2, List.length_set]; rfl] at hcb
  replace hcb : (convert 36 9 (.slice (some ⟨w.heap.size, 0, none⟩) b.size (grownCap (w.drewN nd) b.size 0 5))).run Try.prog ((Lib.bytesWorld (w.drewN nd) 5 b).setCell ⟨w.heap.size, n / 8, none⟩ (.int .u8 ((d.toNat : Nat) : Int))).drew = .ok (.string ⟨(flipL b.data.toList n).toArray⟩) ((Lib.bytesWorld (w.drewN nd) 5 b).setCell ⟨w.heap.size, n / 8, none⟩ (.int .u8 ((d.toNat : Nat) : Int))).drew := hcb
  clear hm2 hmb hd2
  generalize (b.data.toList.getD (n / 8) 0).toNat = c at *
  have hd3 : bits .xor .u8 (c : Int) ((2 : Int) ^ (n % 8) % 256) = ((d.toNat : Nat) : Int) := hd1
  have HB := hid hb3
  clear hb3 hd1
  go_wp2_with fail
  go_region
  go_wp2_with fail
  go_ret
  exact ⟨rfl, next (below_draws nd) HB.drew⟩
end Go.Proofs.Ytbneljnmhofjfaa.G
