/-
  What this session proved by hand beside the print, for the seat of the chapter on bits: the contracts of bits.First, bits.Count, bits.New and the reference's New.
-/
import Derived.Test.YtbneljnmhofjfaaA1
namespace Go.Proofs.Ytbneljnmhofjfaa.G
set_option linter.unusedVariables false
set_option linter.unusedSimpArgs false
open Go.RowKit Go.Proofs.Ytbneljnmhofjfaa.M Go.Proofs.YtbneljnmhofjfaaW.PrintWords
open Go.Lib (hid)

/-! ### Count -/
def countL (l : List UInt8) : Nat := (l.map fun c => Lib.onesCount c.toNat).sum
theorem ones8 (c : UInt8) : Lib.onesCount c.toNat ≤ 8 := Lib.onesCount_le8 ⟨c.toNat, UInt8.toNat_lt c⟩
theorem countL_le : ∀ l, countL l ≤ 8 * l.length
  | [] => by simp [countL]
  | c :: l => by
    have := countL_le l
    have := ones8 c
    simp only [countL, List.map_cons, List.sum_cons, List.length_cons] at *
    omega
theorem countL_snoc (l : List UInt8) (c : UInt8) : countL (l ++ [c]) = countL l + Lib.onesCount c.toNat := by simp [countL]
theorem take_snoc (s : ByteArray) (k : Nat) (h : k < s.size) : s.data.toList.take (k + 1) = s.data.toList.take k ++ [s[k]] := by
  rw [List.take_succ_eq_append_getElem (by simpa using h)]; rfl
def bits_Count.f (a0 : ByteArray) : Option Int := if a0.size ≤ 140737488355328 then some ((countL a0.data.toList : Nat) : Int) else none
attribute [local irreducible] Lib.onesCount
theorem bits_Count.same (a0 : ByteArray) (w : World) (hsz : a0.size ≤ 140737488355328) :
    Calls Try.prog 19 #[.string a0] w fun e w' => e = .returned (.int .i64 ((countL a0.data.toList : Nat) : Int)) ∧ w = w' := by
  have HS := hid (rfl : countL a0.data.toList = countL a0.data.toList)
  generalize h : countL a0.data.toList = r at HS
  go_enter Try.func19, Try.ntmps19
  go_wp2_with fail
  go_loop [3, 4, 7] (fun a b i => ∃ k : Nat, k ≤ a0.size ∧ i = .int .i64 k ∧ a = .int .i64 ((countL (a0.data.toList.take k) : Nat) : Int)) (fun _ _ i => a0.size - (intOf i).toNat)
  case atStart => exact ⟨0, Nat.zero_le _, rfl, rfl⟩
  case round =>
    obtain ⟨k, hk, rfl, rfl⟩ := hrel
    have hl := countL_le (a0.data.toList.take k)
    have hl2 : (a0.data.toList.take k).length ≤ a0.size := List.length_take_le' _ _
    by_cases hlt : k < a0.size
    · have hb : a0[k].toNat < 256 := a0[k].toNat_lt
      have HK := hid (fun W => Try.bits_OnesCount8 ((a0[k].toNat : Nat) : Int) W (Int.natCast_nonneg _) (by omega))
      have H8 := hid (ones8 a0[k])
      have HT := hid ((congrArg countL (take_snoc a0 k hlt)).trans (countL_snoc _ _))
      generalize countL (a0.data.toList.take k) = p at *
      go_wp2_with fail
      refine (HK _).mono ?_
      rintro e w1 ⟨rfl, rfl⟩
      rw [Int.toNat_natCast]
      generalize Lib.onesCount a0[k].toNat = q at *
      have h8 : q ≤ 8 := H8
      go_wp2_with fail
      go_round
      case rel => exact ⟨k + 1, by omega, by go_num, by rw [HT]; go_num⟩
      case measure => simp [intOf]; omega
    · obtain rfl : k = a0.size := by omega
      have e : a0.data.toList.take a0.size = a0.data.toList := List.take_of_length_le (by simp)
      rw [e, h] at hl ⊢
      go_wp2_with fail
      go_ret
      exact ⟨rfl, rfl⟩
theorem bits_Count.calls (a0 : ByteArray) (r : Int) (w : World) (h : bits_Count.f a0 = some r) :
    Calls Try.prog 19 #[.string a0] w fun e w' => e = .returned (.int .i64 r) ∧ Drawn0 w w' := by
  unfold bits_Count.f at h
  split at h
  case isFalse => cases h
  rename_i hsz
  obtain rfl := Option.some.inj h
  exact (bits_Count.same a0 w hsz).mono fun e w' ⟨he, hw⟩ => ⟨he, hw ▸ Drawn0.refl _⟩

/-! ### First -/
def tz (c : UInt8) : Nat := Lib.trailingZeros8 (255 - c.toNat)
def firstAt : List UInt8 → Nat → Option Nat
  | [], _ => none
  | c :: l, i => if tz c < 8 then some (tz c + i * 8) else firstAt l (i + 1)
def firstOf (o : Option Nat) (n : Int) : Int × Bool := match o with | some k => if (k : Int) < n then ((k : Int), true) else (0, false) | none => (0, false)
def bits_First.f (a0 : ByteArray) (a1 : Int) : Option (Int × Bool) := if a0.size ≤ 140737488355328 then some (firstOf (firstAt a0.data.toList 0) a1) else none
theorem tz_le (c : UInt8) : tz c ≤ 8 := by
  have : ∀ n : Fin 256, Lib.trailingZeros8 (255 - n.val) ≤ 8 := by decide +kernel
  exact this ⟨c.toNat, UInt8.toNat_lt c⟩
theorem not8 (c : Nat) (h : c < 256) : bits .xor .u8 IntKind.u8.max (c : Int) = ((255 - c : Nat) : Int) := by
  have : ∀ n : Fin 256, bits .xor .u8 IntKind.u8.max ((n.val : Nat) : Int) = ((255 - n.val : Nat) : Int) := by decide +kernel
  exact this ⟨c, h⟩
theorem bits_First.same (a0 : ByteArray) (a1 : Int) (w : World) (hsz : a0.size ≤ 140737488355328) :
    Calls Try.prog 11 #[.string a0, .int .i64 a1] w fun e w' => e = .returned (.tuple #[.int .i64 (firstOf (firstAt a0.data.toList 0) a1).1, .bool (firstOf (firstAt a0.data.toList 0) a1).2]) ∧ w = w' := by
  have HS := hid (rfl : firstOf (firstAt a0.data.toList 0) a1 = firstOf (firstAt a0.data.toList 0) a1)
  generalize h : firstOf (firstAt a0.data.toList 0) a1 = r at HS ⊢
  go_enter Try.func11, Try.ntmps11
  go_wp2_with fail
  go_loop [6, 7, 10] (fun a b i => ∃ k : Nat, k ≤ a0.size ∧ i = .int .i64 k ∧ firstAt (a0.data.toList.drop k) k = firstAt a0.data.toList 0) (fun _ _ i => a0.size - (intOf i).toNat)
  case atStart => exact ⟨0, Nat.zero_le _, rfl, rfl⟩
  case round =>
    obtain ⟨k, hk, rfl, hf⟩ := hrel
    by_cases hlt : k < a0.size
    · have hb : a0[k].toNat < 256 := a0[k].toNat_lt
      have hd : a0.data.toList.drop k = a0[k] :: a0.data.toList.drop (k + 1) := by
        rw [List.drop_eq_getElem_cons (by simpa using hlt)]; rfl
      rw [hd, firstAt] at hf
      rw [← hf] at h
      have hx : bits .xor .u8 IntKind.u8.max ((a0[k].toNat : Nat) : Int) = ((255 - a0[k].toNat : Nat) : Int) := not8 _ hb
      have HK := hid (fun W => Try.bits_TrailingZeros8 ((255 - a0[k].toNat : Nat) : Int) W (Int.natCast_nonneg _) (by omega))
      have HZ := hid (show Lib.trailingZeros8 (255 - a0[k].toNat) = tz a0[k] from rfl)
      have HF := hid (And.intro hf h)
      clear hf h
      go_wp2_with fail
      refine (HK _).mono ?_
      rintro e w1 ⟨rfl, rfl⟩
      rw [Int.toNat_natCast, HZ]
      have H8 := hid (tz_le a0[k])
      generalize tz a0[k] = q at *
      have h8 : q ≤ 8 := H8
      obtain ⟨hf, h⟩ := HF
      by_cases hq : q < 8
      · rw [if_pos hq] at h
        by_cases hn : (((q + k * 8 : Nat) : Int) < a1)
        · have hr : r = (((q + k * 8 : Nat) : Int), true) := by rw [← h]; simp only [firstOf]; rw [if_pos hn]
          subst hr
          clear h hf
          go_wp2_with fail
          go_ret2
          exact ⟨rfl, rfl⟩
        · have hr : r = (0, false) := by rw [← h]; simp only [firstOf]; rw [if_neg hn]
          subst hr
          clear h hf
          go_wp2_with fail
          go_ret2
          exact ⟨rfl, rfl⟩
      · rw [if_neg hq] at hf
        obtain rfl : q = 8 := by omega
        go_wp2_with fail
        go_round
        case rel => exact ⟨k + 1, by omega, by go_num, hf⟩
        case measure => simp [intOf]; omega
    · obtain rfl : k = a0.size := by omega
      have e : a0.data.toList.drop a0.size = [] := List.drop_eq_nil_of_le (by simp)
      rw [e] at hf
      rw [← hf] at h
      go_wp2_with fail
      go_ret2
      rw [← h]
      exact ⟨rfl, rfl⟩
theorem bits_First.calls (a0 : ByteArray) (a1 : Int) (r1 : Int) (r2 : Bool) (w : World) (h : bits_First.f a0 a1 = some (r1, r2)) :
    Calls Try.prog 11 #[.string a0, .int .i64 a1] w fun e w' => e = .returned (.tuple #[.int .i64 r1, .bool r2]) ∧ Drawn0 w w' := by
  unfold bits_First.f at h
  split at h
  case isFalse => cases h
  rename_i hsz
  have h2 := Option.some.inj h
  refine (bits_First.same a0 a1 w hsz).mono fun e w' ⟨he, hw⟩ => ⟨?_, hw ▸ Drawn0.refl _⟩
  rw [he, h2]
end Go.Proofs.Ytbneljnmhofjfaa.G
