/-
  What this session proved by hand beside the print, for the seat of the chapter on bits: the contracts of bits.With (joined), of the reference's With, of bits.First and bits.Count.
-/
import Derived.Test.YtbneljnmhofjfaaA0
namespace Go.Proofs.Ytbneljnmhofjfaa.G
set_option linter.unusedVariables false
set_option linter.unusedSimpArgs false
open Go.RowKit Go.Proofs.Ytbneljnmhofjfaa.M Go.Proofs.YtbneljnmhofjfaaW.PrintWords
open Go.Lib (hid)

theorem bits_With.neg (b : ByteArray) (n : Int) (on : Bool) (w : World) (h1 : n < 0) (hn : -9223372036854775808 ≤ n) :
    Calls Try.prog 15 #[.string b, .int .i64 n, .bool on] w fun e w' => e = .returned (.string b) ∧ Below w.heap.size w w' := by
  go_enter Try.func15, Try.ntmps15
  go_wp2_with fail
  go_ret
  exact ⟨rfl, Below.refl _ _⟩
theorem bits_With.far (b : ByteArray) (n : Nat) (on : Bool) (w : World) (h1 : b.size ≤ n / 8) (hn : n ≤ 9223372036854775807) (hs : b.size ≤ 140737488355328) :
    Calls Try.prog 15 #[.string b, .int .i64 n, .bool on] w fun e w' => e = .returned (.string b) ∧ Below w.heap.size w w' := by
  have q1 : decide ((b.size : Int) ≤ (n : Int) / 8) = true := decide_eq_true (by omega)
  have q0 : ((b.size : Int) ≤ (n : Int) / 8) := by omega
  go_enter Try.func15, Try.ntmps15
  go_wp2_with fail
  go_ret
  exact ⟨rfl, Below.refl _ _⟩
theorem bits_With.same (b : ByteArray) (n : Nat) (on : Bool) (w : World) (h1 : n / 8 < b.size) (hn : n ≤ 9223372036854775807) (hs : b.size ≤ 140737488355328) (ho : (hasI b (n : Int) == on) = true) :
    Calls Try.prog 15 #[.string b, .int .i64 n, .bool on] w fun e w' => e = .returned (.string b) ∧ Below w.heap.size w w' := by
  have HH := hid (fun W => P.bits_Has.calls b (n : Int) _ W (has_eq b n (by omega) (by omega)))
  have q0 : (n : Int) / 8 < (b.size : Int) := by omega
  have q1 : decide ((b.size : Int) ≤ (n : Int) / 8) = false := decide_eq_false (by omega)
  go_enter Try.func15, Try.ntmps15
  go_wp2_with fail
  refine (HH _).mono ?_
  rintro e w1 ⟨rfl, ⟨nd, rfl⟩⟩
  go_wp2_with fail
  go_ret
  exact ⟨rfl, below_draws nd⟩
theorem bits_With.calls (a0 : ByteArray) (a1 : Int) (a2 : Bool) (r : ByteArray) (w : World) (h : bits_With.f a0 a1 a2 = some r) :
    Calls Try.prog 15 #[.string a0, .int .i64 a1, .bool a2] w fun e w' => e = .returned (.string r) ∧ Below w.heap.size w w' := by
  unfold bits_With.f at h
  split at h
  case isFalse => cases h
  rename_i hz
  obtain rfl := Option.some.inj h
  by_cases h0 : 0 ≤ a1
  · obtain ⟨n, rfl⟩ := Int.eq_ofNat_of_zero_le h0
    by_cases h1 : n / 8 < a0.size
    · cases ho : (hasI a0 (n : Int) == a2) with
      | true =>
        rw [if_neg (fun h => h.2.2 (by simpa using ho))]
        exact bits_With.same a0 n a2 w h1 (by omega) (by omega) ho
      | false =>
        rw [if_pos ⟨h0, h1, by simpa using ho⟩]
        exact bits_With.turned a0 n a2 w h1 (by omega) (by omega) ho
    · rw [if_neg (fun h => h1 h.2.1)]
      exact bits_With.far a0 n a2 w (by omega) (by omega) (by omega)
  · rw [if_neg (fun h => h0 h.1)]
    exact bits_With.neg a0 a1 a2 w (by omega) (by omega)

/-! ### the reference's With -/
def orL (l : List UInt8) (i : Nat) : List UInt8 := l.set (i / 8) (UInt8.ofNat ((l.getD (i / 8) 0).toNat ||| 2 ^ (i % 8)))
def ref_With.f (a0 : ByteArray) (a1 : Int) (a2 : Bool) : Option ByteArray :=
  if a0.size ≤ 140737488355328 ∧ -9223372036854775808 ≤ a1 ∧ a1 ≤ 9223372036854775807 then
    some (if 0 ≤ a1 ∧ a1.toNat / 8 < a0.size then (if a2 then ⟨(orL a0.data.toList a1.toNat).toArray⟩ else ⟨(flipL (orL a0.data.toList a1.toNat) a1.toNat).toArray⟩) else a0)
  else none
theorem room_eq (b : ByteArray) (i : Int) (hw : -9223372036854775808 ≤ i) (hw2 : i ≤ 9223372036854775807) : P.bailiwickref08_room.f b i = some (decide (0 ≤ i ∧ i.toNat / 8 < b.size)) := by
  unfold P.bailiwickref08_room.f
  by_cases h0 : 0 ≤ i
  · obtain ⟨n, rfl⟩ := Int.eq_ofNat_of_zero_le h0
    have e1 : wrap64 (Int.tdiv (n : Int) 8) = ((n / 8 : Nat) : Int) := by
      rw [show Int.tdiv (n : Int) 8 = ((n / 8 : Nat) : Int) from rfl]; unfold wrap64; omega
    simp only [e1, h0, Int.toNat_natCast]
    by_cases h1 : n / 8 < b.size
    · have : ((n / 8 : Nat) : Int) < (b.size : Int) := by omega
      simp [h1, this]
      omega
    · have : ¬ ((n / 8 : Nat) : Int) < (b.size : Int) := by omega
      simp [h1, this]
      omega
  · simp [h0]

theorem ref_With.out (b : ByteArray) (n : Int) (on : Bool) (w : World) (h1 : ¬ (0 ≤ n ∧ n.toNat / 8 < b.size)) (hn : -9223372036854775808 ≤ n) (hn2 : n ≤ 9223372036854775807) :
    Calls Try.prog 16 #[.string b, .int .i64 n, .bool on] w fun e w' => e = .returned (.string b) ∧ Below w.heap.size w w' := by
  have HH := hid (fun W => P.bailiwickref08_room.calls b n _ W ((room_eq b n hn hn2).trans (congrArg some (decide_eq_false h1))))
  go_enter Try.func16, Try.ntmps16
  go_wp2_with fail
  refine (HH _).mono ?_
  rintro e w1 ⟨rfl, ⟨nd, rfl⟩⟩
  go_wp2_with fail
  go_ret
  exact ⟨rfl, below_draws nd⟩
set_option maxRecDepth 100000 in
set_option maxHeartbeats 1000000 in
theorem ref_With.on (b : ByteArray) (n : Nat) (w : World) (h1 : n / 8 < b.size) (hn : n ≤ 9223372036854775807) (hs : b.size ≤ 140737488355328) :
    Calls Try.prog 16 #[.string b, .int .i64 n, .bool true] w fun e w' => e = .returned (.string ⟨(orL b.data.toList n).toArray⟩) ∧ Below w.heap.size w w' := by
  have HH := hid (fun W => P.bailiwickref08_room.calls b n _ W ((room_eq b n (by omega) (by omega)).trans (congrArg some (decide_eq_true ⟨Int.natCast_nonneg n, h1⟩))))
  have h8 : n % 8 < 8 := Nat.mod_lt _ (by decide)
  have q0 : (n : Int) / 8 < (b.size : Int) := by omega
  go_enter Try.func16, Try.ntmps16
  go_wp2_with fail
  refine (HH _).mono ?_
  rintro e w1 ⟨rfl, ⟨nd, rfl⟩⟩
  have hcv := Lib.run_convert_string_bytes (P := Try.prog) (w.drewN nd) 9 36 5 b Try.underlying9 Try.underlying36 (by kernel_rfl)
  have hmb := MB.new (w.drewN nd) 5 b
  have hcell : (Lib.bytesWorld (w.drewN nd) 5 b).cell? ⟨w.heap.size, n / 8, none⟩ = some (.int .u8 (((b.data.toList.getD (n / 8) 0).toNat : Nat) : Int)) := by
    rw [List.getD_eq_getElem?_getD, List.getElem?_eq_getElem (by simpa using h1)]
    exact hmb.cell (n / 8) (by simpa using h1)
  have hfree : (Lib.bytesWorld (w.drewN nd) 5 b).frozen? ⟨w.heap.size, n / 8, none⟩ = false := hmb.free (n / 8) (by simpa using h1)
  obtain ⟨d, hd1, hd2⟩ : ∃ d : UInt8, bits .or .u8 (((b.data.toList.getD (n / 8) 0).toNat : Nat) : Int) ((2 : Int) ^ (n % 8) % 256) = ((d.toNat : Nat) : Int) ∧ b.data.toList.set (n / 8) d = orL b.data.toList n :=
    ⟨_, or_byte _ _ (UInt8.toNat_lt _) h8, rfl⟩
  have hb3 := (below_bytes (w.drewN nd) 5 b).setCell (p := ⟨w.heap.size, n / 8, none⟩) (Nat.le_refl _) (.int .u8 ((d.toNat : Nat) : Int))
  have hm2 := (hmb.set_ (n / 8) d).drew
  have hcb := hm2.str (P := Try.prog) (src := 36) (dst := 9) Try.underlying36 (by kernel_rfl) (by kernel_rfl) (grownCap (w.drewN nd) b.size 0 5)
  rw [hd2, show (orL b.data.toList n).length = b.size by rw [← hd2, List.length_set]; rfl] at hcb
  replace hcb : (convert 36 9 (.slice (some ⟨w.heap.size, 0, none⟩) b.size (grownCap (w.drewN nd) b.size 0 5))).run Try.prog ((Lib.bytesWorld (w.drewN nd) 5 b).setCell ⟨w.heap.size, n / 8, none⟩ (.int .u8 ((d.toNat : Nat) : Int))).drew = .ok (.string ⟨(orL b.data.toList n).toArray⟩) ((Lib.bytesWorld (w.drewN nd) 5 b).setCell ⟨w.heap.size, n / 8, none⟩ (.int .u8 ((d.toNat : Nat) : Int))).drew := hcb
  clear hm2 hmb hd2
  generalize (b.data.toList.getD (n / 8) 0).toNat = c at *
  have hd3 : bits .or .u8 (c : Int) ((2 : Int) ^ (n % 8) % 256) = ((d.toNat : Nat) : Int) := hd1
  have HB := hid hb3
  clear hb3 hd1
  go_wp2_with fail
  go_region
  go_wp2_with fail
  go_ret
  exact ⟨rfl, next (below_draws nd) HB.drew⟩
set_option maxRecDepth 100000 in
set_option maxHeartbeats 1000000 in
theorem ref_With.off (b : ByteArray) (n : Nat) (w : World) (h1 : n / 8 < b.size) (hn : n ≤ 9223372036854775807) (hs : b.size ≤ 140737488355328) :
    Calls Try.prog 16 #[.string b, .int .i64 n, .bool false] w fun e w' => e = .returned (.string ⟨(flipL (orL b.data.toList n) n).toArray⟩) ∧ Below w.heap.size w w' := by
  have HH := hid (fun W => P.bailiwickref08_room.calls b n _ W ((room_eq b n (by omega) (by omega)).trans (congrArg some (decide_eq_true ⟨Int.natCast_nonneg n, h1⟩))))
  have h8 : n % 8 < 8 := Nat.mod_lt _ (by decide)
  have q0 : (n : Int) / 8 < (b.size : Int) := by omega
  go_enter Try.func16, Try.ntmps16
  go_wp2_with fail
  refine (HH _).mono ?_
  rintro e w1 ⟨rfl, ⟨nd, rfl⟩⟩
  have hcv := Lib.run_convert_string_bytes (P := Try.prog) (w.drewN nd) 9 36 5 b Try.underlying9 Try.underlying36 (by kernel_rfl)
  have hmb := MB.new (w.drewN nd) 5 b
  have hcell : (Lib.bytesWorld (w.drewN nd) 5 b).cell? ⟨w.heap.size, n / 8, none⟩ = some (.int .u8 (((b.data.toList.getD (n / 8) 0).toNat : Nat) : Int)) := by
    rw [List.getD_eq_getElem?_getD, List.getElem?_eq_getElem (by simpa using h1)]
    exact hmb.cell (n / 8) (by simpa using h1)
  have hfree : (Lib.bytesWorld (w.drewN nd) 5 b).frozen? ⟨w.heap.size, n / 8, none⟩ = false := hmb.free (n / 8) (by simpa using h1)
  obtain ⟨d, hd1, hd2⟩ : ∃ d : UInt8, bits .or .u8 (((b.data.toList.getD (n / 8) 0).toNat : Nat) : Int) ((2 : Int) ^ (n % 8) % 256) = ((d.toNat : Nat) : Int) ∧ b.data.toList.set (n / 8) d = orL b.data.toList n :=
    ⟨_, or_byte _ _ (UInt8.toNat_lt _) h8, rfl⟩
  have hol : (orL b.data.toList n).length = b.size := by rw [← hd2, List.length_set]; rfl
  have hm2 := (hmb.set_ (n / 8) d).drew
  have hb2 := ((below_bytes (w.drewN nd) 5 b).setCell (p := ⟨w.heap.size, n / 8, none⟩) (Nat.le_refl _) (.int .u8 ((d.toNat : Nat) : Int))).drew
  rw [hd2] at hm2
  replace hm2 : MB ((Lib.bytesWorld (w.drewN nd) 5 b).setCell ⟨w.heap.size, n / 8, none⟩ (.int .u8 ((d.toNat : Nat) : Int))).drew w.heap.size 5 (orL b.data.toList n) := hm2
  replace hb2 : Below w.heap.size (w.drewN nd) ((Lib.bytesWorld (w.drewN nd) 5 b).setCell ⟨w.heap.size, n / 8, none⟩ (.int .u8 ((d.toNat : Nat) : Int))).drew := hb2
  have hcell2 : ((Lib.bytesWorld (w.drewN nd) 5 b).setCell ⟨w.heap.size, n / 8, none⟩ (.int .u8 ((d.toNat : Nat) : Int))).drew.cell? ⟨w.heap.size, n / 8, none⟩ = some (.int .u8 ((((orL b.data.toList n).getD (n / 8) 0).toNat : Nat) : Int)) := by
    rw [List.getD_eq_getElem?_getD, List.getElem?_eq_getElem (by omega)]
    exact hm2.cell (n / 8) (by omega)
  have hfree2 : ((Lib.bytesWorld (w.drewN nd) 5 b).setCell ⟨w.heap.size, n / 8, none⟩ (.int .u8 ((d.toNat : Nat) : Int))).drew.frozen? ⟨w.heap.size, n / 8, none⟩ = false := hm2.free (n / 8) (by omega)
  generalize (b.data.toList.getD (n / 8) 0).toNat = c at *
  have hd3 : bits .or .u8 (c : Int) ((2 : Int) ^ (n % 8) % 256) = ((d.toNat : Nat) : Int) := hd1
  clear hd1 hd2 hmb
  have HX := hid (And.intro hm2 (And.intro hb2 (And.intro hcell2 hfree2)))
  clear hm2 hb2 hcell2 hfree2
  go_wp2_with fail
  go_region
  obtain ⟨hm2, hb2, hcell2, hfree2⟩ := HX
  generalize ((Lib.bytesWorld (w.drewN nd) 5 b).setCell ⟨w.heap.size, n / 8, none⟩ (.int .u8 ((d.toNat : Nat) : Int))).drew = v at *
  clear hcell hfree hcv
  obtain ⟨d2, hd1, hd2⟩ : ∃ d2 : UInt8, bits .xor .u8 ((((orL b.data.toList n).getD (n / 8) 0).toNat : Nat) : Int) ((2 : Int) ^ (n % 8) % 256) = ((d2.toNat : Nat) : Int) ∧ (orL b.data.toList n).set (n / 8) d2 = flipL (orL b.data.toList n) n :=
    ⟨_, xor_byte _ _ (UInt8.toNat_lt _) h8, rfl⟩
  have hb3 := hb2.setCell (p := ⟨w.heap.size, n / 8, none⟩) (Nat.le_refl _) (.int .u8 ((d2.toNat : Nat) : Int))
  have hm3 := (hm2.set_ (n / 8) d2).drew
  have hcb := hm3.str (P := Try.prog) (src := 36) (dst := 9) Try.underlying36 (by kernel_rfl) (by kernel_rfl) (grownCap (w.drewN nd) b.size 0 5)
  rw [hd2, show (flipL (orL b.data.toList n) n).length = b.size by rw [← hd2, List.length_set]; exact hol] at hcb
  replace hcb : (convert 36 9 (.slice (some ⟨w.heap.size, 0, none⟩) b.size (grownCap (w.drewN nd) b.size 0 5))).run Try.prog (v.setCell ⟨w.heap.size, n / 8, none⟩ (.int .u8 ((d2.toNat : Nat) : Int))).drew = .ok (.string ⟨(flipL (orL b.data.toList n) n).toArray⟩) (v.setCell ⟨w.heap.size, n / 8, none⟩ (.int .u8 ((d2.toNat : Nat) : Int))).drew := hcb
  generalize ((orL b.data.toList n).getD (n / 8) 0).toNat = c2 at *
  have hd4 : bits .xor .u8 (c2 : Int) ((2 : Int) ^ (n % 8) % 256) = ((d2.toNat : Nat) : Int) := hd1
  have HB := hid hb3
  clear hb3 hd1 hm3 hd2 hm2 hb2
  go_wp2_with fail
  go_region
  go_wp2_with fail
  go_ret
  exact ⟨rfl, next (below_draws nd) HB.drew⟩
theorem ref_With.calls (a0 : ByteArray) (a1 : Int) (a2 : Bool) (r : ByteArray) (w : World) (h : ref_With.f a0 a1 a2 = some r) :
    Calls Try.prog 16 #[.string a0, .int .i64 a1, .bool a2] w fun e w' => e = .returned (.string r) ∧ Below w.heap.size w w' := by
  unfold ref_With.f at h
  split at h
  case isFalse => cases h
  rename_i hz
  obtain rfl := Option.some.inj h
  by_cases h0 : 0 ≤ a1 ∧ a1.toNat / 8 < a0.size
  · rw [if_pos h0]
    obtain ⟨h0, h1⟩ := h0
    obtain ⟨n, rfl⟩ := Int.eq_ofNat_of_zero_le h0
    cases a2 with
    | true => exact ref_With.on a0 n w h1 (by omega) hz.1
    | false => exact ref_With.off a0 n w h1 (by omega) hz.1
  · rw [if_neg h0]
    exact ref_With.out a0 a1 a2 w h0 hz.2.1 hz.2.2
end Go.Proofs.Ytbneljnmhofjfaa.G
