-- Written by a program of this session (gp.py), which drives the print with some lines turned. Not trusted: Lean checks it.
import Derived.Test.YtakbdknmfaoppaaMx0
namespace Go.Proofs.Ytakbdknmfaoppaa.M
open Go.RowKit Go.Proofs.YtakbdknmfaoppaaW.PrintWords Go.Proofs.YtakbdknmfaoppaaW.PrintLast Go.Proofs.YtakbdknmfaoppaaW.PrintMore
attribute [local go_sem] max2_int min2_int max_two min_two max_three min_three max_four min_four P.emod_u8 P.emod_u16 P.emod_u32
set_option linter.unusedVariables false
set_option linter.unusedSimpArgs false

-- PROVED BY HAND: function 15 (bailiwickref03_Hex)

-- PROVED BY HAND: function 18 (mac_Same)

-- NOT PRINTED: function 35 (sha_primes)

-- PROVED BY HAND: function 47 (bits_Mul64)

-- PROVED BY HAND: function 45 (sha_above)

-- PROVED BY HAND: function 36 (sha_behind)

-- NOT PRINTED: function 23 (sha_tables)

-- NOT PRINTED: function 32 (strings_Builder_String)

-- NOT PRINTED: function 46 (bits_Mul32)

-- PROVED BY HAND: function 37 (bits_Mul)

-- NOT PRINTED: function 48 (stringslite_HasPrefix)

-- NOT PRINTED: function 38 (strings_HasPrefix)

-- NOT PRINTED: function 50 (abi_NoEscape)

-- NOT PRINTED: function 44 (strings_Builder_copyCheck)

-- NOT PRINTED: function 51 (bytealg_MakeNoZero)

-- NOT PRINTED: function 49 (strings_Builder_grow)

-- NOT PRINTED: function 39 (strings_Builder_Grow)

-- NOT PRINTED: function 40 (strings_Builder_WriteString)

-- NOT PRINTED: function 41 (strings_Builder_Len)

-- NOT PRINTED: function 24 (strings_Repeat)

-- PROVED BY HAND: function 43 (bits_RotateLeft32)

-- NOT PRINTED: function 42 (sha_spread)

-- NOT PRINTED: function 25 (sha_state_mix)

-- PROVED BY HAND: function 12 (sha_Sum)

-- PROVED BY HAND: function 19 (mac_Mac)

/-! ### bailiwicklaw04_examples: function 17 -/
def bailiwicklaw04_examples.f (k : Nat)  : Option (Bool) := (Go.Proofs.Ytakbdknmfaoppaa.R.Mac.f (⟨#[107, 101, 121]⟩ : ByteArray) (⟨#[84, 104, 101, 32, 113, 117, 105, 99, 107, 32, 98, 114, 111, 119, 110, 32, 102, 111, 120, 32, 106, 117, 109, 112, 115, 32, 111, 118, 101, 114, 32, 116, 104, 101, 32, 108, 97, 122, 121, 32, 100, 111, 103]⟩ : ByteArray)).bind fun t101 => ((Go.Proofs.Ytakbdknmfaoppaa.P.bailiwickref03_Hex.f k t101).bind fun t102 => (if t102.toList = ([102, 55, 98, 99, 56, 51, 102, 52, 51, 48, 53, 51, 56, 52, 50, 52, 98, 49, 51, 50, 57, 56, 101, 54, 97, 97, 54, 102, 98, 49, 52, 51, 101, 102, 52, 100, 53, 57, 97, 49, 52, 57, 52, 54, 49, 55, 53, 57, 57, 55, 52, 55, 57, 100, 98, 99, 50, 100, 49, 97, 51, 99, 100, 56] : List UInt8) then ((Go.Proofs.Ytakbdknmfaoppaa.P.mac_Same.f k (⟨#[97]⟩ : ByteArray) (⟨#[97]⟩ : ByteArray)).bind fun t103 => (some t103)) else (some false)))
theorem bailiwicklaw04_examples.mono : ∀ k, LeO (bailiwicklaw04_examples.f k ) (bailiwicklaw04_examples.f (k + 1) ) := by
  intro  k
  unfold bailiwicklaw04_examples.f
  repeat' first
      | (with_reducible exact Go.Proofs.Ytakbdknmfaoppaa.P.bailiwickref03_Hex.mono _ _)
      | (with_reducible exact Go.Proofs.Ytakbdknmfaoppaa.P.mac_Same.mono _ _ _)
      | (with_reducible exact LeO.refl _)
      | (with_reducible exact LeO.none _)
      | (with_reducible refine LeO.ite ?_ ?_)
      | (with_reducible refine LeO.bind ?_ (fun _ => ?_))
      | exact Go.Proofs.Ytakbdknmfaoppaa.P.bailiwickref03_Hex.mono _ _
      | exact Go.Proofs.Ytakbdknmfaoppaa.P.mac_Same.mono _ _ _
      | exact LeO.none _
      | refine LeO.ite ?_ ?_
      | refine LeO.bind ?_ (fun _ => ?_)
set_option maxHeartbeats 8000000 in
set_option maxRecDepth 100000 in
theorem bailiwicklaw04_examples.calls (k : Nat)  (r : Bool) (w : World) (h : bailiwicklaw04_examples.f k  = some r) :
    Calls Try.prog 17 #[] w fun e w' => e = .returned (.bool r) ∧ Below w.heap.size w w' := by
  have HB := Aside0.mk (Below.refl w.heap.size w)
  have H : ((Go.Proofs.Ytakbdknmfaoppaa.R.Mac.f (⟨#[107, 101, 121]⟩ : ByteArray) (⟨#[84, 104, 101, 32, 113, 117, 105, 99, 107, 32, 98, 114, 111, 119, 110, 32, 102, 111, 120, 32, 106, 117, 109, 112, 115, 32, 111, 118, 101, 114, 32, 116, 104, 101, 32, 108, 97, 122, 121, 32, 100, 111, 103]⟩ : ByteArray)).bind fun t101 => ((Go.Proofs.Ytakbdknmfaoppaa.P.bailiwickref03_Hex.f k t101).bind fun t102 => (if t102.toList = ([102, 55, 98, 99, 56, 51, 102, 52, 51, 48, 53, 51, 56, 52, 50, 52, 98, 49, 51, 50, 57, 56, 101, 54, 97, 97, 54, 102, 98, 49, 52, 51, 101, 102, 52, 100, 53, 57, 97, 49, 52, 57, 52, 54, 49, 55, 53, 57, 57, 55, 52, 55, 57, 100, 98, 99, 50, 100, 49, 97, 51, 99, 100, 56] : List UInt8) then ((Go.Proofs.Ytakbdknmfaoppaa.P.mac_Same.f k (⟨#[97]⟩ : ByteArray) (⟨#[97]⟩ : ByteArray)).bind fun t103 => (some t103)) else (some false)))) = some r := h
  clear h
  replace H := Option.bind_eq_some_iff.mp H
  obtain ⟨t101, A10, H⟩ := H
  replace H : ((Go.Proofs.Ytakbdknmfaoppaa.P.bailiwickref03_Hex.f k t101).bind fun t102 => (if t102.toList = ([102, 55, 98, 99, 56, 51, 102, 52, 51, 48, 53, 51, 56, 52, 50, 52, 98, 49, 51, 50, 57, 56, 101, 54, 97, 97, 54, 102, 98, 49, 52, 51, 101, 102, 52, 100, 53, 57, 97, 49, 52, 57, 52, 54, 49, 55, 53, 57, 57, 55, 52, 55, 57, 100, 98, 99, 50, 100, 49, 97, 51, 99, 100, 56] : List UInt8) then ((Go.Proofs.Ytakbdknmfaoppaa.P.mac_Same.f k (⟨#[97]⟩ : ByteArray) (⟨#[97]⟩ : ByteArray)).bind fun t103 => (some t103)) else (some false))) = some r := H
  have A1 := Aside0.mk A10
  clear A10
  replace H := Option.bind_eq_some_iff.mp H
  obtain ⟨t102, A20, H⟩ := H
  replace H : (if t102.toList = ([102, 55, 98, 99, 56, 51, 102, 52, 51, 48, 53, 51, 56, 52, 50, 52, 98, 49, 51, 50, 57, 56, 101, 54, 97, 97, 54, 102, 98, 49, 52, 51, 101, 102, 52, 100, 53, 57, 97, 49, 52, 57, 52, 54, 49, 55, 53, 57, 57, 55, 52, 55, 57, 100, 98, 99, 50, 100, 49, 97, 51, 99, 100, 56] : List UInt8) then ((Go.Proofs.Ytakbdknmfaoppaa.P.mac_Same.f k (⟨#[97]⟩ : ByteArray) (⟨#[97]⟩ : ByteArray)).bind fun t103 => (some t103)) else (some false)) = some r := H
  have A2 := Aside0.mk A20
  clear A20
  by_cases c3 : t102.toList = ([102, 55, 98, 99, 56, 51, 102, 52, 51, 48, 53, 51, 56, 52, 50, 52, 98, 49, 51, 50, 57, 56, 101, 54, 97, 97, 54, 102, 98, 49, 52, 51, 101, 102, 52, 100, 53, 57, 97, 49, 52, 57, 52, 54, 49, 55, 53, 57, 57, 55, 52, 55, 57, 100, 98, 99, 50, 100, 49, 97, 51, 99, 100, 56] : List UInt8)
  · rw [if_pos c3] at H
    have c3b0 : (t102.toList == ([102, 55, 98, 99, 56, 51, 102, 52, 51, 48, 53, 51, 56, 52, 50, 52, 98, 49, 51, 50, 57, 56, 101, 54, 97, 97, 54, 102, 98, 49, 52, 51, 101, 102, 52, 100, 53, 57, 97, 49, 52, 57, 52, 54, 49, 55, 53, 57, 57, 55, 52, 55, 57, 100, 98, 99, 50, 100, 49, 97, 51, 99, 100, 56] : List UInt8)) = true := beq_iff_eq.mpr c3
    have c3b1 : (t102.toList != ([102, 55, 98, 99, 56, 51, 102, 52, 51, 48, 53, 51, 56, 52, 50, 52, 98, 49, 51, 50, 57, 56, 101, 54, 97, 97, 54, 102, 98, 49, 52, 51, 101, 102, 52, 100, 53, 57, 97, 49, 52, 57, 52, 54, 49, 55, 53, 57, 57, 55, 52, 55, 57, 100, 98, 99, 50, 100, 49, 97, 51, 99, 100, 56] : List UInt8)) = false := bne_eq_false_iff_eq.mpr c3
    clear c3
    replace H := Option.bind_eq_some_iff.mp H
    obtain ⟨t103, A40, H⟩ := H
    replace H : (some t103) = some r := H
    have A4 := Aside0.mk A40
    clear A40
    obtain rfl := Option.some.inj H
    go_enter Try.func17, Try.ntmps17
    (try dsimp only [List.append])
    go_wp2_with (first | ((with_reducible refine gate_callee (f := 19) rfl ?_); refine goesL_ (some 2) rfl rfl Try.func19 (by kernel_rfl) rfl #[.string (⟨#[107, 101, 121]⟩ : ByteArray), .string (⟨#[84, 104, 101, 32, 113, 117, 105, 99, 107, 32, 98, 114, 111, 119, 110, 32, 102, 111, 120, 32, 106, 117, 109, 112, 115, 32, 111, 118, 101, 114, 32, 116, 104, 101, 32, 108, 97, 122, 121, 32, 100, 111, 103]⟩ : ByteArray)] rfl (by (try simp only [List.map_toArray, List.map_cons, List.map_nil]); first | done | rfl | (simp only [List.length_drop, List.length_take]; rfl)) ?_; (with_reducible refine (Go.Proofs.Ytakbdknmfaoppaa.R.Mac.calls (⟨#[107, 101, 121]⟩ : ByteArray) (⟨#[84, 104, 101, 32, 113, 117, 105, 99, 107, 32, 98, 114, 111, 119, 110, 32, 102, 111, 120, 32, 106, 117, 109, 112, 115, 32, 111, 118, 101, 114, 32, 116, 104, 101, 32, 108, 97, 122, 121, 32, 100, 111, 103]⟩ : ByteArray) t101 _ A1.out).mono ?_); rintro e w5 ⟨rfl, hb⟩; refine ⟨_, rfl, ?_⟩; have n0_ := Aside0.mk (below_step (by repeat (first | (with_reducible first | exact HB.out | apply below_alloc | apply pw_below_drewN | apply below_drew1) | exact HB.out)) hb); clear HB; have HB := n0_; clear n0_; (try clear hb); (try clear hb2); (try clear hk); (try clear hi)) | ((with_reducible refine gate_callee (f := 15) rfl ?_); refine goesL_ (some 3) rfl rfl Try.func15 (by kernel_rfl) rfl #[.string t101] rfl (by (try simp only [List.map_toArray, List.map_cons, List.map_nil]); first | done | rfl | (simp only [List.length_drop, List.length_take]; rfl)) ?_; (with_reducible refine (Go.Proofs.Ytakbdknmfaoppaa.P.bailiwickref03_Hex.calls k t101 t102 _ A2.out).mono ?_); rintro e w6 ⟨rfl, hb⟩; refine ⟨_, rfl, ?_⟩; have n0_ := Aside0.mk (below_step (by repeat (first | (with_reducible first | exact HB.out | apply below_alloc | apply pw_below_drewN | apply below_drew1) | exact HB.out)) hb); clear HB; have HB := n0_; clear n0_; (try clear hb); (try clear hb2); (try clear hk); (try clear hi)) | (go_at_call 18; (with_reducible refine (Go.Proofs.Ytakbdknmfaoppaa.P.mac_Same.calls k (⟨#[97]⟩ : ByteArray) (⟨#[97]⟩ : ByteArray) t103 _ A4.out).mono ?_); rintro e w7 ⟨rfl, hb⟩; have n0_ := Aside0.mk (below_step (by repeat (first | (with_reducible first | exact HB.out | apply below_alloc | apply pw_below_drewN | apply below_drew1) | exact HB.out)) hb); clear HB; have HB := n0_; clear n0_; (try clear hb); (try clear hb2); (try clear hk); (try clear hi)))
    go_ret
    exact ⟨by first | rfl | (simp [errW_none, errW_some] <;> rfl) | (simp [*, errW_none, errW_some] <;> rfl), by repeat (first | (with_reducible first | exact HB.out | apply below_alloc | apply pw_below_drewN | apply below_drew1) | exact HB.out)⟩
  · rw [if_neg c3] at H
    have c3b0 : (t102.toList == ([102, 55, 98, 99, 56, 51, 102, 52, 51, 48, 53, 51, 56, 52, 50, 52, 98, 49, 51, 50, 57, 56, 101, 54, 97, 97, 54, 102, 98, 49, 52, 51, 101, 102, 52, 100, 53, 57, 97, 49, 52, 57, 52, 54, 49, 55, 53, 57, 57, 55, 52, 55, 57, 100, 98, 99, 50, 100, 49, 97, 51, 99, 100, 56] : List UInt8)) = false := beq_eq_false_iff_ne.mpr c3
    have c3b1 : (t102.toList != ([102, 55, 98, 99, 56, 51, 102, 52, 51, 48, 53, 51, 56, 52, 50, 52, 98, 49, 51, 50, 57, 56, 101, 54, 97, 97, 54, 102, 98, 49, 52, 51, 101, 102, 52, 100, 53, 57, 97, 49, 52, 57, 52, 54, 49, 55, 53, 57, 57, 55, 52, 55, 57, 100, 98, 99, 50, 100, 49, 97, 51, 99, 100, 56] : List UInt8)) = true := bne_iff_ne.mpr c3
    obtain rfl := Option.some.inj H
    go_enter Try.func17, Try.ntmps17
    (try dsimp only [List.append])
    go_wp2_with (first | ((with_reducible refine gate_callee (f := 19) rfl ?_); refine goesL_ (some 2) rfl rfl Try.func19 (by kernel_rfl) rfl #[.string (⟨#[107, 101, 121]⟩ : ByteArray), .string (⟨#[84, 104, 101, 32, 113, 117, 105, 99, 107, 32, 98, 114, 111, 119, 110, 32, 102, 111, 120, 32, 106, 117, 109, 112, 115, 32, 111, 118, 101, 114, 32, 116, 104, 101, 32, 108, 97, 122, 121, 32, 100, 111, 103]⟩ : ByteArray)] rfl (by (try simp only [List.map_toArray, List.map_cons, List.map_nil]); first | done | rfl | (simp only [List.length_drop, List.length_take]; rfl)) ?_; (with_reducible refine (Go.Proofs.Ytakbdknmfaoppaa.R.Mac.calls (⟨#[107, 101, 121]⟩ : ByteArray) (⟨#[84, 104, 101, 32, 113, 117, 105, 99, 107, 32, 98, 114, 111, 119, 110, 32, 102, 111, 120, 32, 106, 117, 109, 112, 115, 32, 111, 118, 101, 114, 32, 116, 104, 101, 32, 108, 97, 122, 121, 32, 100, 111, 103]⟩ : ByteArray) t101 _ A1.out).mono ?_); rintro e w8 ⟨rfl, hb⟩; refine ⟨_, rfl, ?_⟩; have n0_ := Aside0.mk (below_step (by repeat (first | (with_reducible first | exact HB.out | apply below_alloc | apply pw_below_drewN | apply below_drew1) | exact HB.out)) hb); clear HB; have HB := n0_; clear n0_; (try clear hb); (try clear hb2); (try clear hk); (try clear hi)) | ((with_reducible refine gate_callee (f := 15) rfl ?_); refine goesL_ (some 3) rfl rfl Try.func15 (by kernel_rfl) rfl #[.string t101] rfl (by (try simp only [List.map_toArray, List.map_cons, List.map_nil]); first | done | rfl | (simp only [List.length_drop, List.length_take]; rfl)) ?_; (with_reducible refine (Go.Proofs.Ytakbdknmfaoppaa.P.bailiwickref03_Hex.calls k t101 t102 _ A2.out).mono ?_); rintro e w9 ⟨rfl, hb⟩; refine ⟨_, rfl, ?_⟩; have n0_ := Aside0.mk (below_step (by repeat (first | (with_reducible first | exact HB.out | apply below_alloc | apply pw_below_drewN | apply below_drew1) | exact HB.out)) hb); clear HB; have HB := n0_; clear n0_; (try clear hb); (try clear hb2); (try clear hk); (try clear hi)))
    go_ret
    exact ⟨by first | rfl | (simp [errW_none, errW_some] <;> rfl) | (simp [*, errW_none, errW_some] <;> rfl), by repeat (first | (with_reducible first | exact HB.out | apply below_alloc | apply pw_below_drewN | apply below_drew1) | exact HB.out)⟩

-- NOT PRINTED: function 7 (bailiwicklaw04_MacSame)

/-! ### bailiwicklaw04_MacMade: function 8 -/
def bailiwicklaw04_MacMade.l0 : Nat → ByteArray → ByteArray → Bool → List Int → List Int → Int → Option (Bool)
  | 0, _, _, _, _, _, _ => none
  | k + 1, x0, x1, x5, x6, x7, x8 => if x8 < 64 then (if x8 < (x0.size : Int) then (if 0 ≤ x8 then (if x8 < (x6.length : Int) then (if x8 < (x7.length : Int) then (bailiwicklaw04_MacMade.l0 k x0 x1 x5 (x6.set (x8 : Int).toNat (Go.bits .xor .u8 (bt x0 x8) 54)) (x7.set (x8 : Int).toNat (Go.bits .xor .u8 (bt x0 x8) 92)) (wrap64 (x8 + 1))) else (none)) else (none)) else (none)) else (if 0 ≤ x8 then (if x8 < (x6.length : Int) then (if x8 < (x7.length : Int) then (bailiwicklaw04_MacMade.l0 k x0 x1 x5 (x6.set (x8 : Int).toNat (Go.bits .xor .u8 0 54)) (x7.set (x8 : Int).toNat (Go.bits .xor .u8 0 92)) (wrap64 (x8 + 1))) else (none)) else (none)) else (none))) else (if x5 = true then ((Go.Proofs.Ytakbdknmfaoppaa.R.Mac.f x0 x1).bind fun t119 => (if (strOfNums x6).size + x1.size ≤ 9223372036854775807 then ((Go.Proofs.Ytakbdknmfaoppaa.R.Sum.f ((strOfNums x6) ++ x1)).bind fun t120 => (if (strOfNums x7).size + t120.size ≤ 9223372036854775807 then ((Go.Proofs.Ytakbdknmfaoppaa.R.Sum.f ((strOfNums x7) ++ t120)).bind fun t121 => (some (t119.toList == t121.toList))) else (none))) else (none))) else (some false))
def bailiwicklaw04_MacMade.f (k : Nat) (a0 : ByteArray) (a1 : ByteArray) : Option (Bool) := (bailiwicklaw04_examples.f k).bind fun t108 => (if t108 = true then (if 0 ≤ (mn (a0.size : Int) 64) then (if (mn (a0.size : Int) 64) ≤ (a0.size : Int) then (if 0 ≤ (mn (a1.size : Int) 200) then (if (mn (a1.size : Int) 200) ≤ (a1.size : Int) then (if 64 ≤ 281474976710656 then (bailiwicklaw04_MacMade.l0 k (a0.extract 0 ((mn (a0.size : Int) 64) : Int).toNat) (a1.extract 0 ((mn (a1.size : Int) 200) : Int).toNat) t108 (List.replicate 64 0) (List.replicate 64 0) 0) else (none)) else (none)) else (none)) else (none)) else (none)) else (some false))
theorem bailiwicklaw04_MacMade.mono_l : ∀ k, (∀ y0 y1 y2 y3 y4 y5, LeO (bailiwicklaw04_MacMade.l0 k y0 y1 y2 y3 y4 y5) (bailiwicklaw04_MacMade.l0 (k + 1) y0 y1 y2 y3 y4 y5))
  | 0 => fun _ _ _ _ _ _ r h => by simp [bailiwicklaw04_MacMade.l0] at h
  | k + 1 => by
    have ih0 := bailiwicklaw04_MacMade.mono_l k
    · intro y0 y1 y2 y3 y4 y5
      unfold bailiwicklaw04_MacMade.l0
      repeat' first
      | (with_reducible exact ih0 _ _ _ _ _ _)
      | (with_reducible exact bailiwicklaw04_examples.mono _)
      | (with_reducible exact LeO.refl _)
      | (with_reducible exact LeO.none _)
      | (with_reducible refine LeO.ite ?_ ?_)
      | (with_reducible refine LeO.bind ?_ (fun _ => ?_))
      | exact ih0 _ _ _ _ _ _
      | exact bailiwicklaw04_examples.mono _
      | exact LeO.none _
      | refine LeO.ite ?_ ?_
      | refine LeO.bind ?_ (fun _ => ?_)
theorem bailiwicklaw04_MacMade.mono : ∀ a0 a1 k, LeO (bailiwicklaw04_MacMade.f k a0 a1) (bailiwicklaw04_MacMade.f (k + 1) a0 a1) := by
  intro a0 a1 k
  have ih0 := bailiwicklaw04_MacMade.mono_l k
  unfold bailiwicklaw04_MacMade.f
  repeat' first
      | (with_reducible exact ih0 _ _ _ _ _ _)
      | (with_reducible exact bailiwicklaw04_examples.mono _)
      | (with_reducible exact LeO.refl _)
      | (with_reducible exact LeO.none _)
      | (with_reducible refine LeO.ite ?_ ?_)
      | (with_reducible refine LeO.bind ?_ (fun _ => ?_))
      | exact ih0 _ _ _ _ _ _
      | exact bailiwicklaw04_examples.mono _
      | exact LeO.none _
      | refine LeO.ite ?_ ?_
      | refine LeO.bind ?_ (fun _ => ?_)
def bailiwicklaw04_MacMade.T16 : Bool × List (List Nat × List Nat) := (true, [([], []), ([0], [0]), ([1], [1]), ([1], [1]), ([2, 3, 1, 1], [1, 2, 3]), ([1], [1]), ([5, 1], [1, 5]), ([1], [1]), ([7, 1], [1, 7]), ([1], [1]), ([8, 9, 1], [1, 8, 9]), ([10, 4, 1], [1, 10]), ([6, 11, 1], [1, 6, 11]), ([12, 11, 1], [1, 12]), ([4, 13, 1], [1, 4, 13]), ([1, 14], [1, 14]), ([15, 13, 0, 1, 2, 3, 4, 5, 6, 7, 8, 9, 10, 11, 12, 13, 14, 15], [15])])
def bailiwicklaw04_MacMade.B16 : List Nat := [0, 1, 3, 3, 15, 3, 35, 3, 131, 3, 899, 1951, 4095, 8191, 16383, 32767, 65535]
theorem bailiwicklaw04_MacMade.tab16 : rtab .any (opsOf Try.f8 16) = bailiwicklaw04_MacMade.T16 := by kernel_rfl
theorem bailiwicklaw04_MacMade.bits16 : waitsOk bailiwicklaw04_MacMade.T16.2 bailiwicklaw04_MacMade.B16 = true := by kernel_rfl
set_option maxHeartbeats 8000000 in
set_option maxRecDepth 100000 in
theorem bailiwicklaw04_MacMade.calls (k : Nat) (a0 : ByteArray) (a1 : ByteArray) (r : Bool) (w : World) (h : bailiwicklaw04_MacMade.f k a0 a1 = some r) :
    Calls Try.prog 8 #[.string a0, .string a1] w fun e w' => e = .returned (.bool r) ∧ Below w.heap.size w w' := by
  have HB := Aside0.mk (Below.refl w.heap.size w)
  have H : ((bailiwicklaw04_examples.f k).bind fun t108 => (if t108 = true then (if 0 ≤ (mn (a0.size : Int) 64) then (if (mn (a0.size : Int) 64) ≤ (a0.size : Int) then (if 0 ≤ (mn (a1.size : Int) 200) then (if (mn (a1.size : Int) 200) ≤ (a1.size : Int) then (if 64 ≤ 281474976710656 then (bailiwicklaw04_MacMade.l0 k (a0.extract 0 ((mn (a0.size : Int) 64) : Int).toNat) (a1.extract 0 ((mn (a1.size : Int) 200) : Int).toNat) t108 (List.replicate 64 0) (List.replicate 64 0) 0) else (none)) else (none)) else (none)) else (none)) else (none)) else (some false))) = some r := h
  clear h
  replace H := Option.bind_eq_some_iff.mp H
  obtain ⟨t108, A30, H⟩ := H
  replace H : (if t108 = true then (if 0 ≤ (mn (a0.size : Int) 64) then (if (mn (a0.size : Int) 64) ≤ (a0.size : Int) then (if 0 ≤ (mn (a1.size : Int) 200) then (if (mn (a1.size : Int) 200) ≤ (a1.size : Int) then (if 64 ≤ 281474976710656 then (bailiwicklaw04_MacMade.l0 k (a0.extract 0 ((mn (a0.size : Int) 64) : Int).toNat) (a1.extract 0 ((mn (a1.size : Int) 200) : Int).toNat) t108 (List.replicate 64 0) (List.replicate 64 0) 0) else (none)) else (none)) else (none)) else (none)) else (none)) else (some false)) = some r := H
  have A3 := Aside0.mk A30
  clear A30
  by_cases c4 : t108 = true
  · subst c4
    have H1 : (if 0 ≤ (mn (a0.size : Int) 64) then (if (mn (a0.size : Int) 64) ≤ (a0.size : Int) then (if 0 ≤ (mn (a1.size : Int) 200) then (if (mn (a1.size : Int) 200) ≤ (a1.size : Int) then (if 64 ≤ 281474976710656 then (bailiwicklaw04_MacMade.l0 k (a0.extract 0 ((mn (a0.size : Int) 64) : Int).toNat) (a1.extract 0 ((mn (a1.size : Int) 200) : Int).toNat) true (List.replicate 64 0) (List.replicate 64 0) 0) else (none)) else (none)) else (none)) else (none)) else (none)) = some r := by first | (rw [if_pos rfl] at H; exact H) | (rw [if_pos trivial] at H; exact H)
    clear H
    have H := H1
    clear H1
    obtain ⟨ji5, hji5⟩ : ∃ j_ : Int, (mn (a0.size : Int) 64) = j_ := ⟨_, rfl⟩
    replace H : (if 0 ≤ (ji5) then (if (ji5) ≤ (a0.size : Int) then (if 0 ≤ (mn (a1.size : Int) 200) then (if (mn (a1.size : Int) 200) ≤ (a1.size : Int) then (if 64 ≤ 281474976710656 then (bailiwicklaw04_MacMade.l0 k (a0.extract 0 ((ji5) : Int).toNat) (a1.extract 0 ((mn (a1.size : Int) 200) : Int).toNat) true (List.replicate 64 0) (List.replicate 64 0) 0) else (none)) else (none)) else (none)) else (none)) else (none)) = some r := by first | (rw [hji5] at H; exact H) | (simp only [hji5] at H ⊢; exact H)
    (try rw [hji5] at A3)
    (try (have hji5h : ji5 ≤ 64 := by (rw [← hji5]; unfold mn; (repeat' split) <;> omega)))
    (try (have hji5g : ji5 ≤ 64 := by omega))
    (try (have hji5l : 0 ≤ ji5 := by (rw [← hji5]; unfold mn; (repeat' split) <;> omega)))
    (try (have hji5m : 0 ≤ ji5 := by omega))
    have hji5_ : (if 64 < (a0.size : Int) then 64 else (a0.size : Int)) = ji5 := hji5
    obtain ⟨bx5_a0, hbx5_a0⟩ : ∃ b_ : ByteArray, (a0.extract 0 (ji5 : Int).toNat) = b_ := ⟨_, rfl⟩
    have hbx5_a0z : bx5_a0.size ≤ 64 := by rw [← hbx5_a0, ByteArray.size_extract]; omega
    simp only [hbx5_a0] at H
    by_cases c6 : 0 ≤ (ji5)
    · rw [if_pos c6] at H
      have c6b0 := eq_true c6
      have c6b1 : decide (0 ≤ (ji5)) = true := decide_eq_true c6
      clear c6
      by_cases c7 : (ji5) ≤ (a0.size : Int)
      · rw [if_pos c7] at H
        have c7b0 := eq_true c7
        have c7b1 : decide ((ji5) ≤ (a0.size : Int)) = true := decide_eq_true c7
        clear c7
        obtain ⟨ji8, hji8⟩ : ∃ j_ : Int, (mn (a1.size : Int) 200) = j_ := ⟨_, rfl⟩
        replace H : (if 0 ≤ (ji8) then (if (ji8) ≤ (a1.size : Int) then (if 64 ≤ 281474976710656 then (bailiwicklaw04_MacMade.l0 k bx5_a0 (a1.extract 0 ((ji8) : Int).toNat) true (List.replicate 64 0) (List.replicate 64 0) 0) else (none)) else (none)) else (none)) = some r := by first | (rw [hji8] at H; exact H) | (simp only [hji8] at H ⊢; exact H)
        (try rw [hji8] at A3)
        (try (have hji8h : ji8 ≤ 200 := by (rw [← hji8]; unfold mn; (repeat' split) <;> omega)))
        (try (have hji8g : ji8 ≤ 64 := by omega))
        (try (have hji8l : 0 ≤ ji8 := by (rw [← hji8]; unfold mn; (repeat' split) <;> omega)))
        (try (have hji8m : 0 ≤ ji8 := by omega))
        have hji8_ : (if 200 < (a1.size : Int) then 200 else (a1.size : Int)) = ji8 := hji8
        obtain ⟨bx8_a1, hbx8_a1⟩ : ∃ b_ : ByteArray, (a1.extract 0 (ji8 : Int).toNat) = b_ := ⟨_, rfl⟩
        have hbx8_a1z : bx8_a1.size ≤ 200 := by rw [← hbx8_a1, ByteArray.size_extract]; omega
        simp only [hbx8_a1] at H
        by_cases c9 : 0 ≤ (ji8)
        · rw [if_pos c9] at H
          have c9b0 := eq_true c9
          have c9b1 : decide (0 ≤ (ji8)) = true := decide_eq_true c9
          clear c9
          by_cases c10 : (ji8) ≤ (a1.size : Int)
          · rw [if_pos c10] at H
            have c10b0 := eq_true c10
            have c10b1 : decide ((ji8) ≤ (a1.size : Int)) = true := decide_eq_true c10
            clear c10
            by_cases c11 : 64 ≤ 281474976710656
            · rw [if_pos c11] at H
              have c11b0 := eq_true c11
              have c11b1 : decide (64 ≤ 281474976710656) = true := decide_eq_true c11
              clear c11
              obtain ⟨y109, hy109⟩ : ∃ y_ : List Int, y_ = (List.replicate 64 0) := ⟨_, rfl⟩
              replace H : (bailiwicklaw04_MacMade.l0 k bx5_a0 bx8_a1 true y109 (List.replicate 64 0) 0) = some r := by first | (rw [hy109]; with_reducible exact H) | (have H2_ := (Option.bind_some _ _).symm.trans H; rw [hy109]; with_reducible exact H2_) | (have H2_ := (Option.bind_some _ _).symm.trans H; with_reducible exact H2_) | with_reducible exact H | (rw [hy109]; exact H) | exact H
              have Ny109 := Aside0.mk hy109
              clear hy109
              obtain ⟨y112, hy112⟩ : ∃ y_ : List Int, y_ = (List.replicate 64 0) := ⟨_, rfl⟩
              replace H : (bailiwicklaw04_MacMade.l0 k bx5_a0 bx8_a1 true y109 y112 0) = some r := by first | (rw [hy112]; with_reducible exact H) | (have H2_ := (Option.bind_some _ _).symm.trans H; rw [hy112]; with_reducible exact H2_) | (have H2_ := (Option.bind_some _ _).symm.trans H; with_reducible exact H2_) | with_reducible exact H | (rw [hy112]; exact H) | exact H
              have Ny112 := Aside0.mk hy112
              clear hy112
              have H' := Aside0.mk H
              clear H
              go_enter Try.func8, Try.ntmps8
              (try dsimp only [List.append])
              go_wp2_with (first | ((with_reducible refine gate_callee (f := 17) rfl ?_); refine goesL_ (some 10) rfl rfl Try.func17 (by kernel_rfl) rfl #[] rfl (by (try simp only [List.map_toArray, List.map_cons, List.map_nil]); first | done | rfl | (simp only [List.length_drop, List.length_take]; rfl)) ?_; (with_reducible refine (bailiwicklaw04_examples.calls k  true _ A3.out).mono ?_); rintro e w12 ⟨rfl, hb⟩; refine ⟨_, rfl, ?_⟩; have n0_ := Aside0.mk (below_step (by repeat (first | (with_reducible first | exact HB.out | apply below_alloc | apply pw_below_drewN | apply below_drew1) | exact HB.out)) hb); clear HB; have HB := n0_; clear n0_; (try clear hb); (try clear hb2); (try clear hk); (try clear hi)) | ((with_reducible refine gate_dst (N := 23) rfl ?_); refine Kd.R_make (Kd.int .u8) _ 5 rfl (N := 23) rfl 26 _ _ rfl 64 rfl rfl Try.underlying26 (.int .u8 0) 1 info5 rfl (by decide) (by omega) 0 (ok := fun _ => True) (okp := fun _ => True) rfl (fun _ hk => hk) trivial (by omega) (by omega) (Below.refl _ _) (Nat.le_refl _) ?_; intro v110 w13 ho14 hb hg_ hnew_; clear hg_ hnew_; (first | rw [← Ny109.out] at ho14 | (simp only [Int.reduceToNat] at ho14; rw [← Ny109.out] at ho14)); have n0_ := Aside0.mk (Kd.R_lower ho14 (below_size (by repeat (first | (with_reducible first | exact HB.out | apply below_alloc | apply pw_below_drewN | apply below_drew1) | exact HB.out)))); have n1_ := Aside0.mk (below_step (by repeat (first | (with_reducible first | exact HB.out | apply below_alloc | apply pw_below_drewN | apply below_drew1) | exact HB.out)) hb); clear HB; have HO111 := n0_; have HB := n1_; clear n0_ n1_; clear hb ho14) | ((with_reducible refine gate_dst (N := 24) rfl ?_); refine Kd.R_make (Kd.int .u8) _ 5 rfl (N := 24) rfl 26 _ _ rfl 64 rfl rfl Try.underlying26 (.int .u8 0) 1 info5 rfl (by decide) (by omega) 0 (ok := fun _ => True) (okp := fun _ => True) rfl (fun _ hk => hk) trivial (by omega) (by omega) (Below.refl _ _) (Nat.le_refl _) ?_; intro v113 w15 ho16 hb hg_ hnew_; clear hg_ hnew_; (first | rw [← Ny112.out] at ho16 | (simp only [Int.reduceToNat] at ho16; rw [← Ny112.out] at ho16)); have n0_ := Aside0.mk (Kd.R_elder' (by (with_reducible repeat (first | apply Kd.R_alloc | apply Kd.R_drewN | apply Kd.R_drew)); exact HO111.out) (Kd.R_base ho16) hb); have n1_ := Aside0.mk (Kd.R_lower (Kd.R_new' ho16 (Kd.R_lt (by (with_reducible repeat (first | apply Kd.R_alloc | apply Kd.R_drewN | apply Kd.R_drew)); exact HO111.out))) (below_size (by repeat (first | (with_reducible first | exact HB.out | apply below_alloc | apply pw_below_drewN | apply below_drew1) | exact HB.out)))); have n2_ := Aside0.mk (below_step (by repeat (first | (with_reducible first | exact HB.out | apply below_alloc | apply pw_below_drewN | apply below_drew1) | exact HB.out)) hb); clear HO111; clear HB; have HO111 := n0_; have HO114 := n1_; have HB := n2_; clear n0_ n1_ n2_; clear hb ho16))
              go_loopg [8] k (fun kq v8 w' => ∃ (x6_1 : List Int) (x7_1 : List Int) (x8_1 : Int), v8 = .int .i64 x8_1 ∧ Aside0 (bailiwicklaw04_MacMade.l0 kq bx5_a0 bx8_a1 true x6_1 x7_1 x8_1 = some r) ∧ Aside0 (kq ≤ k) ∧ Aside0 (Kd.R (Kd.int .u8) 5 w' w.heap.size (fun k_ => some k_ ≠ (v113 : Value).ownBlock) v110 x6_1) ∧ Aside0 (Kd.R (Kd.int .u8) 5 w' w.heap.size (fun k_ => some k_ ≠ (v110 : Value).ownBlock) v113 x7_1) ∧ Aside0 (Below w.heap.size w w'))
              case atStart => exact ⟨(y109), (y112), (0), (by first | rfl | (simp; done) | (simp [*]; done)), H', ⟨Nat.le_refl _⟩, ⟨by (with_reducible repeat (first | apply Kd.R_alloc | apply Kd.R_drewN | apply Kd.R_drew)); exact Kd.R_mono HO111.out (fun _ hk => hk.2)⟩, ⟨by (with_reducible repeat (first | apply Kd.R_alloc | apply Kd.R_drewN | apply Kd.R_drew)); exact Kd.R_mono HO114.out (fun _ hk => hk.2)⟩, ⟨by repeat (first | (with_reducible first | exact HB.out | apply below_alloc | apply pw_below_drewN | apply below_drew1) | exact HB.out)⟩⟩
              case round =>
                clear H'
                try clear c1
                try clear p2
                try clear c4
                try clear c6
                try clear c6b0
                try clear c6b1
                try clear c7
                try clear c7b0
                try clear c7b1
                try clear c8
                try clear c9
                try clear c9b0
                try clear c9b1
                try clear c10
                try clear c10b0
                try clear c10b1
                try clear c11
                try clear c11b0
                try clear c11b1
                obtain ⟨x6_1, x7_1, x8_1, rfl, HA, HK1, HO_6, HO_7, HB⟩ := hrel
                cases gk with
                | zero => exact absurd HA.out (by simp [bailiwicklaw04_MacMade.l0])
                | succ k1 =>
                  have H := HA.out
                  clear HA
                  simp only [bailiwicklaw04_MacMade.l0] at H
                  by_cases c17 : x8_1 < 64
                  · rw [if_pos c17] at H
                    have c17b0 : decide (x8_1 < 64) = true := decide_eq_true c17
                    clear c17
                    by_cases c18 : x8_1 < (bx5_a0.size : Int)
                    · rw [if_pos c18] at H
                      have c18b0 : decide (x8_1 < (bx5_a0.size : Int)) = true := decide_eq_true c18
                      clear c18
                      by_cases c19 : 0 ≤ x8_1
                      · rw [if_pos c19] at H
                        have c19b0 : decide (0 ≤ x8_1) = true := decide_eq_true c19
                        clear c19
                        by_cases c21 : x8_1 < (x6_1.length : Int)
                        · rw [if_pos c21] at H
                          have c21b0 : decide (x8_1 < (x6_1.length : Int)) = true := decide_eq_true c21
                          clear c21
                          obtain ⟨y115, hy115⟩ : ∃ y_ : List Int, y_ = (x6_1.set (x8_1 : Int).toNat (Go.bits .xor .u8 (bt bx5_a0 x8_1) 54)) := ⟨_, rfl⟩
                          replace H : (if x8_1 < (x7_1.length : Int) then (bailiwicklaw04_MacMade.l0 k1 bx5_a0 bx8_a1 true y115 (x7_1.set (x8_1 : Int).toNat (Go.bits .xor .u8 (bt bx5_a0 x8_1) 92)) (wrap64 (x8_1 + 1))) else (none)) = some r := by first | (rw [hy115]; with_reducible exact H) | (have H2_ := (Option.bind_some _ _).symm.trans H; rw [hy115]; with_reducible exact H2_) | (have H2_ := (Option.bind_some _ _).symm.trans H; with_reducible exact H2_) | with_reducible exact H | (rw [hy115]; exact H) | exact H
                          have Ny115 := Aside0.mk hy115
                          clear hy115
                          by_cases c23 : x8_1 < (x7_1.length : Int)
                          · rw [if_pos c23] at H
                            have c23b0 : decide (x8_1 < (x7_1.length : Int)) = true := decide_eq_true c23
                            clear c23
                            obtain ⟨y116, hy116⟩ : ∃ y_ : List Int, y_ = (x7_1.set (x8_1 : Int).toNat (Go.bits .xor .u8 (bt bx5_a0 x8_1) 92)) := ⟨_, rfl⟩
                            replace H : (bailiwicklaw04_MacMade.l0 k1 bx5_a0 bx8_a1 true y115 y116 (wrap64 (x8_1 + 1))) = some r := by first | (rw [hy116]; with_reducible exact H) | (have H2_ := (Option.bind_some _ _).symm.trans H; rw [hy116]; with_reducible exact H2_) | (have H2_ := (Option.bind_some _ _).symm.trans H; with_reducible exact H2_) | with_reducible exact H | (rw [hy116]; exact H) | exact H
                            have Ny116 := Aside0.mk hy116
                            clear hy116
                            have H' := Aside0.mk H
                            clear H
                            have p20 : 0 ≤ (x8_1 : Int) := of_decide_eq_true (by first | (with_reducible assumption) | assumption)
                            have q20 : x8_1 < (bx5_a0.size : Int) := of_decide_eq_true (by first | (with_reducible assumption) | assumption)
                            have hx20 := bt_at bx5_a0 x8_1
                            replace p20 := eq_true p20
                            replace q20 := eq_true q20
                            have p22 : 0 ≤ (x8_1 : Int) := of_decide_eq_true (by first | (with_reducible assumption) | assumption)
                            have q22 : (x8_1 : Int) < ((x6_1.length : Int) : Int) := of_decide_eq_true (by first | (with_reducible assumption) | assumption)
                            obtain ⟨go22, co22, eo22, gb22, gl22, cl22, HG22⟩ := Kd.R_form HO_6.out (by omega)
                            (first | cases eo22 | (injection eo22 with ea_ en_ ec_; (first | subst ea_ | (injection ea_ with ea_; subst ea_)); subst ec_; clear en_))
                            have GB22 := Aside0.mk gb22
                            have GG22 := Aside0.mk HG22
                            clear gb22 gl22 HG22
                            obtain ⟨hx22_0, hf22_0⟩ := Kd.R_celln 0 HO_6.out (x8_1 : Int) p22 q22
                            replace p22 := eq_true p22
                            replace q22 := eq_true q22
                            have HP25 := Kd.R_putg HO_6.out (x8_1 : Int) (Go.bits .xor .u8 (bt bx5_a0 x8_1) 54)
                            go_wp2_with (first | ((with_reducible refine gate_store (t := 5) (p := 40) rfl ?_); refine store_event (t := 5) (p := 40) (v := ?vo_w26) (w1 := (wr.setCell ⟨go22, (x8_1 : Int).toNat, none⟩ (.int .u8 (Go.bits .xor .u8 (bt bx5_a0 x8_1) 54)))) ?hg ?ho ?hn ?hr ?_; (case ho => rfl); (case hg => rfl); (case hn => rfl); (case hr => first | (go_simp; done) | (go_simp; rfl)); intro w26 hw; have hg : wr.grownBy w26 (some go22) := (by rw [hw]; exact HP25.2); have hp_ : Kd.R (Kd.int .u8) 5 w26 w.heap.size (fun k_ => some k_ ≠ (v113 : Value).ownBlock) (.slice (some ⟨go22, 0, none⟩) x6_1.length co22) y115 := (by rw [hw, Ny115.out]; exact HP25.1); clear HP25; have n0_ := Aside0.mk (hp_); have n1_ := Aside0.mk (Kd.R_after (v := (.slice (some ⟨go22, 0, none⟩) x6_1.length co22)) (v1 := (.slice (some ⟨go22, 0, none⟩) x6_1.length co22)) (ok := (fun _ => True)) (by (with_reducible repeat (first | apply Kd.R_alloc | apply Kd.R_drewN | apply Kd.R_drew)); exact Kd.R_mono HO_7.out (fun _ hk => ⟨trivial, hk⟩)) hg (.inl rfl)); have n2_ := Aside0.mk ((by rw [hw]; exact below_set (HB.out) GB22.out : Below w.heap.size w w26)); clear HO_6; clear HO_7; clear HB; have HO_6 := n0_; have HO_7 := n1_; have HB := n2_; clear n0_ n1_ n2_; clear hg hw hp_; have p24 : 0 ≤ (x8_1 : Int) := of_decide_eq_true (by first | (with_reducible assumption) | assumption); have q24 : (x8_1 : Int) < ((x7_1.length : Int) : Int) := of_decide_eq_true (by first | (with_reducible assumption) | assumption); obtain ⟨go24, co24, eo24, gb24, gl24, cl24, HG24⟩ := Kd.R_form HO_7.out (by omega); (first | cases eo24 | (injection eo24 with ea_ en_ ec_; (first | subst ea_ | (injection ea_ with ea_; subst ea_)); subst ec_; clear en_)); have GB24 := Aside0.mk gb24; have GG24 := Aside0.mk HG24; clear gb24 gl24 HG24; obtain ⟨hx24_0, hf24_0⟩ := Kd.R_celln 0 HO_7.out (x8_1 : Int) p24 q24; replace p24 := eq_true p24; replace q24 := eq_true q24; have n_ := Aside0.mk (Kd.R_mono (ok' := (fun k_ => some k_ ≠ (.slice (some ⟨go22, 0, none⟩) x6_1.length co22 : Value).ownBlock)) HO_7.out (fun k_ hk => hk.2)); clear HO_7; have HO_7 := n_; clear n_; obtain ⟨hy27_, hz27_⟩ := Kd.R_celln 0 HO_7.out (x8_1 : Int) (of_decide_eq_true (by first | (with_reducible assumption) | assumption)) (of_decide_eq_true (by first | (with_reducible assumption) | assumption)); have HP27 := Kd.R_putg HO_7.out (x8_1 : Int) (Go.bits .xor .u8 (bt bx5_a0 x8_1) 92)) | ((with_reducible refine gate_store (t := 5) (p := 45) rfl ?_); refine store_event (t := 5) (p := 45) (v := ?vo_w28) (w1 := (w26.setCell ⟨go24, (x8_1 : Int).toNat, none⟩ (.int .u8 (Go.bits .xor .u8 (bt bx5_a0 x8_1) 92)))) ?hg ?ho ?hn ?hr ?_; (case ho => rfl); (case hg => rfl); (case hn => rfl); (case hr => first | (go_simp; done) | (go_simp; rfl)); intro w28 hw; have hg : w26.grownBy w28 (some go24) := (by rw [hw]; exact HP27.2); have hp_ : Kd.R (Kd.int .u8) 5 w28 w.heap.size (fun k_ => some k_ ≠ (.slice (some ⟨go22, 0, none⟩) x6_1.length co22 : Value).ownBlock) (.slice (some ⟨go24, 0, none⟩) x7_1.length co24) y116 := (by rw [hw, Ny116.out]; exact HP27.1); clear HP27; have n0_ := Aside0.mk (Kd.R_after (v := (.slice (some ⟨go24, 0, none⟩) x7_1.length co24)) (v1 := (.slice (some ⟨go24, 0, none⟩) x7_1.length co24)) (ok := (fun _ => True)) (by (with_reducible repeat (first | apply Kd.R_alloc | apply Kd.R_drewN | apply Kd.R_drew)); exact Kd.R_mono HO_6.out (fun _ hk => ⟨trivial, hk⟩)) hg (.inl rfl)); have n1_ := Aside0.mk (hp_); have n2_ := Aside0.mk ((by rw [hw]; exact below_set (HB.out) GB24.out : Below w.heap.size w w28)); clear HO_6; clear HO_7; clear HB; have HO_6 := n0_; have HO_7 := n1_; have HB := n2_; clear n0_ n1_ n2_; clear hg hw hp_))
                            go_roundg k1
                            case measure => have := HK1.out; omega
                            case rel => exact ⟨(y115), (y116), (wrap64 (x8_1 + 1)), (by first | rfl | (simp; done) | (simp [*]; done)), H', ⟨by have := HK1.out; omega⟩, ⟨by (with_reducible repeat (first | apply Kd.R_alloc | apply Kd.R_drewN | apply Kd.R_drew)); exact Kd.R_mono HO_6.out (fun _ hk => hk.2)⟩, ⟨by (with_reducible repeat (first | apply Kd.R_alloc | apply Kd.R_drewN | apply Kd.R_drew)); exact HO_7.out⟩, ⟨by repeat (first | (with_reducible first | exact HB.out | apply below_alloc | apply pw_below_drewN | apply below_drew1) | exact HB.out)⟩⟩
                          · rw [if_neg c23] at H
                            exact absurd H (by simp)
                        · rw [if_neg c21] at H
                          exact absurd H (by simp)
                      · rw [if_neg c19] at H
                        exact absurd H (by simp)
                    · rw [if_neg c18] at H
                      have c18b0 : decide (x8_1 < (bx5_a0.size : Int)) = false := decide_eq_false c18
                      clear c18
                      by_cases c29 : 0 ≤ x8_1
                      · rw [if_pos c29] at H
                        have c29b0 : decide (0 ≤ x8_1) = true := decide_eq_true c29
                        clear c29
                        by_cases c30 : x8_1 < (x6_1.length : Int)
                        · rw [if_pos c30] at H
                          have c30b0 : decide (x8_1 < (x6_1.length : Int)) = true := decide_eq_true c30
                          clear c30
                          obtain ⟨y117, hy117⟩ : ∃ y_ : List Int, y_ = (x6_1.set (x8_1 : Int).toNat (Go.bits .xor .u8 0 54)) := ⟨_, rfl⟩
                          replace H : (if x8_1 < (x7_1.length : Int) then (bailiwicklaw04_MacMade.l0 k1 bx5_a0 bx8_a1 true y117 (x7_1.set (x8_1 : Int).toNat (Go.bits .xor .u8 0 92)) (wrap64 (x8_1 + 1))) else (none)) = some r := by first | (rw [hy117]; with_reducible exact H) | (have H2_ := (Option.bind_some _ _).symm.trans H; rw [hy117]; with_reducible exact H2_) | (have H2_ := (Option.bind_some _ _).symm.trans H; with_reducible exact H2_) | with_reducible exact H | (rw [hy117]; exact H) | exact H
                          have Ny117 := Aside0.mk hy117
                          clear hy117
                          by_cases c32 : x8_1 < (x7_1.length : Int)
                          · rw [if_pos c32] at H
                            have c32b0 : decide (x8_1 < (x7_1.length : Int)) = true := decide_eq_true c32
                            clear c32
                            obtain ⟨y118, hy118⟩ : ∃ y_ : List Int, y_ = (x7_1.set (x8_1 : Int).toNat (Go.bits .xor .u8 0 92)) := ⟨_, rfl⟩
                            replace H : (bailiwicklaw04_MacMade.l0 k1 bx5_a0 bx8_a1 true y117 y118 (wrap64 (x8_1 + 1))) = some r := by first | (rw [hy118]; with_reducible exact H) | (have H2_ := (Option.bind_some _ _).symm.trans H; rw [hy118]; with_reducible exact H2_) | (have H2_ := (Option.bind_some _ _).symm.trans H; with_reducible exact H2_) | with_reducible exact H | (rw [hy118]; exact H) | exact H
                            have Ny118 := Aside0.mk hy118
                            clear hy118
                            have H' := Aside0.mk H
                            clear H
                            have p31 : 0 ≤ (x8_1 : Int) := of_decide_eq_true (by first | (with_reducible assumption) | assumption)
                            have q31 : (x8_1 : Int) < ((x6_1.length : Int) : Int) := of_decide_eq_true (by first | (with_reducible assumption) | assumption)
                            obtain ⟨go31, co31, eo31, gb31, gl31, cl31, HG31⟩ := Kd.R_form HO_6.out (by omega)
                            (first | cases eo31 | (injection eo31 with ea_ en_ ec_; (first | subst ea_ | (injection ea_ with ea_; subst ea_)); subst ec_; clear en_))
                            have GB31 := Aside0.mk gb31
                            have GG31 := Aside0.mk HG31
                            clear gb31 gl31 HG31
                            obtain ⟨hx31_0, hf31_0⟩ := Kd.R_celln 0 HO_6.out (x8_1 : Int) p31 q31
                            replace p31 := eq_true p31
                            replace q31 := eq_true q31
                            have HP34 := Kd.R_putg HO_6.out (x8_1 : Int) (Go.bits .xor .u8 0 54)
                            go_wp2_with (first | ((with_reducible refine gate_store (t := 5) (p := 40) rfl ?_); refine store_event (t := 5) (p := 40) (v := ?vo_w35) (w1 := (wr.setCell ⟨go31, (x8_1 : Int).toNat, none⟩ (.int .u8 (Go.bits .xor .u8 0 54)))) ?hg ?ho ?hn ?hr ?_; (case ho => rfl); (case hg => rfl); (case hn => rfl); (case hr => first | (go_simp; done) | (go_simp; rfl)); intro w35 hw; have hg : wr.grownBy w35 (some go31) := (by rw [hw]; exact HP34.2); have hp_ : Kd.R (Kd.int .u8) 5 w35 w.heap.size (fun k_ => some k_ ≠ (v113 : Value).ownBlock) (.slice (some ⟨go31, 0, none⟩) x6_1.length co31) y117 := (by rw [hw, Ny117.out]; exact HP34.1); clear HP34; have n0_ := Aside0.mk (hp_); have n1_ := Aside0.mk (Kd.R_after (v := (.slice (some ⟨go31, 0, none⟩) x6_1.length co31)) (v1 := (.slice (some ⟨go31, 0, none⟩) x6_1.length co31)) (ok := (fun _ => True)) (by (with_reducible repeat (first | apply Kd.R_alloc | apply Kd.R_drewN | apply Kd.R_drew)); exact Kd.R_mono HO_7.out (fun _ hk => ⟨trivial, hk⟩)) hg (.inl rfl)); have n2_ := Aside0.mk ((by rw [hw]; exact below_set (HB.out) GB31.out : Below w.heap.size w w35)); clear HO_6; clear HO_7; clear HB; have HO_6 := n0_; have HO_7 := n1_; have HB := n2_; clear n0_ n1_ n2_; clear hg hw hp_; have p33 : 0 ≤ (x8_1 : Int) := of_decide_eq_true (by first | (with_reducible assumption) | assumption); have q33 : (x8_1 : Int) < ((x7_1.length : Int) : Int) := of_decide_eq_true (by first | (with_reducible assumption) | assumption); obtain ⟨go33, co33, eo33, gb33, gl33, cl33, HG33⟩ := Kd.R_form HO_7.out (by omega); (first | cases eo33 | (injection eo33 with ea_ en_ ec_; (first | subst ea_ | (injection ea_ with ea_; subst ea_)); subst ec_; clear en_)); have GB33 := Aside0.mk gb33; have GG33 := Aside0.mk HG33; clear gb33 gl33 HG33; obtain ⟨hx33_0, hf33_0⟩ := Kd.R_celln 0 HO_7.out (x8_1 : Int) p33 q33; replace p33 := eq_true p33; replace q33 := eq_true q33; have n_ := Aside0.mk (Kd.R_mono (ok' := (fun k_ => some k_ ≠ (.slice (some ⟨go31, 0, none⟩) x6_1.length co31 : Value).ownBlock)) HO_7.out (fun k_ hk => hk.2)); clear HO_7; have HO_7 := n_; clear n_; obtain ⟨hy36_, hz36_⟩ := Kd.R_celln 0 HO_7.out (x8_1 : Int) (of_decide_eq_true (by first | (with_reducible assumption) | assumption)) (of_decide_eq_true (by first | (with_reducible assumption) | assumption)); have HP36 := Kd.R_putg HO_7.out (x8_1 : Int) (Go.bits .xor .u8 0 92)) | ((with_reducible refine gate_store (t := 5) (p := 45) rfl ?_); refine store_event (t := 5) (p := 45) (v := ?vo_w37) (w1 := (w35.setCell ⟨go33, (x8_1 : Int).toNat, none⟩ (.int .u8 (Go.bits .xor .u8 0 92)))) ?hg ?ho ?hn ?hr ?_; (case ho => rfl); (case hg => rfl); (case hn => rfl); (case hr => first | (go_simp; done) | (go_simp; rfl)); intro w37 hw; have hg : w35.grownBy w37 (some go33) := (by rw [hw]; exact HP36.2); have hp_ : Kd.R (Kd.int .u8) 5 w37 w.heap.size (fun k_ => some k_ ≠ (.slice (some ⟨go31, 0, none⟩) x6_1.length co31 : Value).ownBlock) (.slice (some ⟨go33, 0, none⟩) x7_1.length co33) y118 := (by rw [hw, Ny118.out]; exact HP36.1); clear HP36; have n0_ := Aside0.mk (Kd.R_after (v := (.slice (some ⟨go33, 0, none⟩) x7_1.length co33)) (v1 := (.slice (some ⟨go33, 0, none⟩) x7_1.length co33)) (ok := (fun _ => True)) (by (with_reducible repeat (first | apply Kd.R_alloc | apply Kd.R_drewN | apply Kd.R_drew)); exact Kd.R_mono HO_6.out (fun _ hk => ⟨trivial, hk⟩)) hg (.inl rfl)); have n1_ := Aside0.mk (hp_); have n2_ := Aside0.mk ((by rw [hw]; exact below_set (HB.out) GB33.out : Below w.heap.size w w37)); clear HO_6; clear HO_7; clear HB; have HO_6 := n0_; have HO_7 := n1_; have HB := n2_; clear n0_ n1_ n2_; clear hg hw hp_))
                            go_roundg k1
                            case measure => have := HK1.out; omega
                            case rel => exact ⟨(y117), (y118), (wrap64 (x8_1 + 1)), (by first | rfl | (simp; done) | (simp [*]; done)), H', ⟨by have := HK1.out; omega⟩, ⟨by (with_reducible repeat (first | apply Kd.R_alloc | apply Kd.R_drewN | apply Kd.R_drew)); exact Kd.R_mono HO_6.out (fun _ hk => hk.2)⟩, ⟨by (with_reducible repeat (first | apply Kd.R_alloc | apply Kd.R_drewN | apply Kd.R_drew)); exact HO_7.out⟩, ⟨by repeat (first | (with_reducible first | exact HB.out | apply below_alloc | apply pw_below_drewN | apply below_drew1) | exact HB.out)⟩⟩
                          · rw [if_neg c32] at H
                            exact absurd H (by simp)
                        · rw [if_neg c30] at H
                          exact absurd H (by simp)
                      · rw [if_neg c29] at H
                        exact absurd H (by simp)
                  · rw [if_neg c17] at H
                    have c17b0 : decide (x8_1 < 64) = false := decide_eq_false c17
                    clear c17
                    by_cases c38 : true = true
                    · clear c38
                      have H1 : ((Go.Proofs.Ytakbdknmfaoppaa.R.Mac.f bx5_a0 bx8_a1).bind fun t119 => (if (strOfNums x6_1).size + bx8_a1.size ≤ 9223372036854775807 then ((Go.Proofs.Ytakbdknmfaoppaa.R.Sum.f ((strOfNums x6_1) ++ bx8_a1)).bind fun t120 => (if (strOfNums x7_1).size + t120.size ≤ 9223372036854775807 then ((Go.Proofs.Ytakbdknmfaoppaa.R.Sum.f ((strOfNums x7_1) ++ t120)).bind fun t121 => (some (t119.toList == t121.toList))) else (none))) else (none))) = some r := by first | (rw [if_pos rfl] at H; exact H) | (rw [if_pos trivial] at H; exact H)
                      clear H
                      have H := H1
                      clear H1
                      replace H := Option.bind_eq_some_iff.mp H
                      obtain ⟨t119, A390, H⟩ := H
                      replace H : (if (strOfNums x6_1).size + bx8_a1.size ≤ 9223372036854775807 then ((Go.Proofs.Ytakbdknmfaoppaa.R.Sum.f ((strOfNums x6_1) ++ bx8_a1)).bind fun t120 => (if (strOfNums x7_1).size + t120.size ≤ 9223372036854775807 then ((Go.Proofs.Ytakbdknmfaoppaa.R.Sum.f ((strOfNums x7_1) ++ t120)).bind fun t121 => (some (t119.toList == t121.toList))) else (none))) else (none)) = some r := H
                      have A39 := Aside0.mk A390
                      clear A390
                      by_cases c40 : (strOfNums x6_1).size + bx8_a1.size ≤ 9223372036854775807
                      · rw [if_pos c40] at H
                        have c40b0 := eq_true c40
                        have c40b1 : decide ((strOfNums x6_1).size + bx8_a1.size ≤ 9223372036854775807) = true := decide_eq_true c40
                        try have c40b2 : (9223372036854775807 < (strOfNums x6_1).size + bx8_a1.size) = False := eq_false (Nat.not_lt.2 c40)
                        replace H := Option.bind_eq_some_iff.mp H
                        obtain ⟨t120, A410, H⟩ := H
                        replace H : (if (strOfNums x7_1).size + t120.size ≤ 9223372036854775807 then ((Go.Proofs.Ytakbdknmfaoppaa.R.Sum.f ((strOfNums x7_1) ++ t120)).bind fun t121 => (some (t119.toList == t121.toList))) else (none)) = some r := H
                        have A41 := Aside0.mk A410
                        clear A410
                        by_cases c42 : (strOfNums x7_1).size + t120.size ≤ 9223372036854775807
                        · rw [if_pos c42] at H
                          have c42b0 := eq_true c42
                          have c42b1 : decide ((strOfNums x7_1).size + t120.size ≤ 9223372036854775807) = true := decide_eq_true c42
                          try have c42b2 : (9223372036854775807 < (strOfNums x7_1).size + t120.size) = False := eq_false (Nat.not_lt.2 c42)
                          replace H := Option.bind_eq_some_iff.mp H
                          obtain ⟨t121, A430, H⟩ := H
                          replace H : (some (t119.toList == t121.toList)) = some r := H
                          have A43 := Aside0.mk A430
                          clear A430
                          obtain rfl := Option.some.inj H
                          try go_wp2
                          have n0_ := Aside0.mk (Kd.R_drew HO_6.out)
                          have n1_ := Aside0.mk (Kd.R_drew HO_7.out)
                          have n2_ := Aside0.mk (below_drew1 HB.out)
                          clear HO_6
                          clear HO_7
                          clear HB
                          have HO_6 := n0_
                          have HO_7 := n1_
                          have HB := n2_
                          clear n0_ n1_ n2_
                          refine start_ (n := 17) (S := fun w' => (convert 26 9 v113).run Try.prog w' = .ok (.string (strOfNums x7_1)) w' ∧ (convert 26 9 v110).run Try.prog w' = .ok (.string (strOfNums x6_1)) w') (ds := []) #[false, false, false, false, false, false, false, false, false, false, false, false, false, false, false, false, false] (by kernel_rfl) rfl rfl ⟨own_string (P := Try.prog) Try.underlying26 Try.underlying5 Try.underlying9 (Kd.own_of_R HO_7.out), own_string (P := Try.prog) Try.underlying26 Try.underlying5 Try.underlying9 (Kd.own_of_R HO_6.out)⟩ (fun hHeld => ?_); refine with_tabW bailiwicklaw04_MacMade.tab16 bailiwicklaw04_MacMade.bits16 (fun HT_ HW_ => ?_)
                          generalize wr.drew = w44 at HO_6 HO_7 HB hHeld ⊢
                          refine pure_ (i := 0) (N := some 46) (v := ?_) (a' := ?_) #[true, false, false, false, false, false, false, false, false, false, false, false, false, false, false, false, false] rfl rfl (any_of HT_.out (by kernel_rfl)) (fun _ _ _ h => h) (Or.inl ⟨by rfl, ?_⟩) ?_ ?_
                          rotate_left
                          · intro w'
                            go_simp
                            with_reducible rfl
                          rotate_left
                          · simp only [Act.put, List.setIfInBounds_toArray, List.set_cons_zero, List.set_cons_succ, i64_w, i32_w]
                            rfl
                          refine pure_ (i := 1) (N := some 47) (v := ?_) (a' := ?_) #[true, true, false, false, false, false, false, false, false, false, false, false, false, false, false, false, false] rfl rfl (any_of HT_.out (by kernel_rfl)) (fun _ _ _ h => h) (Or.inl ⟨by rfl, ?_⟩) ?_ ?_
                          rotate_left
                          · intro w'
                            go_simp
                            with_reducible rfl
                          rotate_left
                          · simp only [Act.put, List.setIfInBounds_toArray, List.set_cons_zero, List.set_cons_succ, i64_w, i32_w]
                            rfl
                          refine pure_ (i := 2) (N := some 48) (v := ?_) (a' := ?_) #[true, true, true, false, false, false, false, false, false, false, false, false, false, false, false, false, false] rfl rfl (any_of HT_.out (by kernel_rfl)) (fun _ _ _ h => h) (Or.inl ⟨by rfl, ?_⟩) ?_ ?_
                          rotate_left
                          · intro w'
                            go_simp
                            with_reducible rfl
                          rotate_left
                          · simp only [Act.put, List.setIfInBounds_toArray, List.set_cons_zero, List.set_cons_succ, i64_w, i32_w]
                            rfl
                          refine pure_ (i := 3) (N := some 49) (v := ?_) (a' := ?_) #[true, true, true, true, false, false, false, false, false, false, false, false, false, false, false, false, false] rfl rfl (any_of HT_.out (by kernel_rfl)) (fun _ _ _ h => h) (Or.inl ⟨by rfl, ?_⟩) ?_ ?_
                          rotate_left
                          · intro w'
                            go_simp
                            with_reducible rfl
                          rotate_left
                          · simp only [Act.put, List.setIfInBounds_toArray, List.set_cons_zero, List.set_cons_succ, i64_w, i32_w]
                            rfl
                          refine pure_ (i := 5) (N := some 51) (v := ?_) (a' := ?_) #[true, true, true, true, false, true, false, false, false, false, false, false, false, false, false, false, false] rfl rfl (any_of HT_.out (by kernel_rfl)) (fun _ _ _ h => h) (Or.inl ⟨by rfl, ?_⟩) ?_ ?_
                          rotate_left
                          · intro w'
                            go_simp
                            with_reducible rfl
                          rotate_left
                          · simp only [Act.put, List.setIfInBounds_toArray, List.set_cons_zero, List.set_cons_succ, i64_w, i32_w]
                            rfl
                          refine take_ (i := 6) (N := some 52) (v := ?_) (a' := ?_) #[true, true, true, true, false, true, true, false, false, false, false, false, false, false, false, false, false] rfl rfl (take_ofW HT_.out HW_.out (by kernel_rfl)) (fun _ _ _ h => h) (Or.inl ⟨by rfl, ?_⟩) hHeld ?_ ?_
                          rotate_left
                          · rintro w' ⟨s0_, s1_⟩
                            go_simp
                            with_reducible rfl
                          rotate_left
                          · simp only [Act.put, List.setIfInBounds_toArray, List.set_cons_zero, List.set_cons_succ, i64_w, i32_w]
                            rfl
                          refine pure_ (i := 7) (N := some 53) (v := ?_) (a' := ?_) #[true, true, true, true, false, true, true, true, false, false, false, false, false, false, false, false, false] rfl rfl (any_of HT_.out (by kernel_rfl)) (fun _ _ _ h => h) (Or.inl ⟨by rfl, ?_⟩) ?_ ?_
                          rotate_left
                          · intro w'
                            go_simp
                            with_reducible rfl
                          rotate_left
                          · simp only [Act.put, List.setIfInBounds_toArray, List.set_cons_zero, List.set_cons_succ, i64_w, i32_w]
                            rfl
                          refine take_ (i := 8) (N := some 54) (v := ?_) (a' := ?_) #[true, true, true, true, false, true, true, true, true, false, false, false, false, false, false, false, false] rfl rfl (take_ofW HT_.out HW_.out (by kernel_rfl)) (fun _ _ _ h => h) (Or.inl ⟨by rfl, ?_⟩) hHeld ?_ ?_
                          rotate_left
                          · rintro w' ⟨s0_, s1_⟩
                            go_simp
                            with_reducible rfl
                          rotate_left
                          · simp only [Act.put, List.setIfInBounds_toArray, List.set_cons_zero, List.set_cons_succ, i64_w, i32_w]
                            rfl
                          refine pure_ (i := 9) (N := some 55) (v := ?_) (a' := ?_) #[true, true, true, true, false, true, true, true, true, true, false, false, false, false, false, false, false] rfl rfl (any_of HT_.out (by kernel_rfl)) (fun _ _ _ h => h) (Or.inl ⟨by rfl, ?_⟩) ?_ ?_
                          rotate_left
                          · intro w'
                            go_simp
                            with_reducible rfl
                          rotate_left
                          · simp only [Act.put, List.setIfInBounds_toArray, List.set_cons_zero, List.set_cons_succ, i64_w, i32_w]
                            rfl
                          refine pure_ (i := 10) (N := some 56) (v := ?_) (a' := ?_) #[true, true, true, true, false, true, true, true, true, true, true, false, false, false, false, false, false] rfl rfl (any_of HT_.out (by kernel_rfl)) (fun _ _ _ h => h) (Or.inl ⟨by rfl, ?_⟩) ?_ ?_
                          rotate_left
                          · intro w'
                            go_simp
                            with_reducible rfl
                          rotate_left
                          · simp only [Act.put, List.setIfInBounds_toArray, List.set_cons_zero, List.set_cons_succ, i64_w, i32_w]
                            rfl
                          refine one_ (i := 4) (N := some 50) #[true, true, true, true, true, true, true, true, true, true, true, false, false, false, false, false, false] rfl rfl (one_of HT_.out (by kernel_rfl)) (by decide) (fun K hK => ?_)
                          refine goes_ Try.func19 (by kernel_rfl) rfl #[.string bx5_a0, .string bx8_a1] (by rfl) rfl rfl (by (try simp only [List.map_toArray, List.map_cons, List.map_nil]); first | done | (simp only [hji5, hji8]; rfl) | rfl | (simp only [List.length_drop, List.length_take]; rfl)) ?_
                          with_reducible refine (Go.Proofs.Ytakbdknmfaoppaa.R.Mac.calls bx5_a0 bx8_a1 t119 _ A39.out).mono ?_
                          rintro e w45 ⟨rfl, hb⟩
                          refine ⟨_, rfl, ?_⟩
                          have n0_ := Aside0.mk (Kd.R_below (by (with_reducible repeat (first | apply Kd.R_alloc | apply Kd.R_drewN | apply Kd.R_drew)); exact HO_6.out) hb)
                          have n1_ := Aside0.mk (Kd.R_below (by (with_reducible repeat (first | apply Kd.R_alloc | apply Kd.R_drewN | apply Kd.R_drew)); exact HO_7.out) hb)
                          have n2_ := Aside0.mk (below_step (by repeat (first | (with_reducible first | exact HB.out | apply below_alloc | apply pw_below_drewN | apply below_drew1) | exact HB.out)) hb)
                          clear HO_6
                          clear HO_7
                          clear HB
                          have HO_6 := n0_
                          have HO_7 := n1_
                          have HB := n2_
                          clear n0_ n1_ n2_
                          (try clear hb)
                          (try clear hb2)
                          (try clear hk)
                          (try clear hi)
                          have hcv46 := own_string (P := Try.prog) Try.underlying26 Try.underlying5 Try.underlying9 (Kd.own_of_R HO_7.out)
                          have hcv47 := own_string (P := Try.prog) Try.underlying26 Try.underlying5 Try.underlying9 (Kd.own_of_R HO_6.out)
                          refine hK.out _ _ ⟨own_string (P := Try.prog) Try.underlying26 Try.underlying5 Try.underlying9 (Kd.own_of_R HO_7.out), own_string (P := Try.prog) Try.underlying26 Try.underlying5 Try.underlying9 (Kd.own_of_R HO_6.out)⟩ (fun hHeld => ?_)
                          clear hK K
                          refine norm_ (a' := ?_) ?_ ?_
                          rotate_left
                          · show Act.put _ (some 50) _ = _
                            simp only [Act.put, List.setIfInBounds_toArray, List.set_cons_zero, List.set_cons_succ, i64_w, i32_w]
                            rfl
                          refine one_ (i := 11) (N := some 57) #[true, true, true, true, true, true, true, true, true, true, true, true, false, false, false, false, false] rfl rfl (one_of HT_.out (by kernel_rfl)) (by decide) (fun K hK => ?_)
                          refine goes_ Try.func12 (by kernel_rfl) rfl #[.string ((strOfNums x6_1) ++ bx8_a1)] (by rfl) rfl rfl (by (try simp only [List.map_toArray, List.map_cons, List.map_nil]); first | done | (simp only [hji8]; rfl) | rfl | (simp only [List.length_drop, List.length_take]; rfl)) ?_
                          with_reducible refine (Go.Proofs.Ytakbdknmfaoppaa.R.Sum.calls ((strOfNums x6_1) ++ bx8_a1) t120 _ A41.out).mono ?_
                          rintro e w48 ⟨rfl, hb⟩
                          refine ⟨_, rfl, ?_⟩
                          have n0_ := Aside0.mk (Kd.R_below (by (with_reducible repeat (first | apply Kd.R_alloc | apply Kd.R_drewN | apply Kd.R_drew)); exact HO_6.out) hb)
                          have n1_ := Aside0.mk (Kd.R_below (by (with_reducible repeat (first | apply Kd.R_alloc | apply Kd.R_drewN | apply Kd.R_drew)); exact HO_7.out) hb)
                          have n2_ := Aside0.mk (below_step (by repeat (first | (with_reducible first | exact HB.out | apply below_alloc | apply pw_below_drewN | apply below_drew1) | exact HB.out)) hb)
                          clear HO_6
                          clear HO_7
                          clear HB
                          have HO_6 := n0_
                          have HO_7 := n1_
                          have HB := n2_
                          clear n0_ n1_ n2_
                          (try clear hb)
                          (try clear hb2)
                          (try clear hk)
                          (try clear hi)
                          refine hK.out _ _ ⟨own_string (P := Try.prog) Try.underlying26 Try.underlying5 Try.underlying9 (Kd.own_of_R HO_7.out), own_string (P := Try.prog) Try.underlying26 Try.underlying5 Try.underlying9 (Kd.own_of_R HO_6.out)⟩ (fun hHeld => ?_)
                          clear hK K
                          refine norm_ (a' := ?_) ?_ ?_
                          rotate_left
                          · show Act.put _ (some 57) _ = _
                            simp only [Act.put, List.setIfInBounds_toArray, List.set_cons_zero, List.set_cons_succ, i64_w, i32_w]
                            rfl
                          refine pure_ (i := 12) (N := some 58) (v := ?_) (a' := ?_) #[true, true, true, true, true, true, true, true, true, true, true, true, true, false, false, false, false] rfl rfl (any_of HT_.out (by kernel_rfl)) (fun _ _ _ h => h) (Or.inl ⟨by rfl, ?_⟩) ?_ ?_
                          rotate_left
                          · intro w'
                            go_simp
                            with_reducible rfl
                          rotate_left
                          · simp only [Act.put, List.setIfInBounds_toArray, List.set_cons_zero, List.set_cons_succ, i64_w, i32_w]
                            rfl
                          refine one_ (i := 13) (N := some 59) #[true, true, true, true, true, true, true, true, true, true, true, true, true, true, false, false, false] rfl rfl (one_of HT_.out (by kernel_rfl)) (by decide) (fun K hK => ?_)
                          refine goes_ Try.func12 (by kernel_rfl) rfl #[.string ((strOfNums x7_1) ++ t120)] (by rfl) rfl rfl (by (try simp only [List.map_toArray, List.map_cons, List.map_nil]); first | done | rfl | (simp only [List.length_drop, List.length_take]; rfl)) ?_
                          with_reducible refine (Go.Proofs.Ytakbdknmfaoppaa.R.Sum.calls ((strOfNums x7_1) ++ t120) t121 _ A43.out).mono ?_
                          rintro e w50 ⟨rfl, hb⟩
                          refine ⟨_, rfl, ?_⟩
                          have n0_ := Aside0.mk (Kd.R_below (by (with_reducible repeat (first | apply Kd.R_alloc | apply Kd.R_drewN | apply Kd.R_drew)); exact HO_6.out) hb)
                          have n1_ := Aside0.mk (Kd.R_below (by (with_reducible repeat (first | apply Kd.R_alloc | apply Kd.R_drewN | apply Kd.R_drew)); exact HO_7.out) hb)
                          have n2_ := Aside0.mk (below_step (by repeat (first | (with_reducible first | exact HB.out | apply below_alloc | apply pw_below_drewN | apply below_drew1) | exact HB.out)) hb)
                          clear HO_6
                          clear HO_7
                          clear HB
                          have HO_6 := n0_
                          have HO_7 := n1_
                          have HB := n2_
                          clear n0_ n1_ n2_
                          (try clear hb)
                          (try clear hb2)
                          (try clear hk)
                          (try clear hi)
                          refine hK.out _ _ ⟨own_string (P := Try.prog) Try.underlying26 Try.underlying5 Try.underlying9 (Kd.own_of_R HO_7.out), own_string (P := Try.prog) Try.underlying26 Try.underlying5 Try.underlying9 (Kd.own_of_R HO_6.out)⟩ (fun hHeld => ?_)
                          clear hK K
                          refine norm_ (a' := ?_) ?_ ?_
                          rotate_left
                          · show Act.put _ (some 59) _ = _
                            simp only [Act.put, List.setIfInBounds_toArray, List.set_cons_zero, List.set_cons_succ, i64_w, i32_w]
                            rfl
                          refine pure_ (i := 14) (N := some 60) (v := ?_) (a' := ?_) #[true, true, true, true, true, true, true, true, true, true, true, true, true, true, true, false, false] rfl rfl (any_of HT_.out (by kernel_rfl)) (fun _ _ _ h => h) (Or.inl ⟨by rfl, ?_⟩) ?_ ?_
                          rotate_left
                          · intro w'
                            go_simp
                            with_reducible rfl
                          rotate_left
                          · simp only [Act.put, List.setIfInBounds_toArray, List.set_cons_zero, List.set_cons_succ, i64_w, i32_w]
                            rfl
                          refine pure_ (i := 15) (N := some 61) (v := ?_) (a' := ?_) #[true, true, true, true, true, true, true, true, true, true, true, true, true, true, true, true, false] rfl rfl (any_of HT_.out (by kernel_rfl)) (fun _ _ _ h => h) (Or.inl ⟨by rfl, ?_⟩) ?_ ?_
                          rotate_left
                          · intro w'
                            go_simp
                            with_reducible rfl
                          rotate_left
                          · simp only [Act.put, List.setIfInBounds_toArray, List.set_cons_zero, List.set_cons_succ, i64_w, i32_w]
                            rfl
                          refine pure_ (i := 16) (N := some 4) (v := ?_) (a' := ?_) #[true, true, true, true, true, true, true, true, true, true, true, true, true, true, true, true, true] rfl rfl (any_of HT_.out (by kernel_rfl)) (fun _ _ _ h => h) (Or.inl ⟨by rfl, ?_⟩) ?_ ?_
                          rotate_left
                          · intro w'
                            go_simp
                            with_reducible rfl
                          rotate_left
                          · simp only [Act.put, List.setIfInBounds_toArray, List.set_cons_zero, List.set_cons_succ, i64_w, i32_w]
                            rfl
                          refine done_ (done_of HT_.out (by kernel_rfl)) ?_
                          try go_wp2
                          go_ret
                          exact ⟨by first | rfl | (simp [errW_none, errW_some] <;> rfl) | (simp only [← hji5, ← hji8]; first | rfl | (simp [errW_none, errW_some] <;> rfl)) | (simp [*, errW_none, errW_some] <;> rfl), by repeat (first | (with_reducible first | exact HB.out | apply below_alloc | apply pw_below_drewN | apply below_drew1) | exact HB.out)⟩
                        · rw [if_neg c42] at H
                          exact absurd H (by simp)
                      · rw [if_neg c40] at H
                        exact absurd H (by simp)
                    · exact absurd rfl c38
            · rw [if_neg c11] at H
              exact absurd H (by simp)
          · rw [if_neg c10] at H
            exact absurd H (by simp)
        · rw [if_neg c9] at H
          exact absurd H (by simp)
      · rw [if_neg c7] at H
        exact absurd H (by simp)
    · rw [if_neg c6] at H
      exact absurd H (by simp)
  · replace c4 := Bool.eq_false_iff.mpr c4
    subst c4
    have H1 : (some false) = some r := by rw [if_neg (show ¬ (false = true) by decide)] at H; exact H
    clear H
    have H := H1
    clear H1
    obtain rfl := Option.some.inj H
    go_enter Try.func8, Try.ntmps8
    (try dsimp only [List.append])
    go_wp2_with (first | ((with_reducible refine gate_callee (f := 17) rfl ?_); refine goesL_ (some 10) rfl rfl Try.func17 (by kernel_rfl) rfl #[] rfl (by (try simp only [List.map_toArray, List.map_cons, List.map_nil]); first | done | rfl | (simp only [List.length_drop, List.length_take]; rfl)) ?_; (with_reducible refine (bailiwicklaw04_examples.calls k  false _ A3.out).mono ?_); rintro e w52 ⟨rfl, hb⟩; refine ⟨_, rfl, ?_⟩; have n0_ := Aside0.mk (below_step (by repeat (first | (with_reducible first | exact HB.out | apply below_alloc | apply pw_below_drewN | apply below_drew1) | exact HB.out)) hb); clear HB; have HB := n0_; clear n0_; (try clear hb); (try clear hb2); (try clear hk); (try clear hi)))
    go_ret
    exact ⟨by first | rfl | (simp [errW_none, errW_some] <;> rfl) | (simp [*, errW_none, errW_some] <;> rfl), by repeat (first | (with_reducible first | exact HB.out | apply below_alloc | apply pw_below_drewN | apply below_drew1) | exact HB.out)⟩

/-- THE ONE PURE STATEMENT of bailiwicklaw04_MacMade: yours. -/
def bailiwicklaw04_MacMade.Pure : Prop := ∀ (a0 : ByteArray) (a1 : ByteArray), a0.size ≤ 140737488351232 → a1.size ≤ 140737488351232 → ∃ k, bailiwicklaw04_MacMade.f k a0 a1 = some true
theorem bailiwicklaw04_MacMade.walk (P : bailiwicklaw04_MacMade.Pure) (a0 : ByteArray) (a1 : ByteArray) (w : World) (w0 : a0.size ≤ 140737488351232) (w1 : a1.size ≤ 140737488351232) :
    Calls Try.prog 8 #[.string a0, .string a1] w fun e w' => e = .returned (.bool true) ∧ Below w.heap.size w w' := by
  obtain ⟨k, h⟩ := P a0 a1 w0 w1
  refine (bailiwicklaw04_MacMade.calls k a0 a1 true w h).mono ?_
  rintro e w' ⟨rfl, hd⟩
  exact ⟨rfl, hd⟩

-- PROVED BY HAND: function 26 (bailiwickref03_first)

-- PROVED BY HAND: function 27 (bailiwickref03_words)

-- PROVED BY HAND: function 28 (bailiwickref03_padded)

-- PROVED BY HAND: function 30 (bailiwickref03_right)

-- PROVED BY HAND: function 29 (bailiwickref03_spread)

-- PROVED BY HAND: function 13 (bailiwickref03_Sum)

-- PROVED BY HAND: function 34 (bailiwickref04_turned)

/-! ### bailiwickref04_Mac: function 20 -/
def bailiwickref04_Mac.j0 : Nat → ByteArray → ByteArray → Option (ByteArray)
  | 0, _, _ => none
  | k + 1, x0, x1 => (Go.Proofs.Ytakbdknmfaoppaa.R.turned.f x0 92).bind fun t123 => ((Go.Proofs.Ytakbdknmfaoppaa.R.turned.f x0 54).bind fun t124 => (if t124.size + x1.size ≤ 9223372036854775807 then ((Go.Proofs.Ytakbdknmfaoppaa.Q.bailiwickref03_Sum.f k (t124 ++ x1)).bind fun t125 => (if t123.size + t125.size ≤ 9223372036854775807 then ((Go.Proofs.Ytakbdknmfaoppaa.Q.bailiwickref03_Sum.f k (t123 ++ t125)).bind fun t126 => (some t126)) else (none))) else (none)))
def bailiwickref04_Mac.f (k : Nat) (a0 : ByteArray) (a1 : ByteArray) : Option (ByteArray) := if (a0.size : Int) > 64 then ((Go.Proofs.Ytakbdknmfaoppaa.Q.bailiwickref03_Sum.f k a0).bind fun t122 => (bailiwickref04_Mac.j0 k t122 a1)) else (bailiwickref04_Mac.j0 k a0 a1)
theorem bailiwickref04_Mac.mono_l : ∀ k, (∀ y0 y1, LeO (bailiwickref04_Mac.j0 k y0 y1) (bailiwickref04_Mac.j0 (k + 1) y0 y1))
  | 0 => fun _ _ r h => by simp [bailiwickref04_Mac.j0] at h
  | k + 1 => by
    have ih0 := bailiwickref04_Mac.mono_l k
    · intro y0 y1
      unfold bailiwickref04_Mac.j0
      repeat' first
      | (with_reducible exact ih0 _ _)
      | (with_reducible exact Go.Proofs.Ytakbdknmfaoppaa.Q.bailiwickref03_Sum.mono _ _)
      | (with_reducible exact LeO.refl _)
      | (with_reducible exact LeO.none _)
      | (with_reducible refine LeO.ite ?_ ?_)
      | (with_reducible refine LeO.bind ?_ (fun _ => ?_))
      | exact ih0 _ _
      | exact Go.Proofs.Ytakbdknmfaoppaa.Q.bailiwickref03_Sum.mono _ _
      | exact LeO.none _
      | refine LeO.ite ?_ ?_
      | refine LeO.bind ?_ (fun _ => ?_)
theorem bailiwickref04_Mac.mono : ∀ a0 a1 k, LeO (bailiwickref04_Mac.f k a0 a1) (bailiwickref04_Mac.f (k + 1) a0 a1) := by
  intro a0 a1 k
  have ih0 := bailiwickref04_Mac.mono_l k
  unfold bailiwickref04_Mac.f
  repeat' first
      | (with_reducible exact ih0 _ _)
      | (with_reducible exact Go.Proofs.Ytakbdknmfaoppaa.Q.bailiwickref03_Sum.mono _ _)
      | (with_reducible exact LeO.refl _)
      | (with_reducible exact LeO.none _)
      | (with_reducible refine LeO.ite ?_ ?_)
      | (with_reducible refine LeO.bind ?_ (fun _ => ?_))
      | exact ih0 _ _
      | exact Go.Proofs.Ytakbdknmfaoppaa.Q.bailiwickref03_Sum.mono _ _
      | exact LeO.none _
      | refine LeO.ite ?_ ?_
      | refine LeO.bind ?_ (fun _ => ?_)
set_option maxHeartbeats 8000000 in
set_option maxRecDepth 100000 in
theorem bailiwickref04_Mac.calls (k : Nat) (a0 : ByteArray) (a1 : ByteArray) (r : ByteArray) (w : World) (h : bailiwickref04_Mac.f k a0 a1 = some r) :
    Calls Try.prog 20 #[.string a0, .string a1] w fun e w' => e = .returned (.string r) ∧ Below w.heap.size w w' := by
  have HB := Aside0.mk (Below.refl w.heap.size w)
  have H : (if (a0.size : Int) > 64 then ((Go.Proofs.Ytakbdknmfaoppaa.Q.bailiwickref03_Sum.f k a0).bind fun t122 => (bailiwickref04_Mac.j0 k t122 a1)) else (bailiwickref04_Mac.j0 k a0 a1)) = some r := h
  clear h
  have HC3 := Aside0.mk H
  clear H
  go_enter Try.func20, Try.ntmps20
  (try dsimp only [List.append])
  go_upto_if 7 with (fail)
  go_cut [0] (fun v0 wc => ∃ (kq : Nat) (x0_2 : ByteArray), v0 = .string x0_2 ∧ Aside0 (bailiwickref04_Mac.j0 kq x0_2 a1 = some r) ∧ Aside0 (kq ≤ k) ∧ Aside0 (Below w.heap.size w wc))
  case first =>
    have H := HC3.out
    clear HC3
    by_cases c4 : (a0.size : Int) > 64
    · rw [if_pos c4] at H
      have c4b0 : decide (64 < (a0.size : Int)) = true := decide_eq_true c4
      have c4b1 : decide (64 < a0.size) = true := decide_eq_true (by omega)
      clear c4
      (first | rw [c4b0] | (simp only [i64_w, i32_w]; rw [c4b0]) | skip)
      replace H := Option.bind_eq_some_iff.mp H
      obtain ⟨t122, A50, H⟩ := H
      replace H : (bailiwickref04_Mac.j0 k t122 a1) = some r := H
      have A5 := Aside0.mk A50
      clear A50
      have H' := Aside0.mk H
      clear H
      go_wp2_with (first | ((with_reducible refine gate_callee (f := 13) rfl ?_); refine goesL_ (some 9) rfl rfl Try.func13 (by kernel_rfl) rfl #[.string a0] rfl (by (try simp only [List.map_toArray, List.map_cons, List.map_nil]); first | done | rfl | (simp only [List.length_drop, List.length_take]; rfl)) ?_; (with_reducible refine (Go.Proofs.Ytakbdknmfaoppaa.Q.bailiwickref03_Sum.calls k a0 t122 _ A5.out).mono ?_); rintro e w6 ⟨rfl, hb⟩; refine ⟨_, rfl, ?_⟩; have n0_ := Aside0.mk (below_step (by repeat (first | (with_reducible first | exact HB.out | apply below_alloc | apply pw_below_drewN | apply below_drew1) | exact HB.out)) hb); clear HB; have HB := n0_; clear n0_; (try clear hb); (try clear hb2); (try clear hk); (try clear hi)))
      go_meet
      case rel => exact ⟨_, (t122), (by first | rfl | (simp; done) | (simp [*]; done)), H', ⟨by first | omega | exact Nat.le_refl _⟩, ⟨by repeat (first | (with_reducible first | exact HB.out | apply below_alloc | apply pw_below_drewN | apply below_drew1) | exact HB.out)⟩⟩
    · rw [if_neg c4] at H
      have c4b0 : decide (64 < (a0.size : Int)) = false := decide_eq_false c4
      have c4b1 : decide (64 < a0.size) = false := decide_eq_false (by omega)
      clear c4
      (first | rw [c4b0] | (simp only [i64_w, i32_w]; rw [c4b0]) | skip)
      have H' := Aside0.mk H
      clear H
      go_wp2
      go_meet
      case rel => exact ⟨_, (a0), (by first | rfl | (simp; done) | (simp [*]; done)), H', ⟨by first | omega | exact Nat.le_refl _⟩, ⟨by repeat (first | (with_reducible first | exact HB.out | apply below_alloc | apply pw_below_drewN | apply below_drew1) | exact HB.out)⟩⟩
  case rest =>
    clear HC3
    try clear c1
    try clear c2
    try clear p2
    try clear c4
    try clear c4b0
    try clear c4b1
    obtain ⟨kq, x0_2, rfl, HA, HJ2, HB⟩ := hcut
    cases kq with
    | zero => exact absurd HA.out (by simp [bailiwickref04_Mac.j0])
    | succ kj2 =>
      have H := HA.out
      clear HA
      simp only [bailiwickref04_Mac.j0] at H
      replace H := Option.bind_eq_some_iff.mp H
      obtain ⟨t123, A70, H⟩ := H
      replace H : ((Go.Proofs.Ytakbdknmfaoppaa.R.turned.f x0_2 54).bind fun t124 => (if t124.size + a1.size ≤ 9223372036854775807 then ((Go.Proofs.Ytakbdknmfaoppaa.Q.bailiwickref03_Sum.f kj2 (t124 ++ a1)).bind fun t125 => (if t123.size + t125.size ≤ 9223372036854775807 then ((Go.Proofs.Ytakbdknmfaoppaa.Q.bailiwickref03_Sum.f kj2 (t123 ++ t125)).bind fun t126 => (some t126)) else (none))) else (none))) = some r := H
      have A7 := Aside0.mk A70
      clear A70
      replace H := Option.bind_eq_some_iff.mp H
      obtain ⟨t124, A80, H⟩ := H
      replace H : (if t124.size + a1.size ≤ 9223372036854775807 then ((Go.Proofs.Ytakbdknmfaoppaa.Q.bailiwickref03_Sum.f kj2 (t124 ++ a1)).bind fun t125 => (if t123.size + t125.size ≤ 9223372036854775807 then ((Go.Proofs.Ytakbdknmfaoppaa.Q.bailiwickref03_Sum.f kj2 (t123 ++ t125)).bind fun t126 => (some t126)) else (none))) else (none)) = some r := H
      have A8 := Aside0.mk A80
      clear A80
      by_cases c9 : t124.size + a1.size ≤ 9223372036854775807
      · rw [if_pos c9] at H
        have c9b0 := eq_true c9
        have c9b1 : decide (t124.size + a1.size ≤ 9223372036854775807) = true := decide_eq_true c9
        try have c9b2 : (9223372036854775807 < t124.size + a1.size) = False := eq_false (Nat.not_lt.2 c9)
        replace H := Option.bind_eq_some_iff.mp H
        obtain ⟨t125, A100, H⟩ := H
        replace H : (if t123.size + t125.size ≤ 9223372036854775807 then ((Go.Proofs.Ytakbdknmfaoppaa.Q.bailiwickref03_Sum.f kj2 (t123 ++ t125)).bind fun t126 => (some t126)) else (none)) = some r := H
        have A10 := Aside0.mk A100
        clear A100
        by_cases c11 : t123.size + t125.size ≤ 9223372036854775807
        · rw [if_pos c11] at H
          have c11b0 := eq_true c11
          have c11b1 : decide (t123.size + t125.size ≤ 9223372036854775807) = true := decide_eq_true c11
          try have c11b2 : (9223372036854775807 < t123.size + t125.size) = False := eq_false (Nat.not_lt.2 c11)
          replace H := Option.bind_eq_some_iff.mp H
          obtain ⟨t126, A120, H⟩ := H
          replace H : (some t126) = some r := H
          have A12 := Aside0.mk A120
          clear A120
          obtain rfl := Option.some.inj H
          go_wp2_with (first | ((with_reducible refine gate_callee (f := 34) rfl ?_); refine goesL_ (some 11) rfl rfl Try.func34 (by kernel_rfl) rfl #[.string x0_2, .int .u8 92] rfl (by (try simp only [List.map_toArray, List.map_cons, List.map_nil]); first | done | rfl | (simp only [List.length_drop, List.length_take]; rfl)) ?_; (with_reducible refine (Go.Proofs.Ytakbdknmfaoppaa.R.turned.calls x0_2 92 t123 _ A7.out).mono ?_); rintro e w13 ⟨rfl, hb⟩; refine ⟨_, rfl, ?_⟩; have n0_ := Aside0.mk (below_step (by repeat (first | (with_reducible first | exact HB.out | apply below_alloc | apply pw_below_drewN | apply below_drew1) | exact HB.out)) hb); clear HB; have HB := n0_; clear n0_; (try clear hb); (try clear hb2); (try clear hk); (try clear hi)) | ((with_reducible refine gate_callee (f := 34) rfl ?_); refine goesL_ (some 13) rfl rfl Try.func34 (by kernel_rfl) rfl #[.string x0_2, .int .u8 54] rfl (by (try simp only [List.map_toArray, List.map_cons, List.map_nil]); first | done | rfl | (simp only [List.length_drop, List.length_take]; rfl)) ?_; (with_reducible refine (Go.Proofs.Ytakbdknmfaoppaa.R.turned.calls x0_2 54 t124 _ A8.out).mono ?_); rintro e w14 ⟨rfl, hb⟩; refine ⟨_, rfl, ?_⟩; have n0_ := Aside0.mk (below_step (by repeat (first | (with_reducible first | exact HB.out | apply below_alloc | apply pw_below_drewN | apply below_drew1) | exact HB.out)) hb); clear HB; have HB := n0_; clear n0_; (try clear hb); (try clear hb2); (try clear hk); (try clear hi)) | ((with_reducible refine gate_callee (f := 13) rfl ?_); refine goesL_ (some 16) rfl rfl Try.func13 (by kernel_rfl) rfl #[.string (t124 ++ a1)] rfl (by (try simp only [List.map_toArray, List.map_cons, List.map_nil]); first | done | rfl | (simp only [List.length_drop, List.length_take]; rfl)) ?_; (with_reducible refine (Go.Proofs.Ytakbdknmfaoppaa.Q.bailiwickref03_Sum.calls kj2 (t124 ++ a1) t125 _ A10.out).mono ?_); rintro e w15 ⟨rfl, hb⟩; refine ⟨_, rfl, ?_⟩; have n0_ := Aside0.mk (below_step (by repeat (first | (with_reducible first | exact HB.out | apply below_alloc | apply pw_below_drewN | apply below_drew1) | exact HB.out)) hb); clear HB; have HB := n0_; clear n0_; (try clear hb); (try clear hb2); (try clear hk); (try clear hi)) | ((with_reducible refine gate_callee (f := 13) rfl ?_); refine goesL_ (some 18) rfl rfl Try.func13 (by kernel_rfl) rfl #[.string (t123 ++ t125)] rfl (by (try simp only [List.map_toArray, List.map_cons, List.map_nil]); first | done | rfl | (simp only [List.length_drop, List.length_take]; rfl)) ?_; (with_reducible refine (Go.Proofs.Ytakbdknmfaoppaa.Q.bailiwickref03_Sum.calls kj2 (t123 ++ t125) t126 _ A12.out).mono ?_); rintro e w16 ⟨rfl, hb⟩; refine ⟨_, rfl, ?_⟩; have n0_ := Aside0.mk (below_step (by repeat (first | (with_reducible first | exact HB.out | apply below_alloc | apply pw_below_drewN | apply below_drew1) | exact HB.out)) hb); clear HB; have HB := n0_; clear n0_; (try clear hb); (try clear hb2); (try clear hk); (try clear hi)))
          go_ret
          exact ⟨by first | rfl | (simp [errW_none, errW_some] <;> rfl) | (simp [*, errW_none, errW_some] <;> rfl), by repeat (first | (with_reducible first | exact HB.out | apply below_alloc | apply pw_below_drewN | apply below_drew1) | exact HB.out)⟩
        · rw [if_neg c11] at H
          exact absurd H (by simp)
      · rw [if_neg c9] at H
        exact absurd H (by simp)

/-! ### mac_Tag: function 21 -/
def mac_Tag.f (a0 : ByteArray) (a1 : ByteArray) : Option (ByteArray) := (Go.Proofs.Ytakbdknmfaoppaa.R.Mac.f a0 a1).bind fun t127 => (if 0 ≤ 16 then (if 16 ≤ (t127.size : Int) then (some (t127.extract 0 16)) else (none)) else (none))
set_option maxHeartbeats 8000000 in
set_option maxRecDepth 100000 in
theorem mac_Tag.calls (a0 : ByteArray) (a1 : ByteArray) (r : ByteArray) (w : World) (h : mac_Tag.f a0 a1 = some r) :
    Calls Try.prog 21 #[.string a0, .string a1] w fun e w' => e = .returned (.string r) ∧ Below w.heap.size w w' := by
  have HB := Aside0.mk (Below.refl w.heap.size w)
  have H : ((Go.Proofs.Ytakbdknmfaoppaa.R.Mac.f a0 a1).bind fun t127 => (if 0 ≤ 16 then (if 16 ≤ (t127.size : Int) then (some (t127.extract 0 16)) else (none)) else (none))) = some r := h
  clear h
  replace H := Option.bind_eq_some_iff.mp H
  obtain ⟨t127, A30, H⟩ := H
  replace H : (if 0 ≤ 16 then (if 16 ≤ (t127.size : Int) then (some (t127.extract 0 16)) else (none)) else (none)) = some r := H
  have A3 := Aside0.mk A30
  clear A30
  by_cases c4 : 0 ≤ 16
  · rw [if_pos c4] at H
    have c4b0 := eq_true c4
    have c4b1 : decide (0 ≤ 16) = true := decide_eq_true c4
    clear c4
    by_cases c5 : 16 ≤ (t127.size : Int)
    · rw [if_pos c5] at H
      have c5b0 := eq_true c5
      have c5b1 : decide (16 ≤ (t127.size : Int)) = true := decide_eq_true c5
      clear c5
      obtain rfl := Option.some.inj H
      go_enter Try.func21, Try.ntmps21
      (try dsimp only [List.append])
      go_wp2_with (first | ((with_reducible refine gate_callee (f := 19) rfl ?_); refine goesL_ (some 7) rfl rfl Try.func19 (by kernel_rfl) rfl #[.string a0, .string a1] rfl (by (try simp only [List.map_toArray, List.map_cons, List.map_nil]); first | done | rfl | (simp only [List.length_drop, List.length_take]; rfl)) ?_; (with_reducible refine (Go.Proofs.Ytakbdknmfaoppaa.R.Mac.calls a0 a1 t127 _ A3.out).mono ?_); rintro e w6 ⟨rfl, hb⟩; refine ⟨_, rfl, ?_⟩; have n0_ := Aside0.mk (below_step (by repeat (first | (with_reducible first | exact HB.out | apply below_alloc | apply pw_below_drewN | apply below_drew1) | exact HB.out)) hb); clear HB; have HB := n0_; clear n0_; (try clear hb); (try clear hb2); (try clear hk); (try clear hi)))
      go_ret
      exact ⟨by first | rfl | (simp [errW_none, errW_some] <;> rfl) | (simp [*, errW_none, errW_some] <;> rfl), by repeat (first | (with_reducible first | exact HB.out | apply below_alloc | apply pw_below_drewN | apply below_drew1) | exact HB.out)⟩
    · rw [if_neg c5] at H
      exact absurd H (by simp)
  · rw [if_neg c4] at H
    exact absurd H (by simp)

end Go.Proofs.Ytakbdknmfaoppaa.M
