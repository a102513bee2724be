-- Written by a program of this session (gp.py), which drives the print with some lines turned. Not trusted: Lean checks it.
import Derived.Test.YtakbdknmfaoppaaTx0
namespace Go.Proofs.Ytakbdknmfaoppaa.T
open Go.RowKit Go.Proofs.YtakbdknmfaoppaaW.PrintWords Go.Proofs.YtakbdknmfaoppaaW.PrintLast Go.Proofs.YtakbdknmfaoppaaW.PrintMore
attribute [local go_sem] max2_int min2_int max_two min_two max_three min_three max_four min_four P.emod_u8 P.emod_u16 P.emod_u32
set_option linter.unusedVariables false
set_option linter.unusedSimpArgs false

-- NOT PRINTED: function 35 (sha_primes)

-- PROVED BY HAND: function 47 (bits_Mul64)

-- PROVED BY HAND: function 45 (sha_above)

-- PROVED BY HAND: function 36 (sha_behind)

-- NOT PRINTED: function 23 (sha_tables)

-- NOT PRINTED: function 32 (strings_Builder_String)

-- NOT PRINTED: function 46 (bits_Mul32)

-- PROVED BY HAND: function 37 (bits_Mul)

-- NOT PRINTED: function 48 (stringslite_HasPrefix)

-- NOT PRINTED: function 38 (strings_HasPrefix)

-- NOT PRINTED: function 50 (abi_NoEscape)

-- NOT PRINTED: function 44 (strings_Builder_copyCheck)

-- NOT PRINTED: function 51 (bytealg_MakeNoZero)

-- NOT PRINTED: function 49 (strings_Builder_grow)

-- NOT PRINTED: function 39 (strings_Builder_Grow)

-- NOT PRINTED: function 40 (strings_Builder_WriteString)

-- NOT PRINTED: function 41 (strings_Builder_Len)

-- NOT PRINTED: function 24 (strings_Repeat)

-- PROVED BY HAND: function 43 (bits_RotateLeft32)

-- NOT PRINTED: function 42 (sha_spread)

-- NOT PRINTED: function 25 (sha_state_mix)

-- PROVED BY HAND: function 12 (sha_Sum)

-- NOT PRINTED: function 31 (strings_Builder_WriteByte)

-- PROVED BY HAND: function 14 (sha_Hex)

/-! ### bailiwicklaw03_examples: function 11 -/
def bailiwicklaw03_examples.f  : Option (Bool) := (Go.Proofs.Ytakbdknmfaoppaa.R.Sum.f (⟨#[97, 98, 99]⟩ : ByteArray)).bind fun t101 => ((Go.Proofs.Ytakbdknmfaoppaa.R.Hex.f t101).bind fun t102 => (some (t102.toList == ([98, 97, 55, 56, 49, 54, 98, 102, 56, 102, 48, 49, 99, 102, 101, 97, 52, 49, 52, 49, 52, 48, 100, 101, 53, 100, 97, 101, 50, 50, 50, 51, 98, 48, 48, 51, 54, 49, 97, 51, 57, 54, 49, 55, 55, 97, 57, 99, 98, 52, 49, 48, 102, 102, 54, 49, 102, 50, 48, 48, 49, 53, 97, 100] : List UInt8))))
set_option maxHeartbeats 8000000 in
set_option maxRecDepth 100000 in
theorem bailiwicklaw03_examples.calls  (r : Bool) (w : World) (h : bailiwicklaw03_examples.f  = some r) :
    Calls Try.prog 11 #[] w fun e w' => e = .returned (.bool r) ∧ Below w.heap.size w w' := by
  have HB := Aside0.mk (Below.refl w.heap.size w)
  have H : ((Go.Proofs.Ytakbdknmfaoppaa.R.Sum.f (⟨#[97, 98, 99]⟩ : ByteArray)).bind fun t101 => ((Go.Proofs.Ytakbdknmfaoppaa.R.Hex.f t101).bind fun t102 => (some (t102.toList == ([98, 97, 55, 56, 49, 54, 98, 102, 56, 102, 48, 49, 99, 102, 101, 97, 52, 49, 52, 49, 52, 48, 100, 101, 53, 100, 97, 101, 50, 50, 50, 51, 98, 48, 48, 51, 54, 49, 97, 51, 57, 54, 49, 55, 55, 97, 57, 99, 98, 52, 49, 48, 102, 102, 54, 49, 102, 50, 48, 48, 49, 53, 97, 100] : List UInt8))))) = some r := h
  clear h
  replace H := Option.bind_eq_some_iff.mp H
  obtain ⟨t101, A10, H⟩ := H
  replace H : ((Go.Proofs.Ytakbdknmfaoppaa.R.Hex.f t101).bind fun t102 => (some (t102.toList == ([98, 97, 55, 56, 49, 54, 98, 102, 56, 102, 48, 49, 99, 102, 101, 97, 52, 49, 52, 49, 52, 48, 100, 101, 53, 100, 97, 101, 50, 50, 50, 51, 98, 48, 48, 51, 54, 49, 97, 51, 57, 54, 49, 55, 55, 97, 57, 99, 98, 52, 49, 48, 102, 102, 54, 49, 102, 50, 48, 48, 49, 53, 97, 100] : List UInt8)))) = some r := H
  have A1 := Aside0.mk A10
  clear A10
  replace H := Option.bind_eq_some_iff.mp H
  obtain ⟨t102, A20, H⟩ := H
  replace H : (some (t102.toList == ([98, 97, 55, 56, 49, 54, 98, 102, 56, 102, 48, 49, 99, 102, 101, 97, 52, 49, 52, 49, 52, 48, 100, 101, 53, 100, 97, 101, 50, 50, 50, 51, 98, 48, 48, 51, 54, 49, 97, 51, 57, 54, 49, 55, 55, 97, 57, 99, 98, 52, 49, 48, 102, 102, 54, 49, 102, 50, 48, 48, 49, 53, 97, 100] : List UInt8))) = some r := H
  have A2 := Aside0.mk A20
  clear A20
  obtain rfl := Option.some.inj H
  go_enter Try.func11, Try.ntmps11
  (try dsimp only [List.append])
  go_wp2_with (first | ((with_reducible refine gate_callee (f := 12) rfl ?_); refine goesL_ (some 2) rfl rfl Try.func12 (by kernel_rfl) rfl #[.string (⟨#[97, 98, 99]⟩ : ByteArray)] rfl (by (try simp only [List.map_toArray, List.map_cons, List.map_nil]); first | done | rfl | (simp only [List.length_drop, List.length_take]; rfl)) ?_; (with_reducible refine (Go.Proofs.Ytakbdknmfaoppaa.R.Sum.calls (⟨#[97, 98, 99]⟩ : ByteArray) t101 _ A1.out).mono ?_); rintro e w3 ⟨rfl, hb⟩; refine ⟨_, rfl, ?_⟩; have n0_ := Aside0.mk (below_step (by repeat (first | (with_reducible first | exact HB.out | apply below_alloc | apply pw_below_drewN | apply below_drew1) | exact HB.out)) hb); clear HB; have HB := n0_; clear n0_; (try clear hb); (try clear hb2); (try clear hk); (try clear hi)) | ((with_reducible refine gate_callee (f := 14) rfl ?_); refine goesL_ (some 3) rfl rfl Try.func14 (by kernel_rfl) rfl #[.string t101] rfl (by (try simp only [List.map_toArray, List.map_cons, List.map_nil]); first | done | rfl | (simp only [List.length_drop, List.length_take]; rfl)) ?_; (with_reducible refine (Go.Proofs.Ytakbdknmfaoppaa.R.Hex.calls t101 t102 _ A2.out).mono ?_); rintro e w4 ⟨rfl, hb⟩; refine ⟨_, rfl, ?_⟩; have n0_ := Aside0.mk (below_step (by repeat (first | (with_reducible first | exact HB.out | apply below_alloc | apply pw_below_drewN | apply below_drew1) | exact HB.out)) hb); clear HB; have HB := n0_; clear n0_; (try clear hb); (try clear hb2); (try clear hk); (try clear hi)))
  go_ret
  exact ⟨by first | rfl | (simp [errW_none, errW_some] <;> rfl) | (simp [*, errW_none, errW_some] <;> rfl), by repeat (first | (with_reducible first | exact HB.out | apply below_alloc | apply pw_below_drewN | apply below_drew1) | exact HB.out)⟩

-- PROVED BY HAND: function 26 (bailiwickref03_first)

-- PROVED BY HAND: function 27 (bailiwickref03_words)

-- PROVED BY HAND: function 28 (bailiwickref03_padded)

-- PROVED BY HAND: function 30 (bailiwickref03_right)

-- PROVED BY HAND: function 29 (bailiwickref03_spread)

-- PROVED BY HAND: function 13 (bailiwickref03_Sum)

-- PROVED BY HAND: function 15 (bailiwickref03_Hex)

/-! ### bailiwicklaw03_ShaSums: function 3 -/
def bailiwicklaw03_ShaSums.f (k : Nat) (a0 : ByteArray) : Option (Bool) := (bailiwicklaw03_examples.f).bind fun t103 => (if t103 = true then (if 0 ≤ (mn (a0.size : Int) 1000) then (if (mn (a0.size : Int) 1000) ≤ (a0.size : Int) then ((Go.Proofs.Ytakbdknmfaoppaa.R.Sum.f (a0.extract 0 ((mn (a0.size : Int) 1000) : Int).toNat)).bind fun t104 => ((Go.Proofs.Ytakbdknmfaoppaa.Q.bailiwickref03_Sum.f k (a0.extract 0 ((mn (a0.size : Int) 1000) : Int).toNat)).bind fun t105 => (if t104.toList = t105.toList then ((Go.Proofs.Ytakbdknmfaoppaa.R.Hex.f (a0.extract 0 ((mn (a0.size : Int) 1000) : Int).toNat)).bind fun t106 => ((Go.Proofs.Ytakbdknmfaoppaa.P.bailiwickref03_Hex.f k (a0.extract 0 ((mn (a0.size : Int) 1000) : Int).toNat)).bind fun t107 => (some (t106.toList == t107.toList)))) else (some false)))) else (none)) else (none)) else (some false))
theorem bailiwicklaw03_ShaSums.mono : ∀ a0 k, LeO (bailiwicklaw03_ShaSums.f k a0) (bailiwicklaw03_ShaSums.f (k + 1) a0) := by
  intro a0 k
  unfold bailiwicklaw03_ShaSums.f
  repeat' first
      | (with_reducible exact Go.Proofs.Ytakbdknmfaoppaa.P.bailiwickref03_Hex.mono _ _)
      | (with_reducible exact Go.Proofs.Ytakbdknmfaoppaa.Q.bailiwickref03_Sum.mono _ _)
      | (with_reducible exact LeO.refl _)
      | (with_reducible exact LeO.none _)
      | (with_reducible refine LeO.ite ?_ ?_)
      | (with_reducible refine LeO.bind ?_ (fun _ => ?_))
      | exact Go.Proofs.Ytakbdknmfaoppaa.P.bailiwickref03_Hex.mono _ _
      | exact Go.Proofs.Ytakbdknmfaoppaa.Q.bailiwickref03_Sum.mono _ _
      | exact LeO.none _
      | refine LeO.ite ?_ ?_
      | refine LeO.bind ?_ (fun _ => ?_)
set_option maxHeartbeats 8000000 in
set_option maxRecDepth 100000 in
theorem bailiwicklaw03_ShaSums.calls (k : Nat) (a0 : ByteArray) (r : Bool) (w : World) (h : bailiwicklaw03_ShaSums.f k a0 = some r) :
    Calls Try.prog 3 #[.string a0] w fun e w' => e = .returned (.bool r) ∧ Below w.heap.size w w' := by
  have HB := Aside0.mk (Below.refl w.heap.size w)
  have H : ((bailiwicklaw03_examples.f).bind fun t103 => (if t103 = true then (if 0 ≤ (mn (a0.size : Int) 1000) then (if (mn (a0.size : Int) 1000) ≤ (a0.size : Int) then ((Go.Proofs.Ytakbdknmfaoppaa.R.Sum.f (a0.extract 0 ((mn (a0.size : Int) 1000) : Int).toNat)).bind fun t104 => ((Go.Proofs.Ytakbdknmfaoppaa.Q.bailiwickref03_Sum.f k (a0.extract 0 ((mn (a0.size : Int) 1000) : Int).toNat)).bind fun t105 => (if t104.toList = t105.toList then ((Go.Proofs.Ytakbdknmfaoppaa.R.Hex.f (a0.extract 0 ((mn (a0.size : Int) 1000) : Int).toNat)).bind fun t106 => ((Go.Proofs.Ytakbdknmfaoppaa.P.bailiwickref03_Hex.f k (a0.extract 0 ((mn (a0.size : Int) 1000) : Int).toNat)).bind fun t107 => (some (t106.toList == t107.toList)))) else (some false)))) else (none)) else (none)) else (some false))) = some r := h
  clear h
  replace H := Option.bind_eq_some_iff.mp H
  obtain ⟨t103, A20, H⟩ := H
  replace H : (if t103 = true then (if 0 ≤ (mn (a0.size : Int) 1000) then (if (mn (a0.size : Int) 1000) ≤ (a0.size : Int) then ((Go.Proofs.Ytakbdknmfaoppaa.R.Sum.f (a0.extract 0 ((mn (a0.size : Int) 1000) : Int).toNat)).bind fun t104 => ((Go.Proofs.Ytakbdknmfaoppaa.Q.bailiwickref03_Sum.f k (a0.extract 0 ((mn (a0.size : Int) 1000) : Int).toNat)).bind fun t105 => (if t104.toList = t105.toList then ((Go.Proofs.Ytakbdknmfaoppaa.R.Hex.f (a0.extract 0 ((mn (a0.size : Int) 1000) : Int).toNat)).bind fun t106 => ((Go.Proofs.Ytakbdknmfaoppaa.P.bailiwickref03_Hex.f k (a0.extract 0 ((mn (a0.size : Int) 1000) : Int).toNat)).bind fun t107 => (some (t106.toList == t107.toList)))) else (some false)))) else (none)) else (none)) else (some false)) = some r := H
  have A2 := Aside0.mk A20
  clear A20
  by_cases c3 : t103 = true
  · subst c3
    have H1 : (if 0 ≤ (mn (a0.size : Int) 1000) then (if (mn (a0.size : Int) 1000) ≤ (a0.size : Int) then ((Go.Proofs.Ytakbdknmfaoppaa.R.Sum.f (a0.extract 0 ((mn (a0.size : Int) 1000) : Int).toNat)).bind fun t104 => ((Go.Proofs.Ytakbdknmfaoppaa.Q.bailiwickref03_Sum.f k (a0.extract 0 ((mn (a0.size : Int) 1000) : Int).toNat)).bind fun t105 => (if t104.toList = t105.toList then ((Go.Proofs.Ytakbdknmfaoppaa.R.Hex.f (a0.extract 0 ((mn (a0.size : Int) 1000) : Int).toNat)).bind fun t106 => ((Go.Proofs.Ytakbdknmfaoppaa.P.bailiwickref03_Hex.f k (a0.extract 0 ((mn (a0.size : Int) 1000) : Int).toNat)).bind fun t107 => (some (t106.toList == t107.toList)))) else (some false)))) else (none)) else (none)) = some r := by rw [if_pos rfl] at H; exact H
    clear H
    have H := H1
    clear H1
    obtain ⟨ji4, hji4⟩ : ∃ j_ : Int, (mn (a0.size : Int) 1000) = j_ := ⟨_, rfl⟩
    replace H : (if 0 ≤ (ji4) then (if (ji4) ≤ (a0.size : Int) then ((Go.Proofs.Ytakbdknmfaoppaa.R.Sum.f (a0.extract 0 ((ji4) : Int).toNat)).bind fun t104 => ((Go.Proofs.Ytakbdknmfaoppaa.Q.bailiwickref03_Sum.f k (a0.extract 0 ((ji4) : Int).toNat)).bind fun t105 => (if t104.toList = t105.toList then ((Go.Proofs.Ytakbdknmfaoppaa.R.Hex.f (a0.extract 0 ((ji4) : Int).toNat)).bind fun t106 => ((Go.Proofs.Ytakbdknmfaoppaa.P.bailiwickref03_Hex.f k (a0.extract 0 ((ji4) : Int).toNat)).bind fun t107 => (some (t106.toList == t107.toList)))) else (some false)))) else (none)) else (none)) = some r := by first | (rw [hji4] at H; exact H) | (simp only [hji4] at H ⊢; exact H)
    (try rw [hji4] at A2)
    (try (have hji4h : ji4 ≤ 1000 := by (rw [← hji4]; unfold mn; (repeat' split) <;> omega)))
    (try (have hji4g : ji4 ≤ 64 := by omega))
    (try (have hji4l : 0 ≤ ji4 := by (rw [← hji4]; unfold mn; (repeat' split) <;> omega)))
    (try (have hji4m : 0 ≤ ji4 := by omega))
    have hji4_ : (if 1000 < (a0.size : Int) then 1000 else (a0.size : Int)) = ji4 := hji4
    obtain ⟨bx4_a0, hbx4_a0⟩ : ∃ b_ : ByteArray, (a0.extract 0 (ji4 : Int).toNat) = b_ := ⟨_, rfl⟩
    have hbx4_a0z : bx4_a0.size ≤ 1000 := by rw [← hbx4_a0, ByteArray.size_extract]; omega
    simp only [hbx4_a0] at H
    by_cases c5 : 0 ≤ (ji4)
    · rw [if_pos c5] at H
      have c5b0 := eq_true c5
      have c5b1 : decide (0 ≤ (ji4)) = true := decide_eq_true c5
      clear c5
      by_cases c6 : (ji4) ≤ (a0.size : Int)
      · rw [if_pos c6] at H
        have c6b0 := eq_true c6
        have c6b1 : decide ((ji4) ≤ (a0.size : Int)) = true := decide_eq_true c6
        clear c6
        replace H := Option.bind_eq_some_iff.mp H
        obtain ⟨t104, A70, H⟩ := H
        replace H : ((Go.Proofs.Ytakbdknmfaoppaa.Q.bailiwickref03_Sum.f k bx4_a0).bind fun t105 => (if t104.toList = t105.toList then ((Go.Proofs.Ytakbdknmfaoppaa.R.Hex.f bx4_a0).bind fun t106 => ((Go.Proofs.Ytakbdknmfaoppaa.P.bailiwickref03_Hex.f k bx4_a0).bind fun t107 => (some (t106.toList == t107.toList)))) else (some false))) = some r := H
        have A7 := Aside0.mk A70
        clear A70
        replace H := Option.bind_eq_some_iff.mp H
        obtain ⟨t105, A80, H⟩ := H
        replace H : (if t104.toList = t105.toList then ((Go.Proofs.Ytakbdknmfaoppaa.R.Hex.f bx4_a0).bind fun t106 => ((Go.Proofs.Ytakbdknmfaoppaa.P.bailiwickref03_Hex.f k bx4_a0).bind fun t107 => (some (t106.toList == t107.toList)))) else (some false)) = some r := H
        have A8 := Aside0.mk A80
        clear A80
        by_cases c9 : t104.toList = t105.toList
        · rw [if_pos c9] at H
          have c9b0 : (t104.toList == t105.toList) = true := beq_iff_eq.mpr c9
          have c9b1 : (t104.toList != t105.toList) = false := bne_eq_false_iff_eq.mpr c9
          clear c9
          replace H := Option.bind_eq_some_iff.mp H
          obtain ⟨t106, A100, H⟩ := H
          replace H : ((Go.Proofs.Ytakbdknmfaoppaa.P.bailiwickref03_Hex.f k bx4_a0).bind fun t107 => (some (t106.toList == t107.toList))) = some r := H
          have A10 := Aside0.mk A100
          clear A100
          replace H := Option.bind_eq_some_iff.mp H
          obtain ⟨t107, A110, H⟩ := H
          replace H : (some (t106.toList == t107.toList)) = some r := H
          have A11 := Aside0.mk A110
          clear A110
          obtain rfl := Option.some.inj H
          go_enter Try.func3, Try.ntmps3
          (try dsimp only [List.append])
          go_wp2_with (first | ((with_reducible refine gate_callee (f := 11) rfl ?_); refine goesL_ (some 4) rfl rfl Try.func11 (by kernel_rfl) rfl #[] rfl (by (try simp only [List.map_toArray, List.map_cons, List.map_nil]); first | done | rfl | (simp only [List.length_drop, List.length_take]; rfl)) ?_; (with_reducible refine (bailiwicklaw03_examples.calls  true _ A2.out).mono ?_); rintro e w12 ⟨rfl, hb⟩; refine ⟨_, rfl, ?_⟩; have n0_ := Aside0.mk (below_step (by repeat (first | (with_reducible first | exact HB.out | apply below_alloc | apply pw_below_drewN | apply below_drew1) | exact HB.out)) hb); clear HB; have HB := n0_; clear n0_; (try clear hb); (try clear hb2); (try clear hk); (try clear hi)) | (go_at_call 12; (with_reducible refine (Go.Proofs.Ytakbdknmfaoppaa.R.Sum.calls bx4_a0 t104 _ A7.out).mono ?_); rintro e w13 ⟨rfl, hb⟩; have n0_ := Aside0.mk (below_step (by repeat (first | (with_reducible first | exact HB.out | apply below_alloc | apply pw_below_drewN | apply below_drew1) | exact HB.out)) hb); clear HB; have HB := n0_; clear n0_; (try clear hb); (try clear hb2); (try clear hk); (try clear hi)) | (go_at_call 13; (with_reducible refine (Go.Proofs.Ytakbdknmfaoppaa.Q.bailiwickref03_Sum.calls k bx4_a0 t105 _ A8.out).mono ?_); rintro e w14 ⟨rfl, hb⟩; have n0_ := Aside0.mk (below_step (by repeat (first | (with_reducible first | exact HB.out | apply below_alloc | apply pw_below_drewN | apply below_drew1) | exact HB.out)) hb); clear HB; have HB := n0_; clear n0_; (try clear hb); (try clear hb2); (try clear hk); (try clear hi)) | (go_at_call 14; (with_reducible refine (Go.Proofs.Ytakbdknmfaoppaa.R.Hex.calls bx4_a0 t106 _ A10.out).mono ?_); rintro e w15 ⟨rfl, hb⟩; have n0_ := Aside0.mk (below_step (by repeat (first | (with_reducible first | exact HB.out | apply below_alloc | apply pw_below_drewN | apply below_drew1) | exact HB.out)) hb); clear HB; have HB := n0_; clear n0_; (try clear hb); (try clear hb2); (try clear hk); (try clear hi)) | (go_at_call 15; (with_reducible refine (Go.Proofs.Ytakbdknmfaoppaa.P.bailiwickref03_Hex.calls k bx4_a0 t107 _ A11.out).mono ?_); rintro e w16 ⟨rfl, hb⟩; have n0_ := Aside0.mk (below_step (by repeat (first | (with_reducible first | exact HB.out | apply below_alloc | apply pw_below_drewN | apply below_drew1) | exact HB.out)) hb); clear HB; have HB := n0_; clear n0_; (try clear hb); (try clear hb2); (try clear hk); (try clear hi)))
          go_ret
          exact ⟨by first | rfl | (simp [errW_none, errW_some] <;> rfl) | (simp only [← hji4]; first | rfl | (simp [errW_none, errW_some] <;> rfl)) | (simp [*, errW_none, errW_some] <;> rfl), by repeat (first | (with_reducible first | exact HB.out | apply below_alloc | apply pw_below_drewN | apply below_drew1) | exact HB.out)⟩
        · rw [if_neg c9] at H
          have c9b0 : (t104.toList == t105.toList) = false := beq_eq_false_iff_ne.mpr c9
          have c9b1 : (t104.toList != t105.toList) = true := bne_iff_ne.mpr c9
          obtain rfl := Option.some.inj H
          go_enter Try.func3, Try.ntmps3
          (try dsimp only [List.append])
          go_wp2_with (first | ((with_reducible refine gate_callee (f := 11) rfl ?_); refine goesL_ (some 4) rfl rfl Try.func11 (by kernel_rfl) rfl #[] rfl (by (try simp only [List.map_toArray, List.map_cons, List.map_nil]); first | done | rfl | (simp only [List.length_drop, List.length_take]; rfl)) ?_; (with_reducible refine (bailiwicklaw03_examples.calls  true _ A2.out).mono ?_); rintro e w17 ⟨rfl, hb⟩; refine ⟨_, rfl, ?_⟩; have n0_ := Aside0.mk (below_step (by repeat (first | (with_reducible first | exact HB.out | apply below_alloc | apply pw_below_drewN | apply below_drew1) | exact HB.out)) hb); clear HB; have HB := n0_; clear n0_; (try clear hb); (try clear hb2); (try clear hk); (try clear hi)) | (go_at_call 12; (with_reducible refine (Go.Proofs.Ytakbdknmfaoppaa.R.Sum.calls bx4_a0 t104 _ A7.out).mono ?_); rintro e w18 ⟨rfl, hb⟩; have n0_ := Aside0.mk (below_step (by repeat (first | (with_reducible first | exact HB.out | apply below_alloc | apply pw_below_drewN | apply below_drew1) | exact HB.out)) hb); clear HB; have HB := n0_; clear n0_; (try clear hb); (try clear hb2); (try clear hk); (try clear hi)) | (go_at_call 13; (with_reducible refine (Go.Proofs.Ytakbdknmfaoppaa.Q.bailiwickref03_Sum.calls k bx4_a0 t105 _ A8.out).mono ?_); rintro e w19 ⟨rfl, hb⟩; have n0_ := Aside0.mk (below_step (by repeat (first | (with_reducible first | exact HB.out | apply below_alloc | apply pw_below_drewN | apply below_drew1) | exact HB.out)) hb); clear HB; have HB := n0_; clear n0_; (try clear hb); (try clear hb2); (try clear hk); (try clear hi)))
          go_ret
          exact ⟨by first | rfl | (simp [errW_none, errW_some] <;> rfl) | (simp only [← hji4]; first | rfl | (simp [errW_none, errW_some] <;> rfl)) | (simp [*, errW_none, errW_some] <;> rfl), by repeat (first | (with_reducible first | exact HB.out | apply below_alloc | apply pw_below_drewN | apply below_drew1) | exact HB.out)⟩
      · rw [if_neg c6] at H
        exact absurd H (by simp)
    · rw [if_neg c5] at H
      exact absurd H (by simp)
  · replace c3 := Bool.eq_false_iff.mpr c3
    subst c3
    have H1 : (some false) = some r := by rw [if_neg (show ¬ (false = true) by decide)] at H; exact H
    clear H
    have H := H1
    clear H1
    obtain rfl := Option.some.inj H
    go_enter Try.func3, Try.ntmps3
    (try dsimp only [List.append])
    go_wp2_with (first | ((with_reducible refine gate_callee (f := 11) rfl ?_); refine goesL_ (some 4) rfl rfl Try.func11 (by kernel_rfl) rfl #[] rfl (by (try simp only [List.map_toArray, List.map_cons, List.map_nil]); first | done | rfl | (simp only [List.length_drop, List.length_take]; rfl)) ?_; (with_reducible refine (bailiwicklaw03_examples.calls  false _ A2.out).mono ?_); rintro e w20 ⟨rfl, hb⟩; refine ⟨_, rfl, ?_⟩; have n0_ := Aside0.mk (below_step (by repeat (first | (with_reducible first | exact HB.out | apply below_alloc | apply pw_below_drewN | apply below_drew1) | exact HB.out)) hb); clear HB; have HB := n0_; clear n0_; (try clear hb); (try clear hb2); (try clear hk); (try clear hi)))
    go_ret
    exact ⟨by first | rfl | (simp [errW_none, errW_some] <;> rfl) | (simp [*, errW_none, errW_some] <;> rfl), by repeat (first | (with_reducible first | exact HB.out | apply below_alloc | apply pw_below_drewN | apply below_drew1) | exact HB.out)⟩

/-- THE ONE PURE STATEMENT of bailiwicklaw03_ShaSums: yours. -/
def bailiwicklaw03_ShaSums.Pure : Prop := ∀ (a0 : ByteArray), a0.size ≤ 140737488351232 → ∃ k, bailiwicklaw03_ShaSums.f k a0 = some true
theorem bailiwicklaw03_ShaSums.walk (P : bailiwicklaw03_ShaSums.Pure) (a0 : ByteArray) (w : World) (w0 : a0.size ≤ 140737488351232) :
    Calls Try.prog 3 #[.string a0] w fun e w' => e = .returned (.bool true) ∧ Below w.heap.size w w' := by
  obtain ⟨k, h⟩ := P a0 w0
  refine (bailiwicklaw03_ShaSums.calls k a0 true w h).mono ?_
  rintro e w' ⟨rfl, hd⟩
  exact ⟨rfl, hd⟩

-- PROVED BY HAND: function 16 (bailiwicklaw03_digit)

/-! ### bailiwicklaw03_ShaSizes: function 4 -/
mutual
def bailiwicklaw03_ShaSizes.j0 : Nat → ByteArray → Bool → ByteArray → Bool → Option (Bool)
  | 0, _, _, _, _ => none
  | k + 1, x0, x3, x4, x35 => if x35 = true then (some false) else (bailiwicklaw03_ShaSizes.l0 k x0 x3 x4 0)
def bailiwicklaw03_ShaSizes.l0 : Nat → ByteArray → Bool → ByteArray → Int → Option (Bool)
  | 0, _, _, _, _ => none
  | k + 1, x0, x3, x4, x5 => if x5 < (x0.size : Int) then (if 0 ≤ (wrap64 (2 * x5)) then (if (wrap64 (2 * x5)) < (x4.size : Int) then ((Go.Proofs.Ytakbdknmfaoppaa.P.bailiwicklaw03_digit.f k (bt x4 (wrap64 (2 * x5)))).bind fun t113 => (if 0 ≤ (wrap64 ((wrap64 (2 * x5)) + 1)) then (if (wrap64 ((wrap64 (2 * x5)) + 1)) < (x4.size : Int) then ((Go.Proofs.Ytakbdknmfaoppaa.P.bailiwicklaw03_digit.f k (bt x4 (wrap64 ((wrap64 (2 * x5)) + 1)))).bind fun t114 => (if 0 ≤ x5 then (if (wrap64 ((wrap64 (t113 * 16)) + t114)) = (wrap64 (bt x0 x5)) then (bailiwicklaw03_ShaSizes.l0 k x0 x3 x4 (wrap64 (x5 + 1))) else (some false)) else (none))) else (none)) else (none))) else (none)) else (none)) else (some x3)
end
def bailiwicklaw03_ShaSizes.f (k : Nat) (a0 : ByteArray) : Option (Bool) := (bailiwicklaw03_examples.f).bind fun t108 => (if t108 = true then (if 0 ≤ (mn (a0.size : Int) 1000) then (if (mn (a0.size : Int) 1000) ≤ (a0.size : Int) then ((Go.Proofs.Ytakbdknmfaoppaa.R.Hex.f (a0.extract 0 ((mn (a0.size : Int) 1000) : Int).toNat)).bind fun t109 => (if (t109.size : Int) = (wrap64 (2 * ((a0.extract 0 ((mn (a0.size : Int) 1000) : Int).toNat).size : Int))) then ((Go.Proofs.Ytakbdknmfaoppaa.R.Sum.f (a0.extract 0 ((mn (a0.size : Int) 1000) : Int).toNat)).bind fun t110 => (if (t110.size : Int) = 32 then ((Go.Proofs.Ytakbdknmfaoppaa.R.Sum.f (a0.extract 0 ((mn (a0.size : Int) 1000) : Int).toNat)).bind fun t110 => (if (a0.extract 0 ((mn (a0.size : Int) 1000) : Int).toNat).size + 0 ≤ 9223372036854775807 then ((Go.Proofs.Ytakbdknmfaoppaa.R.Sum.f ((a0.extract 0 ((mn (a0.size : Int) 1000) : Int).toNat) ++ (⟨#[]⟩ : ByteArray))).bind fun t112 => (bailiwicklaw03_ShaSizes.j0 k (a0.extract 0 ((mn (a0.size : Int) 1000) : Int).toNat) t108 t109 (t110.toList != t112.toList))) else (none))) else (bailiwicklaw03_ShaSizes.j0 k (a0.extract 0 ((mn (a0.size : Int) 1000) : Int).toNat) t108 t109 true))) else (bailiwicklaw03_ShaSizes.j0 k (a0.extract 0 ((mn (a0.size : Int) 1000) : Int).toNat) t108 t109 true))) else (none)) else (none)) else (some false))
theorem bailiwicklaw03_ShaSizes.mono_l : ∀ k, (∀ y0 y1 y2 y3, LeO (bailiwicklaw03_ShaSizes.j0 k y0 y1 y2 y3) (bailiwicklaw03_ShaSizes.j0 (k + 1) y0 y1 y2 y3)) ∧ (∀ y0 y1 y2 y3, LeO (bailiwicklaw03_ShaSizes.l0 k y0 y1 y2 y3) (bailiwicklaw03_ShaSizes.l0 (k + 1) y0 y1 y2 y3))
  | 0 => ⟨fun _ _ _ _ r h => by simp [bailiwicklaw03_ShaSizes.j0] at h, fun _ _ _ _ r h => by simp [bailiwicklaw03_ShaSizes.l0] at h⟩
  | k + 1 => by
    obtain ⟨ih0, ih1⟩ := bailiwicklaw03_ShaSizes.mono_l k
    refine ⟨?_, ?_⟩
    · intro y0 y1 y2 y3
      unfold bailiwicklaw03_ShaSizes.j0
      repeat' first
      | (with_reducible exact ih0 _ _ _ _)
      | (with_reducible exact ih1 _ _ _ _)
      | (with_reducible exact Go.Proofs.Ytakbdknmfaoppaa.P.bailiwicklaw03_digit.mono _ _)
      | (with_reducible exact LeO.refl _)
      | (with_reducible exact LeO.none _)
      | (with_reducible refine LeO.ite ?_ ?_)
      | (with_reducible refine LeO.bind ?_ (fun _ => ?_))
      | exact ih0 _ _ _ _
      | exact ih1 _ _ _ _
      | exact Go.Proofs.Ytakbdknmfaoppaa.P.bailiwicklaw03_digit.mono _ _
      | exact LeO.none _
      | refine LeO.ite ?_ ?_
      | refine LeO.bind ?_ (fun _ => ?_)
    · intro y0 y1 y2 y3
      unfold bailiwicklaw03_ShaSizes.l0
      repeat' first
      | (with_reducible exact ih0 _ _ _ _)
      | (with_reducible exact ih1 _ _ _ _)
      | (with_reducible exact Go.Proofs.Ytakbdknmfaoppaa.P.bailiwicklaw03_digit.mono _ _)
      | (with_reducible exact LeO.refl _)
      | (with_reducible exact LeO.none _)
      | (with_reducible refine LeO.ite ?_ ?_)
      | (with_reducible refine LeO.bind ?_ (fun _ => ?_))
      | exact ih0 _ _ _ _
      | exact ih1 _ _ _ _
      | exact Go.Proofs.Ytakbdknmfaoppaa.P.bailiwicklaw03_digit.mono _ _
      | exact LeO.none _
      | refine LeO.ite ?_ ?_
      | refine LeO.bind ?_ (fun _ => ?_)
theorem bailiwicklaw03_ShaSizes.mono : ∀ a0 k, LeO (bailiwicklaw03_ShaSizes.f k a0) (bailiwicklaw03_ShaSizes.f (k + 1) a0) := by
  intro a0 k
  obtain ⟨ih0, ih1⟩ := bailiwicklaw03_ShaSizes.mono_l k
  unfold bailiwicklaw03_ShaSizes.f
  repeat' first
      | (with_reducible exact ih0 _ _ _ _)
      | (with_reducible exact ih1 _ _ _ _)
      | (with_reducible exact Go.Proofs.Ytakbdknmfaoppaa.P.bailiwicklaw03_digit.mono _ _)
      | (with_reducible exact LeO.refl _)
      | (with_reducible exact LeO.none _)
      | (with_reducible refine LeO.ite ?_ ?_)
      | (with_reducible refine LeO.bind ?_ (fun _ => ?_))
      | exact ih0 _ _ _ _
      | exact ih1 _ _ _ _
      | exact Go.Proofs.Ytakbdknmfaoppaa.P.bailiwicklaw03_digit.mono _ _
      | exact LeO.none _
      | refine LeO.ite ?_ ?_
      | refine LeO.bind ?_ (fun _ => ?_)
set_option maxHeartbeats 8000000 in
set_option maxRecDepth 100000 in
theorem bailiwicklaw03_ShaSizes.calls (k : Nat) (a0 : ByteArray) (r : Bool) (w : World) (h : bailiwicklaw03_ShaSizes.f k a0 = some r) :
    Calls Try.prog 4 #[.string a0] w fun e w' => e = .returned (.bool r) ∧ Below w.heap.size w w' := by
  have HB := Aside0.mk (Below.refl w.heap.size w)
  have H : ((bailiwicklaw03_examples.f).bind fun t108 => (if t108 = true then (if 0 ≤ (mn (a0.size : Int) 1000) then (if (mn (a0.size : Int) 1000) ≤ (a0.size : Int) then ((Go.Proofs.Ytakbdknmfaoppaa.R.Hex.f (a0.extract 0 ((mn (a0.size : Int) 1000) : Int).toNat)).bind fun t109 => (if (t109.size : Int) = (wrap64 (2 * ((a0.extract 0 ((mn (a0.size : Int) 1000) : Int).toNat).size : Int))) then ((Go.Proofs.Ytakbdknmfaoppaa.R.Sum.f (a0.extract 0 ((mn (a0.size : Int) 1000) : Int).toNat)).bind fun t110 => (if (t110.size : Int) = 32 then ((Go.Proofs.Ytakbdknmfaoppaa.R.Sum.f (a0.extract 0 ((mn (a0.size : Int) 1000) : Int).toNat)).bind fun t110 => (if (a0.extract 0 ((mn (a0.size : Int) 1000) : Int).toNat).size + 0 ≤ 9223372036854775807 then ((Go.Proofs.Ytakbdknmfaoppaa.R.Sum.f ((a0.extract 0 ((mn (a0.size : Int) 1000) : Int).toNat) ++ (⟨#[]⟩ : ByteArray))).bind fun t112 => (bailiwicklaw03_ShaSizes.j0 k (a0.extract 0 ((mn (a0.size : Int) 1000) : Int).toNat) t108 t109 (t110.toList != t112.toList))) else (none))) else (bailiwicklaw03_ShaSizes.j0 k (a0.extract 0 ((mn (a0.size : Int) 1000) : Int).toNat) t108 t109 true))) else (bailiwicklaw03_ShaSizes.j0 k (a0.extract 0 ((mn (a0.size : Int) 1000) : Int).toNat) t108 t109 true))) else (none)) else (none)) else (some false))) = some r := h
  clear h
  replace H := Option.bind_eq_some_iff.mp H
  obtain ⟨t108, A20, H⟩ := H
  replace H : (if t108 = true then (if 0 ≤ (mn (a0.size : Int) 1000) then (if (mn (a0.size : Int) 1000) ≤ (a0.size : Int) then ((Go.Proofs.Ytakbdknmfaoppaa.R.Hex.f (a0.extract 0 ((mn (a0.size : Int) 1000) : Int).toNat)).bind fun t109 => (if (t109.size : Int) = (wrap64 (2 * ((a0.extract 0 ((mn (a0.size : Int) 1000) : Int).toNat).size : Int))) then ((Go.Proofs.Ytakbdknmfaoppaa.R.Sum.f (a0.extract 0 ((mn (a0.size : Int) 1000) : Int).toNat)).bind fun t110 => (if (t110.size : Int) = 32 then ((Go.Proofs.Ytakbdknmfaoppaa.R.Sum.f (a0.extract 0 ((mn (a0.size : Int) 1000) : Int).toNat)).bind fun t110 => (if (a0.extract 0 ((mn (a0.size : Int) 1000) : Int).toNat).size + 0 ≤ 9223372036854775807 then ((Go.Proofs.Ytakbdknmfaoppaa.R.Sum.f ((a0.extract 0 ((mn (a0.size : Int) 1000) : Int).toNat) ++ (⟨#[]⟩ : ByteArray))).bind fun t112 => (bailiwicklaw03_ShaSizes.j0 k (a0.extract 0 ((mn (a0.size : Int) 1000) : Int).toNat) t108 t109 (t110.toList != t112.toList))) else (none))) else (bailiwicklaw03_ShaSizes.j0 k (a0.extract 0 ((mn (a0.size : Int) 1000) : Int).toNat) t108 t109 true))) else (bailiwicklaw03_ShaSizes.j0 k (a0.extract 0 ((mn (a0.size : Int) 1000) : Int).toNat) t108 t109 true))) else (none)) else (none)) else (some false)) = some r := H
  have A2 := Aside0.mk A20
  clear A20
  by_cases c3 : t108 = true
  · subst c3
    have H1 : (if 0 ≤ (mn (a0.size : Int) 1000) then (if (mn (a0.size : Int) 1000) ≤ (a0.size : Int) then ((Go.Proofs.Ytakbdknmfaoppaa.R.Hex.f (a0.extract 0 ((mn (a0.size : Int) 1000) : Int).toNat)).bind fun t109 => (if (t109.size : Int) = (wrap64 (2 * ((a0.extract 0 ((mn (a0.size : Int) 1000) : Int).toNat).size : Int))) then ((Go.Proofs.Ytakbdknmfaoppaa.R.Sum.f (a0.extract 0 ((mn (a0.size : Int) 1000) : Int).toNat)).bind fun t110 => (if (t110.size : Int) = 32 then ((Go.Proofs.Ytakbdknmfaoppaa.R.Sum.f (a0.extract 0 ((mn (a0.size : Int) 1000) : Int).toNat)).bind fun t110 => (if (a0.extract 0 ((mn (a0.size : Int) 1000) : Int).toNat).size + 0 ≤ 9223372036854775807 then ((Go.Proofs.Ytakbdknmfaoppaa.R.Sum.f ((a0.extract 0 ((mn (a0.size : Int) 1000) : Int).toNat) ++ (⟨#[]⟩ : ByteArray))).bind fun t112 => (bailiwicklaw03_ShaSizes.j0 k (a0.extract 0 ((mn (a0.size : Int) 1000) : Int).toNat) true t109 (t110.toList != t112.toList))) else (none))) else (bailiwicklaw03_ShaSizes.j0 k (a0.extract 0 ((mn (a0.size : Int) 1000) : Int).toNat) true t109 true))) else (bailiwicklaw03_ShaSizes.j0 k (a0.extract 0 ((mn (a0.size : Int) 1000) : Int).toNat) true t109 true))) else (none)) else (none)) = some r := by rw [if_pos rfl] at H; exact H
    clear H
    have H := H1
    clear H1
    obtain ⟨ji4, hji4⟩ : ∃ j_ : Int, (mn (a0.size : Int) 1000) = j_ := ⟨_, rfl⟩
    replace H : (if 0 ≤ (ji4) then (if (ji4) ≤ (a0.size : Int) then ((Go.Proofs.Ytakbdknmfaoppaa.R.Hex.f (a0.extract 0 ((ji4) : Int).toNat)).bind fun t109 => (if (t109.size : Int) = (wrap64 (2 * ((a0.extract 0 ((ji4) : Int).toNat).size : Int))) then ((Go.Proofs.Ytakbdknmfaoppaa.R.Sum.f (a0.extract 0 ((ji4) : Int).toNat)).bind fun t110 => (if (t110.size : Int) = 32 then ((Go.Proofs.Ytakbdknmfaoppaa.R.Sum.f (a0.extract 0 ((ji4) : Int).toNat)).bind fun t110 => (if (a0.extract 0 ((ji4) : Int).toNat).size + 0 ≤ 9223372036854775807 then ((Go.Proofs.Ytakbdknmfaoppaa.R.Sum.f ((a0.extract 0 ((ji4) : Int).toNat) ++ (⟨#[]⟩ : ByteArray))).bind fun t112 => (bailiwicklaw03_ShaSizes.j0 k (a0.extract 0 ((ji4) : Int).toNat) true t109 (t110.toList != t112.toList))) else (none))) else (bailiwicklaw03_ShaSizes.j0 k (a0.extract 0 ((ji4) : Int).toNat) true t109 true))) else (bailiwicklaw03_ShaSizes.j0 k (a0.extract 0 ((ji4) : Int).toNat) true t109 true))) else (none)) else (none)) = some r := by first | (rw [hji4] at H; exact H) | (simp only [hji4] at H ⊢; exact H)
    (try rw [hji4] at A2)
    (try (have hji4h : ji4 ≤ 1000 := by (rw [← hji4]; unfold mn; (repeat' split) <;> omega)))
    (try (have hji4g : ji4 ≤ 64 := by omega))
    (try (have hji4l : 0 ≤ ji4 := by (rw [← hji4]; unfold mn; (repeat' split) <;> omega)))
    (try (have hji4m : 0 ≤ ji4 := by omega))
    have hji4_ : (if 1000 < (a0.size : Int) then 1000 else (a0.size : Int)) = ji4 := hji4
    obtain ⟨bx4_a0, hbx4_a0⟩ : ∃ b_ : ByteArray, (a0.extract 0 (ji4 : Int).toNat) = b_ := ⟨_, rfl⟩
    have hbx4_a0z : bx4_a0.size ≤ 1000 := by rw [← hbx4_a0, ByteArray.size_extract]; omega
    simp only [hbx4_a0] at H
    by_cases c5 : 0 ≤ (ji4)
    · rw [if_pos c5] at H
      have c5b0 := eq_true c5
      have c5b1 : decide (0 ≤ (ji4)) = true := decide_eq_true c5
      clear c5
      by_cases c6 : (ji4) ≤ (a0.size : Int)
      · rw [if_pos c6] at H
        have c6b0 := eq_true c6
        have c6b1 : decide ((ji4) ≤ (a0.size : Int)) = true := decide_eq_true c6
        clear c6
        replace H := Option.bind_eq_some_iff.mp H
        obtain ⟨t109, A70, H⟩ := H
        replace H : (if (t109.size : Int) = (wrap64 (2 * (bx4_a0.size : Int))) then ((Go.Proofs.Ytakbdknmfaoppaa.R.Sum.f bx4_a0).bind fun t110 => (if (t110.size : Int) = 32 then ((Go.Proofs.Ytakbdknmfaoppaa.R.Sum.f bx4_a0).bind fun t110 => (if bx4_a0.size + 0 ≤ 9223372036854775807 then ((Go.Proofs.Ytakbdknmfaoppaa.R.Sum.f (bx4_a0 ++ (⟨#[]⟩ : ByteArray))).bind fun t112 => (bailiwicklaw03_ShaSizes.j0 k bx4_a0 true t109 (t110.toList != t112.toList))) else (none))) else (bailiwicklaw03_ShaSizes.j0 k bx4_a0 true t109 true))) else (bailiwicklaw03_ShaSizes.j0 k bx4_a0 true t109 true)) = some r := H
        have A7 := Aside0.mk A70
        clear A70
        have HC8 := Aside0.mk H
        clear H
        go_enter Try.func4, Try.ntmps4
        (try dsimp only [List.append])
        go_upto_region 6 with (first | (go_at_call 11; (with_reducible refine (bailiwicklaw03_examples.calls  true _ A2.out).mono ?_); rintro e w9 ⟨rfl, hb⟩; have n0_ := Aside0.mk (below_step (by repeat (first | (with_reducible first | exact HB.out | apply below_alloc | apply pw_below_drewN | apply below_drew1) | exact HB.out)) hb); clear HB; have HB := n0_; clear n0_; (try clear hb); (try clear hb2); (try clear hk); (try clear hi)) | (go_at_call 14; (with_reducible refine (Go.Proofs.Ytakbdknmfaoppaa.R.Hex.calls bx4_a0 t109 _ A7.out).mono ?_); rintro e w10 ⟨rfl, hb⟩; have n0_ := Aside0.mk (below_step (by repeat (first | (with_reducible first | exact HB.out | apply below_alloc | apply pw_below_drewN | apply below_drew1) | exact HB.out)) hb); clear HB; have HB := n0_; clear n0_; (try clear hb); (try clear hb2); (try clear hk); (try clear hi)))
        repeat (go_quiet (first | (go_at_call 11; (with_reducible refine (bailiwicklaw03_examples.calls  true _ A2.out).mono ?_); rintro e w9 ⟨rfl, hb⟩; have n0_ := Aside0.mk (below_step (by repeat (first | (with_reducible first | exact HB.out | apply below_alloc | apply pw_below_drewN | apply below_drew1) | exact HB.out)) hb); clear HB; have HB := n0_; clear n0_; (try clear hb); (try clear hb2); (try clear hk); (try clear hi)) | (go_at_call 14; (with_reducible refine (Go.Proofs.Ytakbdknmfaoppaa.R.Hex.calls bx4_a0 t109 _ A7.out).mono ?_); rintro e w10 ⟨rfl, hb⟩; have n0_ := Aside0.mk (below_step (by repeat (first | (with_reducible first | exact HB.out | apply below_alloc | apply pw_below_drewN | apply below_drew1) | exact HB.out)) hb); clear HB; have HB := n0_; clear n0_; (try clear hb); (try clear hb2); (try clear hk); (try clear hi))); go_upto_region 6 with (first | (go_at_call 11; (with_reducible refine (bailiwicklaw03_examples.calls  true _ A2.out).mono ?_); rintro e w9 ⟨rfl, hb⟩; have n0_ := Aside0.mk (below_step (by repeat (first | (with_reducible first | exact HB.out | apply below_alloc | apply pw_below_drewN | apply below_drew1) | exact HB.out)) hb); clear HB; have HB := n0_; clear n0_; (try clear hb); (try clear hb2); (try clear hk); (try clear hi)) | (go_at_call 14; (with_reducible refine (Go.Proofs.Ytakbdknmfaoppaa.R.Hex.calls bx4_a0 t109 _ A7.out).mono ?_); rintro e w10 ⟨rfl, hb⟩; have n0_ := Aside0.mk (below_step (by repeat (first | (with_reducible first | exact HB.out | apply below_alloc | apply pw_below_drewN | apply below_drew1) | exact HB.out)) hb); clear HB; have HB := n0_; clear n0_; (try clear hb); (try clear hb2); (try clear hk); (try clear hi))))
        (try simp only [Act.put, List.setIfInBounds_toArray, List.set_cons_zero, List.set_cons_succ])
        go_cut [35] (fun v35 wc => ∃ (kq : Nat) (x35_7 : Bool), v35 = .bool x35_7 ∧ Aside0 (bailiwicklaw03_ShaSizes.j0 kq bx4_a0 true t109 x35_7 = some r) ∧ Aside0 (kq ≤ k) ∧ Aside0 (Below w.heap.size w wc))
        case first =>
          have H := HC8.out
          clear HC8
          by_cases c11 : (t109.size : Int) = (wrap64 (2 * (bx4_a0.size : Int)))
          · rw [if_pos c11] at H
            have c11b0 : ((t109.size : Int) == (wrap64 (2 * (bx4_a0.size : Int)))) = true := beq_iff_eq.mpr c11
            have c11b0q : ((t109.size : Int) == 2 * (bx4_a0.size : Int)) = true := by have h_ := c11b0; rw [show wrap64 (2 * (bx4_a0.size : Int)) = 2 * (bx4_a0.size : Int) by unfold wrap64; omega] at h_; exact h_
            have c11b1 : ((t109.size : Int) != (wrap64 (2 * (bx4_a0.size : Int)))) = false := bne_eq_false_iff_eq.mpr c11
            have c11b1q : ((t109.size : Int) != 2 * (bx4_a0.size : Int)) = false := by have h_ := c11b1; rw [show wrap64 (2 * (bx4_a0.size : Int)) = 2 * (bx4_a0.size : Int) by unfold wrap64; omega] at h_; exact h_
            clear c11
            (first | rw [c11b0] | (simp only [i64_w, i32_w]; rw [c11b0]) | skip)
            replace H := Option.bind_eq_some_iff.mp H
            obtain ⟨t110, A120, H⟩ := H
            replace H : (if (t110.size : Int) = 32 then ((Go.Proofs.Ytakbdknmfaoppaa.R.Sum.f bx4_a0).bind fun t110 => (if bx4_a0.size + 0 ≤ 9223372036854775807 then ((Go.Proofs.Ytakbdknmfaoppaa.R.Sum.f (bx4_a0 ++ (⟨#[]⟩ : ByteArray))).bind fun t112 => (bailiwicklaw03_ShaSizes.j0 k bx4_a0 true t109 (t110.toList != t112.toList))) else (none))) else (bailiwicklaw03_ShaSizes.j0 k bx4_a0 true t109 true)) = some r := H
            have A12 := Aside0.mk A120
            clear A120
            by_cases c13 : (t110.size : Int) = 32
            · rw [if_pos c13] at H
              have c13b0 : ((t110.size : Int) == 32) = true := beq_iff_eq.mpr c13
              have c13b1 : ((t110.size : Int) != 32) = false := bne_eq_false_iff_eq.mpr c13
              clear c13
              replace H := Option.bind_eq_some_iff.mp H
              obtain ⟨t110, A140, H⟩ := H
              replace H : (if bx4_a0.size + 0 ≤ 9223372036854775807 then ((Go.Proofs.Ytakbdknmfaoppaa.R.Sum.f (bx4_a0 ++ (⟨#[]⟩ : ByteArray))).bind fun t112 => (bailiwicklaw03_ShaSizes.j0 k bx4_a0 true t109 (t110.toList != t112.toList))) else (none)) = some r := H
              have A14 := Aside0.mk A140
              clear A140
              obtain rfl := Option.some.inj (A14.out.symm.trans A12.out)
              by_cases c15 : bx4_a0.size + 0 ≤ 9223372036854775807
              · rw [if_pos c15] at H
                have c15b0 := eq_true c15
                have c15b1 : decide (bx4_a0.size + 0 ≤ 9223372036854775807) = true := decide_eq_true c15
                try have c15b2 : (9223372036854775807 < bx4_a0.size + 0) = False := eq_false (Nat.not_lt.2 c15)
                replace H := Option.bind_eq_some_iff.mp H
                obtain ⟨t112, A160, H⟩ := H
                replace H : (bailiwicklaw03_ShaSizes.j0 k bx4_a0 true t109 (t110.toList != t112.toList)) = some r := H
                have A16 := Aside0.mk A160
                clear A160
                have H' := Aside0.mk H
                clear H
                go_wp2_with (first | (go_at_call 12; (with_reducible refine (Go.Proofs.Ytakbdknmfaoppaa.R.Sum.calls bx4_a0 t110 _ A12.out).mono ?_); rintro e w17 ⟨rfl, hb⟩; have n0_ := Aside0.mk (below_step (by repeat (first | (with_reducible first | exact HB.out | apply below_alloc | apply pw_below_drewN | apply below_drew1) | exact HB.out)) hb); clear HB; have HB := n0_; clear n0_; (try clear hb); (try clear hb2); (try clear hk); (try clear hi)) | (go_at_call 12; (with_reducible refine (Go.Proofs.Ytakbdknmfaoppaa.R.Sum.calls bx4_a0 t110 _ A14.out).mono ?_); rintro e w18 ⟨rfl, hb⟩; have n0_ := Aside0.mk (below_step (by repeat (first | (with_reducible first | exact HB.out | apply below_alloc | apply pw_below_drewN | apply below_drew1) | exact HB.out)) hb); clear HB; have HB := n0_; clear n0_; (try clear hb); (try clear hb2); (try clear hk); (try clear hi)) | (go_at_call 12; (with_reducible refine (Go.Proofs.Ytakbdknmfaoppaa.R.Sum.calls (bx4_a0 ++ (⟨#[]⟩ : ByteArray)) t112 _ A16.out).mono ?_); rintro e w19 ⟨rfl, hb⟩; have n0_ := Aside0.mk (below_step (by repeat (first | (with_reducible first | exact HB.out | apply below_alloc | apply pw_below_drewN | apply below_drew1) | exact HB.out)) hb); clear HB; have HB := n0_; clear n0_; (try clear hb); (try clear hb2); (try clear hk); (try clear hi)))
                repeat (go_quiet (first | (go_at_call 12; (with_reducible refine (Go.Proofs.Ytakbdknmfaoppaa.R.Sum.calls bx4_a0 t110 _ A12.out).mono ?_); rintro e w17 ⟨rfl, hb⟩; have n0_ := Aside0.mk (below_step (by repeat (first | (with_reducible first | exact HB.out | apply below_alloc | apply pw_below_drewN | apply below_drew1) | exact HB.out)) hb); clear HB; have HB := n0_; clear n0_; (try clear hb); (try clear hb2); (try clear hk); (try clear hi)) | (go_at_call 12; (with_reducible refine (Go.Proofs.Ytakbdknmfaoppaa.R.Sum.calls bx4_a0 t110 _ A14.out).mono ?_); rintro e w18 ⟨rfl, hb⟩; have n0_ := Aside0.mk (below_step (by repeat (first | (with_reducible first | exact HB.out | apply below_alloc | apply pw_below_drewN | apply below_drew1) | exact HB.out)) hb); clear HB; have HB := n0_; clear n0_; (try clear hb); (try clear hb2); (try clear hk); (try clear hi)) | (go_at_call 12; (with_reducible refine (Go.Proofs.Ytakbdknmfaoppaa.R.Sum.calls (bx4_a0 ++ (⟨#[]⟩ : ByteArray)) t112 _ A16.out).mono ?_); rintro e w19 ⟨rfl, hb⟩; have n0_ := Aside0.mk (below_step (by repeat (first | (with_reducible first | exact HB.out | apply below_alloc | apply pw_below_drewN | apply below_drew1) | exact HB.out)) hb); clear HB; have HB := n0_; clear n0_; (try clear hb); (try clear hb2); (try clear hk); (try clear hi))); try go_wp2_with (first | (go_at_call 12; (with_reducible refine (Go.Proofs.Ytakbdknmfaoppaa.R.Sum.calls bx4_a0 t110 _ A12.out).mono ?_); rintro e w17 ⟨rfl, hb⟩; have n0_ := Aside0.mk (below_step (by repeat (first | (with_reducible first | exact HB.out | apply below_alloc | apply pw_below_drewN | apply below_drew1) | exact HB.out)) hb); clear HB; have HB := n0_; clear n0_; (try clear hb); (try clear hb2); (try clear hk); (try clear hi)) | (go_at_call 12; (with_reducible refine (Go.Proofs.Ytakbdknmfaoppaa.R.Sum.calls bx4_a0 t110 _ A14.out).mono ?_); rintro e w18 ⟨rfl, hb⟩; have n0_ := Aside0.mk (below_step (by repeat (first | (with_reducible first | exact HB.out | apply below_alloc | apply pw_below_drewN | apply below_drew1) | exact HB.out)) hb); clear HB; have HB := n0_; clear n0_; (try clear hb); (try clear hb2); (try clear hk); (try clear hi)) | (go_at_call 12; (with_reducible refine (Go.Proofs.Ytakbdknmfaoppaa.R.Sum.calls (bx4_a0 ++ (⟨#[]⟩ : ByteArray)) t112 _ A16.out).mono ?_); rintro e w19 ⟨rfl, hb⟩; have n0_ := Aside0.mk (below_step (by repeat (first | (with_reducible first | exact HB.out | apply below_alloc | apply pw_below_drewN | apply below_drew1) | exact HB.out)) hb); clear HB; have HB := n0_; clear n0_; (try clear hb); (try clear hb2); (try clear hk); (try clear hi))))
                go_meet
                case rel => exact ⟨_, ((t110.toList != t112.toList)), (by first | rfl | (simp; done) | (simp [*]; done)), H', ⟨by first | omega | exact Nat.le_refl _⟩, ⟨by repeat (first | (with_reducible first | exact HB.out | apply below_alloc | apply pw_below_drewN | apply below_drew1) | exact HB.out)⟩⟩
              · rw [if_neg c15] at H
                exact absurd H (by simp)
            · rw [if_neg c13] at H
              have c13b0 : ((t110.size : Int) == 32) = false := beq_eq_false_iff_ne.mpr c13
              have c13b1 : ((t110.size : Int) != 32) = true := bne_iff_ne.mpr c13
              have H' := Aside0.mk H
              clear H
              go_wp2_with (first | (go_at_call 12; (with_reducible refine (Go.Proofs.Ytakbdknmfaoppaa.R.Sum.calls bx4_a0 t110 _ A12.out).mono ?_); rintro e w20 ⟨rfl, hb⟩; have n0_ := Aside0.mk (below_step (by repeat (first | (with_reducible first | exact HB.out | apply below_alloc | apply pw_below_drewN | apply below_drew1) | exact HB.out)) hb); clear HB; have HB := n0_; clear n0_; (try clear hb); (try clear hb2); (try clear hk); (try clear hi)))
              repeat (go_quiet (first | (go_at_call 12; (with_reducible refine (Go.Proofs.Ytakbdknmfaoppaa.R.Sum.calls bx4_a0 t110 _ A12.out).mono ?_); rintro e w20 ⟨rfl, hb⟩; have n0_ := Aside0.mk (below_step (by repeat (first | (with_reducible first | exact HB.out | apply below_alloc | apply pw_below_drewN | apply below_drew1) | exact HB.out)) hb); clear HB; have HB := n0_; clear n0_; (try clear hb); (try clear hb2); (try clear hk); (try clear hi))); try go_wp2_with (first | (go_at_call 12; (with_reducible refine (Go.Proofs.Ytakbdknmfaoppaa.R.Sum.calls bx4_a0 t110 _ A12.out).mono ?_); rintro e w20 ⟨rfl, hb⟩; have n0_ := Aside0.mk (below_step (by repeat (first | (with_reducible first | exact HB.out | apply below_alloc | apply pw_below_drewN | apply below_drew1) | exact HB.out)) hb); clear HB; have HB := n0_; clear n0_; (try clear hb); (try clear hb2); (try clear hk); (try clear hi))))
              go_meet
              case rel => exact ⟨_, (true), (by first | rfl | (simp; done) | (simp [*]; done)), H', ⟨by first | omega | exact Nat.le_refl _⟩, ⟨by repeat (first | (with_reducible first | exact HB.out | apply below_alloc | apply pw_below_drewN | apply below_drew1) | exact HB.out)⟩⟩
          · rw [if_neg c11] at H
            have c11b0 : ((t109.size : Int) == (wrap64 (2 * (bx4_a0.size : Int)))) = false := beq_eq_false_iff_ne.mpr c11
            have c11b0q : ((t109.size : Int) == 2 * (bx4_a0.size : Int)) = false := by have h_ := c11b0; rw [show wrap64 (2 * (bx4_a0.size : Int)) = 2 * (bx4_a0.size : Int) by unfold wrap64; omega] at h_; exact h_
            have c11b1 : ((t109.size : Int) != (wrap64 (2 * (bx4_a0.size : Int)))) = true := bne_iff_ne.mpr c11
            have c11b1q : ((t109.size : Int) != 2 * (bx4_a0.size : Int)) = true := by have h_ := c11b1; rw [show wrap64 (2 * (bx4_a0.size : Int)) = 2 * (bx4_a0.size : Int) by unfold wrap64; omega] at h_; exact h_
            (first | rw [c11b0] | (simp only [i64_w, i32_w]; rw [c11b0]) | skip)
            have H' := Aside0.mk H
            clear H
            go_wp2
            repeat (go_quiet (fail); try go_wp2)
            go_meet
            case rel => exact ⟨_, (true), (by first | rfl | (simp; done) | (simp [*]; done)), H', ⟨by first | omega | exact Nat.le_refl _⟩, ⟨by repeat (first | (with_reducible first | exact HB.out | apply below_alloc | apply pw_below_drewN | apply below_drew1) | exact HB.out)⟩⟩
        case rest =>
          clear HC8
          try clear c1
          try clear p2
          try clear c3
          try clear c4
          try clear c5
          try clear c5b0
          try clear c5b1
          try clear c6
          try clear c6b0
          try clear c6b1
          try clear p6
          try clear c11
          try clear c11b0
          try clear c11b1
          try clear c13
          try clear c13b0
          try clear c13b1
          try clear c15
          try clear c15b0
          try clear c15b1
          try clear c15b2
          obtain ⟨kq, x35_7, rfl, HA, HJ7, HB⟩ := hcut
          cases kq with
          | zero => exact absurd HA.out (by simp [bailiwicklaw03_ShaSizes.j0])
          | succ kj7 =>
            have H := HA.out
            clear HA
            simp only [bailiwicklaw03_ShaSizes.j0] at H
            by_cases c21 : x35_7 = true
            · subst c21
              have H1 : (some false) = some r := by rw [if_pos rfl] at H; exact H
              clear H
              have H := H1
              clear H1
              obtain rfl := Option.some.inj H
              go_wp2
              repeat (go_quiet (fail); try go_wp2)
              go_ret
              exact ⟨by first | rfl | (simp [errW_none, errW_some] <;> rfl) | (simp only [← hji4]; first | rfl | (simp [errW_none, errW_some] <;> rfl)) | (simp [*, errW_none, errW_some] <;> rfl), by repeat (first | (with_reducible first | exact HB.out | apply below_alloc | apply pw_below_drewN | apply below_drew1) | exact HB.out)⟩
            · replace c21 := Bool.eq_false_iff.mpr c21
              subst c21
              have H1 : (bailiwicklaw03_ShaSizes.l0 kj7 bx4_a0 true t109 0) = some r := by rw [if_neg (show ¬ (false = true) by decide)] at H; exact H
              clear H
              have H := H1
              clear H1
              have H' := Aside0.mk H
              clear H
              go_wp2
              repeat (go_quiet (fail); try go_wp2)
              go_loopg [5] kj7 (fun kq v5 w' => ∃ (x5_2 : Int), v5 = .int .i64 x5_2 ∧ Aside0 (bailiwicklaw03_ShaSizes.l0 kq bx4_a0 true t109 x5_2 = some r) ∧ Aside0 (kq ≤ kj7) ∧ Aside0 (Below w.heap.size w w'))
              case atStart => exact ⟨(0), (by first | rfl | (simp; done) | (simp [*]; done)), H', ⟨Nat.le_refl _⟩, ⟨by repeat (first | (with_reducible first | exact HB.out | apply below_alloc | apply pw_below_drewN | apply below_drew1) | exact HB.out)⟩⟩
              case round =>
                clear H'
                try clear c1
                try clear c2
                try clear p2
                try clear c3
                try clear c4
                try clear c5
                try clear c5b0
                try clear c5b1
                try clear c6
                try clear c6b0
                try clear c6b1
                try clear p6
                try clear c11
                try clear c11b0
                try clear c11b1
                try clear c13
                try clear c13b0
                try clear c13b1
                try clear c15
                try clear c15b0
                try clear c15b1
                try clear c15b2
                try clear c21
                try clear p2
                try clear p6
                obtain ⟨x5_2, rfl, HA, HK2, HB⟩ := hrel
                cases gk with
                | zero => exact absurd HA.out (by simp [bailiwicklaw03_ShaSizes.l0])
                | succ k2 =>
                  have H := HA.out
                  clear HA
                  simp only [bailiwicklaw03_ShaSizes.l0] at H
                  by_cases c22 : x5_2 < (bx4_a0.size : Int)
                  · rw [if_pos c22] at H
                    have c22b0 : decide (x5_2 < (bx4_a0.size : Int)) = true := decide_eq_true c22
                    clear c22
                    obtain ⟨ji23, hji23⟩ : ∃ j_ : Int, (wrap64 (2 * x5_2)) = j_ := ⟨_, rfl⟩
                    replace H : (if 0 ≤ (ji23) then (if (ji23) < (t109.size : Int) then ((Go.Proofs.Ytakbdknmfaoppaa.P.bailiwicklaw03_digit.f k2 (bt t109 (ji23))).bind fun t113 => (if 0 ≤ (wrap64 ((ji23) + 1)) then (if (wrap64 ((ji23) + 1)) < (t109.size : Int) then ((Go.Proofs.Ytakbdknmfaoppaa.P.bailiwicklaw03_digit.f k2 (bt t109 (wrap64 ((ji23) + 1)))).bind fun t114 => (if 0 ≤ x5_2 then (if (wrap64 ((wrap64 (t113 * 16)) + t114)) = (wrap64 (bt bx4_a0 x5_2)) then (bailiwicklaw03_ShaSizes.l0 k2 bx4_a0 true t109 (wrap64 (x5_2 + 1))) else (some false)) else (none))) else (none)) else (none))) else (none)) else (none)) = some r := by first | (rw [hji23] at H; exact H) | (simp only [hji23] at H ⊢; exact H)
                    have hji23w : (IntKind.i64.wrap (2 * x5_2)) = ji23 := (i64_w _).trans hji23
                    by_cases c24 : 0 ≤ (ji23)
                    · rw [if_pos c24] at H
                      have c24b0 : decide (0 ≤ (ji23)) = true := decide_eq_true c24
                      clear c24
                      by_cases c25 : (ji23) < (t109.size : Int)
                      · rw [if_pos c25] at H
                        have c25b0 : decide ((ji23) < (t109.size : Int)) = true := decide_eq_true c25
                        clear c25
                        replace H := Option.bind_eq_some_iff.mp H
                        obtain ⟨t113, A270, H⟩ := H
                        replace H : (if 0 ≤ (wrap64 ((ji23) + 1)) then (if (wrap64 ((ji23) + 1)) < (t109.size : Int) then ((Go.Proofs.Ytakbdknmfaoppaa.P.bailiwicklaw03_digit.f k2 (bt t109 (wrap64 ((ji23) + 1)))).bind fun t114 => (if 0 ≤ x5_2 then (if (wrap64 ((wrap64 (t113 * 16)) + t114)) = (wrap64 (bt bx4_a0 x5_2)) then (bailiwicklaw03_ShaSizes.l0 k2 bx4_a0 true t109 (wrap64 (x5_2 + 1))) else (some false)) else (none))) else (none)) else (none)) = some r := H
                        have A27 := Aside0.mk A270
                        clear A270
                        obtain ⟨ji28, hji28⟩ : ∃ j_ : Int, (wrap64 ((ji23) + 1)) = j_ := ⟨_, rfl⟩
                        replace H : (if 0 ≤ (ji28) then (if (ji28) < (t109.size : Int) then ((Go.Proofs.Ytakbdknmfaoppaa.P.bailiwicklaw03_digit.f k2 (bt t109 (ji28))).bind fun t114 => (if 0 ≤ x5_2 then (if (wrap64 ((wrap64 (t113 * 16)) + t114)) = (wrap64 (bt bx4_a0 x5_2)) then (bailiwicklaw03_ShaSizes.l0 k2 bx4_a0 true t109 (wrap64 (x5_2 + 1))) else (some false)) else (none))) else (none)) else (none)) = some r := by first | (rw [hji28] at H; exact H) | (simp only [hji28] at H ⊢; exact H)
                        (try rw [hji28] at A27)
                        have hji28w : (IntKind.i64.wrap ((ji23) + 1)) = ji28 := (i64_w _).trans hji28
                        by_cases c29 : 0 ≤ (ji28)
                        · rw [if_pos c29] at H
                          have c29b0 : decide (0 ≤ (ji28)) = true := decide_eq_true c29
                          clear c29
                          by_cases c30 : (ji28) < (t109.size : Int)
                          · rw [if_pos c30] at H
                            have c30b0 : decide ((ji28) < (t109.size : Int)) = true := decide_eq_true c30
                            clear c30
                            replace H := Option.bind_eq_some_iff.mp H
                            obtain ⟨t114, A320, H⟩ := H
                            replace H : (if 0 ≤ x5_2 then (if (wrap64 ((wrap64 (t113 * 16)) + t114)) = (wrap64 (bt bx4_a0 x5_2)) then (bailiwicklaw03_ShaSizes.l0 k2 bx4_a0 true t109 (wrap64 (x5_2 + 1))) else (some false)) else (none)) = some r := H
                            have A32 := Aside0.mk A320
                            clear A320
                            by_cases c33 : 0 ≤ x5_2
                            · rw [if_pos c33] at H
                              have c33b0 : decide (0 ≤ x5_2) = true := decide_eq_true c33
                              clear c33
                              by_cases c35 : (wrap64 ((wrap64 (t113 * 16)) + t114)) = (wrap64 (bt bx4_a0 x5_2))
                              · rw [if_pos c35] at H
                                have c35b0 : ((wrap64 ((wrap64 (t113 * 16)) + t114)) == (wrap64 (bt bx4_a0 x5_2))) = true := beq_iff_eq.mpr c35
                                have c35b0q : (IntKind.i64.wrap (IntKind.i64.wrap (t113 * 16) + t114) == IntKind.i64.wrap (bt bx4_a0 x5_2)) = true := by rw [i64_w, i64_w, i64_w]; exact c35b0
                                have c35b1 : ((wrap64 ((wrap64 (t113 * 16)) + t114)) != (wrap64 (bt bx4_a0 x5_2))) = false := bne_eq_false_iff_eq.mpr c35
                                have c35b1q : (IntKind.i64.wrap (IntKind.i64.wrap (t113 * 16) + t114) != IntKind.i64.wrap (bt bx4_a0 x5_2)) = false := by rw [i64_w, i64_w, i64_w]; exact c35b1
                                clear c35
                                have H' := Aside0.mk H
                                clear H
                                have p26 : 0 ≤ ((ji23) : Int) := of_decide_eq_true (by first | (with_reducible assumption) | assumption)
                                have q26 : (ji23) < (t109.size : Int) := of_decide_eq_true (by first | (with_reducible assumption) | assumption)
                                have hx26 := bt_at t109 (ji23)
                                replace p26 := eq_true p26
                                replace q26 := eq_true q26
                                go_wp2_with (first | (go_at_call 16; (with_reducible refine (Go.Proofs.Ytakbdknmfaoppaa.P.bailiwicklaw03_digit.calls k2 (bt t109 (ji23)) t113 _ A27.out).mono ?_); rintro e w' ⟨rfl, ⟨nd, rfl⟩⟩; (try first | exact ⟨rfl, _, World.drewN_drewN _ _ _⟩ | exact ⟨rfl, _, Eq.trans (World.drewN_drewN _ _ _) (congrArg (World.drewN _) (Nat.add_assoc _ _ _))⟩); have p31 : 0 ≤ ((ji28) : Int) := of_decide_eq_true (by first | (with_reducible assumption) | assumption); have q31 : (ji28) < (t109.size : Int) := of_decide_eq_true (by first | (with_reducible assumption) | assumption); have hx31 := bt_at t109 (ji28); replace p31 := eq_true p31; replace q31 := eq_true q31) | (go_at_call 16; (with_reducible refine (Go.Proofs.Ytakbdknmfaoppaa.P.bailiwicklaw03_digit.calls k2 (bt t109 (ji28)) t114 _ A32.out).mono ?_); rintro e w' ⟨rfl, ⟨nd, rfl⟩⟩; (try first | exact ⟨rfl, _, World.drewN_drewN _ _ _⟩ | exact ⟨rfl, _, Eq.trans (World.drewN_drewN _ _ _) (congrArg (World.drewN _) (Nat.add_assoc _ _ _))⟩); have p34 : 0 ≤ (x5_2 : Int) := of_decide_eq_true (by first | (with_reducible assumption) | assumption); have q34 : x5_2 < (bx4_a0.size : Int) := of_decide_eq_true (by first | (with_reducible assumption) | assumption); have hx34 := bt_at bx4_a0 x5_2; replace p34 := eq_true p34; replace q34 := eq_true q34))
                                repeat (go_quiet (first | (go_at_call 16; (with_reducible refine (Go.Proofs.Ytakbdknmfaoppaa.P.bailiwicklaw03_digit.calls k2 (bt t109 (ji23)) t113 _ A27.out).mono ?_); rintro e w' ⟨rfl, ⟨nd, rfl⟩⟩; (try first | exact ⟨rfl, _, World.drewN_drewN _ _ _⟩ | exact ⟨rfl, _, Eq.trans (World.drewN_drewN _ _ _) (congrArg (World.drewN _) (Nat.add_assoc _ _ _))⟩); have p31 : 0 ≤ ((ji28) : Int) := of_decide_eq_true (by first | (with_reducible assumption) | assumption); have q31 : (ji28) < (t109.size : Int) := of_decide_eq_true (by first | (with_reducible assumption) | assumption); have hx31 := bt_at t109 (ji28); replace p31 := eq_true p31; replace q31 := eq_true q31) | (go_at_call 16; (with_reducible refine (Go.Proofs.Ytakbdknmfaoppaa.P.bailiwicklaw03_digit.calls k2 (bt t109 (ji28)) t114 _ A32.out).mono ?_); rintro e w' ⟨rfl, ⟨nd, rfl⟩⟩; (try first | exact ⟨rfl, _, World.drewN_drewN _ _ _⟩ | exact ⟨rfl, _, Eq.trans (World.drewN_drewN _ _ _) (congrArg (World.drewN _) (Nat.add_assoc _ _ _))⟩); have p34 : 0 ≤ (x5_2 : Int) := of_decide_eq_true (by first | (with_reducible assumption) | assumption); have q34 : x5_2 < (bx4_a0.size : Int) := of_decide_eq_true (by first | (with_reducible assumption) | assumption); have hx34 := bt_at bx4_a0 x5_2; replace p34 := eq_true p34; replace q34 := eq_true q34)); try go_wp2_with (first | (go_at_call 16; (with_reducible refine (Go.Proofs.Ytakbdknmfaoppaa.P.bailiwicklaw03_digit.calls k2 (bt t109 (ji23)) t113 _ A27.out).mono ?_); rintro e w' ⟨rfl, ⟨nd, rfl⟩⟩; (try first | exact ⟨rfl, _, World.drewN_drewN _ _ _⟩ | exact ⟨rfl, _, Eq.trans (World.drewN_drewN _ _ _) (congrArg (World.drewN _) (Nat.add_assoc _ _ _))⟩); have p31 : 0 ≤ ((ji28) : Int) := of_decide_eq_true (by first | (with_reducible assumption) | assumption); have q31 : (ji28) < (t109.size : Int) := of_decide_eq_true (by first | (with_reducible assumption) | assumption); have hx31 := bt_at t109 (ji28); replace p31 := eq_true p31; replace q31 := eq_true q31) | (go_at_call 16; (with_reducible refine (Go.Proofs.Ytakbdknmfaoppaa.P.bailiwicklaw03_digit.calls k2 (bt t109 (ji28)) t114 _ A32.out).mono ?_); rintro e w' ⟨rfl, ⟨nd, rfl⟩⟩; (try first | exact ⟨rfl, _, World.drewN_drewN _ _ _⟩ | exact ⟨rfl, _, Eq.trans (World.drewN_drewN _ _ _) (congrArg (World.drewN _) (Nat.add_assoc _ _ _))⟩); have p34 : 0 ≤ (x5_2 : Int) := of_decide_eq_true (by first | (with_reducible assumption) | assumption); have q34 : x5_2 < (bx4_a0.size : Int) := of_decide_eq_true (by first | (with_reducible assumption) | assumption); have hx34 := bt_at bx4_a0 x5_2; replace p34 := eq_true p34; replace q34 := eq_true q34)))
                                go_roundg k2
                                case measure => have := HJ7.out; have := HK2.out; omega
                                case rel => exact ⟨(wrap64 (x5_2 + 1)), (by first | rfl | (simp; done) | (simp [*]; done)), H', ⟨by have := HJ7.out; have := HK2.out; omega⟩, ⟨by repeat (first | (with_reducible first | exact HB.out | apply below_alloc | apply pw_below_drewN | apply below_drew1) | exact HB.out)⟩⟩
                              · rw [if_neg c35] at H
                                have c35b0 : ((wrap64 ((wrap64 (t113 * 16)) + t114)) == (wrap64 (bt bx4_a0 x5_2))) = false := beq_eq_false_iff_ne.mpr c35
                                have c35b0q : (IntKind.i64.wrap (IntKind.i64.wrap (t113 * 16) + t114) == IntKind.i64.wrap (bt bx4_a0 x5_2)) = false := by rw [i64_w, i64_w, i64_w]; exact c35b0
                                have c35b1 : ((wrap64 ((wrap64 (t113 * 16)) + t114)) != (wrap64 (bt bx4_a0 x5_2))) = true := bne_iff_ne.mpr c35
                                have c35b1q : (IntKind.i64.wrap (IntKind.i64.wrap (t113 * 16) + t114) != IntKind.i64.wrap (bt bx4_a0 x5_2)) = true := by rw [i64_w, i64_w, i64_w]; exact c35b1
                                obtain rfl := Option.some.inj H
                                have p26 : 0 ≤ ((ji23) : Int) := of_decide_eq_true (by first | (with_reducible assumption) | assumption)
                                have q26 : (ji23) < (t109.size : Int) := of_decide_eq_true (by first | (with_reducible assumption) | assumption)
                                have hx26 := bt_at t109 (ji23)
                                replace p26 := eq_true p26
                                replace q26 := eq_true q26
                                go_wp2_with (first | (go_at_call 16; (with_reducible refine (Go.Proofs.Ytakbdknmfaoppaa.P.bailiwicklaw03_digit.calls k2 (bt t109 (ji23)) t113 _ A27.out).mono ?_); rintro e w' ⟨rfl, ⟨nd, rfl⟩⟩; (try first | exact ⟨rfl, _, World.drewN_drewN _ _ _⟩ | exact ⟨rfl, _, Eq.trans (World.drewN_drewN _ _ _) (congrArg (World.drewN _) (Nat.add_assoc _ _ _))⟩); have p31 : 0 ≤ ((ji28) : Int) := of_decide_eq_true (by first | (with_reducible assumption) | assumption); have q31 : (ji28) < (t109.size : Int) := of_decide_eq_true (by first | (with_reducible assumption) | assumption); have hx31 := bt_at t109 (ji28); replace p31 := eq_true p31; replace q31 := eq_true q31) | (go_at_call 16; (with_reducible refine (Go.Proofs.Ytakbdknmfaoppaa.P.bailiwicklaw03_digit.calls k2 (bt t109 (ji28)) t114 _ A32.out).mono ?_); rintro e w' ⟨rfl, ⟨nd, rfl⟩⟩; (try first | exact ⟨rfl, _, World.drewN_drewN _ _ _⟩ | exact ⟨rfl, _, Eq.trans (World.drewN_drewN _ _ _) (congrArg (World.drewN _) (Nat.add_assoc _ _ _))⟩); have p34 : 0 ≤ (x5_2 : Int) := of_decide_eq_true (by first | (with_reducible assumption) | assumption); have q34 : x5_2 < (bx4_a0.size : Int) := of_decide_eq_true (by first | (with_reducible assumption) | assumption); have hx34 := bt_at bx4_a0 x5_2; replace p34 := eq_true p34; replace q34 := eq_true q34))
                                repeat (go_quiet (first | (go_at_call 16; (with_reducible refine (Go.Proofs.Ytakbdknmfaoppaa.P.bailiwicklaw03_digit.calls k2 (bt t109 (ji23)) t113 _ A27.out).mono ?_); rintro e w' ⟨rfl, ⟨nd, rfl⟩⟩; (try first | exact ⟨rfl, _, World.drewN_drewN _ _ _⟩ | exact ⟨rfl, _, Eq.trans (World.drewN_drewN _ _ _) (congrArg (World.drewN _) (Nat.add_assoc _ _ _))⟩); have p31 : 0 ≤ ((ji28) : Int) := of_decide_eq_true (by first | (with_reducible assumption) | assumption); have q31 : (ji28) < (t109.size : Int) := of_decide_eq_true (by first | (with_reducible assumption) | assumption); have hx31 := bt_at t109 (ji28); replace p31 := eq_true p31; replace q31 := eq_true q31) | (go_at_call 16; (with_reducible refine (Go.Proofs.Ytakbdknmfaoppaa.P.bailiwicklaw03_digit.calls k2 (bt t109 (ji28)) t114 _ A32.out).mono ?_); rintro e w' ⟨rfl, ⟨nd, rfl⟩⟩; (try first | exact ⟨rfl, _, World.drewN_drewN _ _ _⟩ | exact ⟨rfl, _, Eq.trans (World.drewN_drewN _ _ _) (congrArg (World.drewN _) (Nat.add_assoc _ _ _))⟩); have p34 : 0 ≤ (x5_2 : Int) := of_decide_eq_true (by first | (with_reducible assumption) | assumption); have q34 : x5_2 < (bx4_a0.size : Int) := of_decide_eq_true (by first | (with_reducible assumption) | assumption); have hx34 := bt_at bx4_a0 x5_2; replace p34 := eq_true p34; replace q34 := eq_true q34)); try go_wp2_with (first | (go_at_call 16; (with_reducible refine (Go.Proofs.Ytakbdknmfaoppaa.P.bailiwicklaw03_digit.calls k2 (bt t109 (ji23)) t113 _ A27.out).mono ?_); rintro e w' ⟨rfl, ⟨nd, rfl⟩⟩; (try first | exact ⟨rfl, _, World.drewN_drewN _ _ _⟩ | exact ⟨rfl, _, Eq.trans (World.drewN_drewN _ _ _) (congrArg (World.drewN _) (Nat.add_assoc _ _ _))⟩); have p31 : 0 ≤ ((ji28) : Int) := of_decide_eq_true (by first | (with_reducible assumption) | assumption); have q31 : (ji28) < (t109.size : Int) := of_decide_eq_true (by first | (with_reducible assumption) | assumption); have hx31 := bt_at t109 (ji28); replace p31 := eq_true p31; replace q31 := eq_true q31) | (go_at_call 16; (with_reducible refine (Go.Proofs.Ytakbdknmfaoppaa.P.bailiwicklaw03_digit.calls k2 (bt t109 (ji28)) t114 _ A32.out).mono ?_); rintro e w' ⟨rfl, ⟨nd, rfl⟩⟩; (try first | exact ⟨rfl, _, World.drewN_drewN _ _ _⟩ | exact ⟨rfl, _, Eq.trans (World.drewN_drewN _ _ _) (congrArg (World.drewN _) (Nat.add_assoc _ _ _))⟩); have p34 : 0 ≤ (x5_2 : Int) := of_decide_eq_true (by first | (with_reducible assumption) | assumption); have q34 : x5_2 < (bx4_a0.size : Int) := of_decide_eq_true (by first | (with_reducible assumption) | assumption); have hx34 := bt_at bx4_a0 x5_2; replace p34 := eq_true p34; replace q34 := eq_true q34)))
                                go_ret
                                exact ⟨by first | rfl | (simp [errW_none, errW_some] <;> rfl) | (simp only [← hji4, ← hji23, ← hji28]; first | rfl | (simp [errW_none, errW_some] <;> rfl)) | (simp [*, errW_none, errW_some] <;> rfl), by repeat (first | (with_reducible first | exact HB.out | apply below_alloc | apply pw_below_drewN | apply below_drew1) | exact HB.out)⟩
                            · rw [if_neg c33] at H
                              exact absurd H (by simp)
                          · rw [if_neg c30] at H
                            exact absurd H (by simp)
                        · rw [if_neg c29] at H
                          exact absurd H (by simp)
                      · rw [if_neg c25] at H
                        exact absurd H (by simp)
                    · rw [if_neg c24] at H
                      exact absurd H (by simp)
                  · rw [if_neg c22] at H
                    have c22b0 : decide (x5_2 < (bx4_a0.size : Int)) = false := decide_eq_false c22
                    clear c22
                    obtain rfl := Option.some.inj H
                    go_wp2
                    repeat (go_quiet (fail); try go_wp2)
                    go_ret
                    exact ⟨by first | rfl | (simp [errW_none, errW_some] <;> rfl) | (simp only [← hji4]; first | rfl | (simp [errW_none, errW_some] <;> rfl)) | (simp [*, errW_none, errW_some] <;> rfl), by repeat (first | (with_reducible first | exact HB.out | apply below_alloc | apply pw_below_drewN | apply below_drew1) | exact HB.out)⟩
      · rw [if_neg c6] at H
        exact absurd H (by simp)
    · rw [if_neg c5] at H
      exact absurd H (by simp)
  · replace c3 := Bool.eq_false_iff.mpr c3
    subst c3
    have H1 : (some false) = some r := by rw [if_neg (show ¬ (false = true) by decide)] at H; exact H
    clear H
    have H := H1
    clear H1
    obtain rfl := Option.some.inj H
    go_enter Try.func4, Try.ntmps4
    (try dsimp only [List.append])
    go_wp2_with (first | (go_at_call 11; (with_reducible refine (bailiwicklaw03_examples.calls  false _ A2.out).mono ?_); rintro e w36 ⟨rfl, hb⟩; have n0_ := Aside0.mk (below_step (by repeat (first | (with_reducible first | exact HB.out | apply below_alloc | apply pw_below_drewN | apply below_drew1) | exact HB.out)) hb); clear HB; have HB := n0_; clear n0_; (try clear hb); (try clear hb2); (try clear hk); (try clear hi)))
    repeat (go_quiet (first | (go_at_call 11; (with_reducible refine (bailiwicklaw03_examples.calls  false _ A2.out).mono ?_); rintro e w36 ⟨rfl, hb⟩; have n0_ := Aside0.mk (below_step (by repeat (first | (with_reducible first | exact HB.out | apply below_alloc | apply pw_below_drewN | apply below_drew1) | exact HB.out)) hb); clear HB; have HB := n0_; clear n0_; (try clear hb); (try clear hb2); (try clear hk); (try clear hi))); try go_wp2_with (first | (go_at_call 11; (with_reducible refine (bailiwicklaw03_examples.calls  false _ A2.out).mono ?_); rintro e w36 ⟨rfl, hb⟩; have n0_ := Aside0.mk (below_step (by repeat (first | (with_reducible first | exact HB.out | apply below_alloc | apply pw_below_drewN | apply below_drew1) | exact HB.out)) hb); clear HB; have HB := n0_; clear n0_; (try clear hb); (try clear hb2); (try clear hk); (try clear hi))))
    go_ret
    exact ⟨by first | rfl | (simp [errW_none, errW_some] <;> rfl) | (simp [*, errW_none, errW_some] <;> rfl), by repeat (first | (with_reducible first | exact HB.out | apply below_alloc | apply pw_below_drewN | apply below_drew1) | exact HB.out)⟩

/-- THE ONE PURE STATEMENT of bailiwicklaw03_ShaSizes: yours. -/
def bailiwicklaw03_ShaSizes.Pure : Prop := ∀ (a0 : ByteArray), a0.size ≤ 140737488351232 → ∃ k, bailiwicklaw03_ShaSizes.f k a0 = some true
theorem bailiwicklaw03_ShaSizes.walk (P : bailiwicklaw03_ShaSizes.Pure) (a0 : ByteArray) (w : World) (w0 : a0.size ≤ 140737488351232) :
    Calls Try.prog 4 #[.string a0] w fun e w' => e = .returned (.bool true) ∧ Below w.heap.size w w' := by
  obtain ⟨k, h⟩ := P a0 w0
  refine (bailiwicklaw03_ShaSizes.calls k a0 true w h).mono ?_
  rintro e w' ⟨rfl, hd⟩
  exact ⟨rfl, hd⟩

/-! ### bailiwicklaw03_ShaKnown: function 5 -/
def bailiwicklaw03_ShaKnown.f (a0 : Int) : Option (Bool) := (bailiwicklaw03_examples.f).bind fun t115 => (if t115 = true then ((Go.Proofs.Ytakbdknmfaoppaa.R.Sum.f (⟨#[]⟩ : ByteArray)).bind fun t116 => ((Go.Proofs.Ytakbdknmfaoppaa.R.Hex.f t116).bind fun t117 => ((Go.Proofs.Ytakbdknmfaoppaa.R.Sum.f (⟨#[97, 98, 99, 100, 98, 99, 100, 101, 99, 100, 101, 102, 100, 101, 102, 103, 101, 102, 103, 104, 102, 103, 104, 105, 103, 104, 105, 106, 104, 105, 106, 107, 105, 106, 107, 108, 106, 107, 108, 109, 107, 108, 109, 110, 108, 109, 110, 111, 109, 110, 111, 112, 110, 111, 112, 113]⟩ : ByteArray)).bind fun t118 => ((Go.Proofs.Ytakbdknmfaoppaa.R.Hex.f t118).bind fun t119 => ((Go.Proofs.Ytakbdknmfaoppaa.R.Hex.f (strOfNums (([a0] : List Int)))).bind fun t123 => (if (t123.size : Int) = 2 then (if t117.toList = ([101, 51, 98, 48, 99, 52, 52, 50, 57, 56, 102, 99, 49, 99, 49, 52, 57, 97, 102, 98, 102, 52, 99, 56, 57, 57, 54, 102, 98, 57, 50, 52, 50, 55, 97, 101, 52, 49, 101, 52, 54, 52, 57, 98, 57, 51, 52, 99, 97, 52, 57, 53, 57, 57, 49, 98, 55, 56, 53, 50, 98, 56, 53, 53] : List UInt8) then (some (t119.toList == ([50, 52, 56, 100, 54, 97, 54, 49, 100, 50, 48, 54, 51, 56, 98, 56, 101, 53, 99, 48, 50, 54, 57, 51, 48, 99, 51, 101, 54, 48, 51, 57, 97, 51, 51, 99, 101, 52, 53, 57, 54, 52, 102, 102, 50, 49, 54, 55, 102, 54, 101, 99, 101, 100, 100, 52, 49, 57, 100, 98, 48, 54, 99, 49] : List UInt8))) else (some false)) else (some false))))))) else (some false))
set_option maxHeartbeats 8000000 in
set_option maxRecDepth 100000 in
theorem bailiwicklaw03_ShaKnown.calls (a0 : Int) (r : Bool) (w : World) (h : bailiwicklaw03_ShaKnown.f a0 = some r) :
    Calls Try.prog 5 #[.int .u8 a0] w fun e w' => e = .returned (.bool r) ∧ Below w.heap.size w w' := by
  have HB := Aside0.mk (Below.refl w.heap.size w)
  have H : ((bailiwicklaw03_examples.f).bind fun t115 => (if t115 = true then ((Go.Proofs.Ytakbdknmfaoppaa.R.Sum.f (⟨#[]⟩ : ByteArray)).bind fun t116 => ((Go.Proofs.Ytakbdknmfaoppaa.R.Hex.f t116).bind fun t117 => ((Go.Proofs.Ytakbdknmfaoppaa.R.Sum.f (⟨#[97, 98, 99, 100, 98, 99, 100, 101, 99, 100, 101, 102, 100, 101, 102, 103, 101, 102, 103, 104, 102, 103, 104, 105, 103, 104, 105, 106, 104, 105, 106, 107, 105, 106, 107, 108, 106, 107, 108, 109, 107, 108, 109, 110, 108, 109, 110, 111, 109, 110, 111, 112, 110, 111, 112, 113]⟩ : ByteArray)).bind fun t118 => ((Go.Proofs.Ytakbdknmfaoppaa.R.Hex.f t118).bind fun t119 => ((Go.Proofs.Ytakbdknmfaoppaa.R.Hex.f (strOfNums (([a0] : List Int)))).bind fun t123 => (if (t123.size : Int) = 2 then (if t117.toList = ([101, 51, 98, 48, 99, 52, 52, 50, 57, 56, 102, 99, 49, 99, 49, 52, 57, 97, 102, 98, 102, 52, 99, 56, 57, 57, 54, 102, 98, 57, 50, 52, 50, 55, 97, 101, 52, 49, 101, 52, 54, 52, 57, 98, 57, 51, 52, 99, 97, 52, 57, 53, 57, 57, 49, 98, 55, 56, 53, 50, 98, 56, 53, 53] : List UInt8) then (some (t119.toList == ([50, 52, 56, 100, 54, 97, 54, 49, 100, 50, 48, 54, 51, 56, 98, 56, 101, 53, 99, 48, 50, 54, 57, 51, 48, 99, 51, 101, 54, 48, 51, 57, 97, 51, 51, 99, 101, 52, 53, 57, 54, 52, 102, 102, 50, 49, 54, 55, 102, 54, 101, 99, 101, 100, 100, 52, 49, 57, 100, 98, 48, 54, 99, 49] : List UInt8))) else (some false)) else (some false))))))) else (some false))) = some r := h
  clear h
  replace H := Option.bind_eq_some_iff.mp H
  obtain ⟨t115, A20, H⟩ := H
  replace H : (if t115 = true then ((Go.Proofs.Ytakbdknmfaoppaa.R.Sum.f (⟨#[]⟩ : ByteArray)).bind fun t116 => ((Go.Proofs.Ytakbdknmfaoppaa.R.Hex.f t116).bind fun t117 => ((Go.Proofs.Ytakbdknmfaoppaa.R.Sum.f (⟨#[97, 98, 99, 100, 98, 99, 100, 101, 99, 100, 101, 102, 100, 101, 102, 103, 101, 102, 103, 104, 102, 103, 104, 105, 103, 104, 105, 106, 104, 105, 106, 107, 105, 106, 107, 108, 106, 107, 108, 109, 107, 108, 109, 110, 108, 109, 110, 111, 109, 110, 111, 112, 110, 111, 112, 113]⟩ : ByteArray)).bind fun t118 => ((Go.Proofs.Ytakbdknmfaoppaa.R.Hex.f t118).bind fun t119 => ((Go.Proofs.Ytakbdknmfaoppaa.R.Hex.f (strOfNums (([a0] : List Int)))).bind fun t123 => (if (t123.size : Int) = 2 then (if t117.toList = ([101, 51, 98, 48, 99, 52, 52, 50, 57, 56, 102, 99, 49, 99, 49, 52, 57, 97, 102, 98, 102, 52, 99, 56, 57, 57, 54, 102, 98, 57, 50, 52, 50, 55, 97, 101, 52, 49, 101, 52, 54, 52, 57, 98, 57, 51, 52, 99, 97, 52, 57, 53, 57, 57, 49, 98, 55, 56, 53, 50, 98, 56, 53, 53] : List UInt8) then (some (t119.toList == ([50, 52, 56, 100, 54, 97, 54, 49, 100, 50, 48, 54, 51, 56, 98, 56, 101, 53, 99, 48, 50, 54, 57, 51, 48, 99, 51, 101, 54, 48, 51, 57, 97, 51, 51, 99, 101, 52, 53, 57, 54, 52, 102, 102, 50, 49, 54, 55, 102, 54, 101, 99, 101, 100, 100, 52, 49, 57, 100, 98, 48, 54, 99, 49] : List UInt8))) else (some false)) else (some false))))))) else (some false)) = some r := H
  have A2 := Aside0.mk A20
  clear A20
  by_cases c3 : t115 = true
  · subst c3
    have H1 : ((Go.Proofs.Ytakbdknmfaoppaa.R.Sum.f (⟨#[]⟩ : ByteArray)).bind fun t116 => ((Go.Proofs.Ytakbdknmfaoppaa.R.Hex.f t116).bind fun t117 => ((Go.Proofs.Ytakbdknmfaoppaa.R.Sum.f (⟨#[97, 98, 99, 100, 98, 99, 100, 101, 99, 100, 101, 102, 100, 101, 102, 103, 101, 102, 103, 104, 102, 103, 104, 105, 103, 104, 105, 106, 104, 105, 106, 107, 105, 106, 107, 108, 106, 107, 108, 109, 107, 108, 109, 110, 108, 109, 110, 111, 109, 110, 111, 112, 110, 111, 112, 113]⟩ : ByteArray)).bind fun t118 => ((Go.Proofs.Ytakbdknmfaoppaa.R.Hex.f t118).bind fun t119 => ((Go.Proofs.Ytakbdknmfaoppaa.R.Hex.f (strOfNums (([a0] : List Int)))).bind fun t123 => (if (t123.size : Int) = 2 then (if t117.toList = ([101, 51, 98, 48, 99, 52, 52, 50, 57, 56, 102, 99, 49, 99, 49, 52, 57, 97, 102, 98, 102, 52, 99, 56, 57, 57, 54, 102, 98, 57, 50, 52, 50, 55, 97, 101, 52, 49, 101, 52, 54, 52, 57, 98, 57, 51, 52, 99, 97, 52, 57, 53, 57, 57, 49, 98, 55, 56, 53, 50, 98, 56, 53, 53] : List UInt8) then (some (t119.toList == ([50, 52, 56, 100, 54, 97, 54, 49, 100, 50, 48, 54, 51, 56, 98, 56, 101, 53, 99, 48, 50, 54, 57, 51, 48, 99, 51, 101, 54, 48, 51, 57, 97, 51, 51, 99, 101, 52, 53, 57, 54, 52, 102, 102, 50, 49, 54, 55, 102, 54, 101, 99, 101, 100, 100, 52, 49, 57, 100, 98, 48, 54, 99, 49] : List UInt8))) else (some false)) else (some false))))))) = some r := by rw [if_pos rfl] at H; exact H
    clear H
    have H := H1
    clear H1
    replace H := Option.bind_eq_some_iff.mp H
    obtain ⟨t116, A40, H⟩ := H
    replace H : ((Go.Proofs.Ytakbdknmfaoppaa.R.Hex.f t116).bind fun t117 => ((Go.Proofs.Ytakbdknmfaoppaa.R.Sum.f (⟨#[97, 98, 99, 100, 98, 99, 100, 101, 99, 100, 101, 102, 100, 101, 102, 103, 101, 102, 103, 104, 102, 103, 104, 105, 103, 104, 105, 106, 104, 105, 106, 107, 105, 106, 107, 108, 106, 107, 108, 109, 107, 108, 109, 110, 108, 109, 110, 111, 109, 110, 111, 112, 110, 111, 112, 113]⟩ : ByteArray)).bind fun t118 => ((Go.Proofs.Ytakbdknmfaoppaa.R.Hex.f t118).bind fun t119 => ((Go.Proofs.Ytakbdknmfaoppaa.R.Hex.f (strOfNums (([a0] : List Int)))).bind fun t123 => (if (t123.size : Int) = 2 then (if t117.toList = ([101, 51, 98, 48, 99, 52, 52, 50, 57, 56, 102, 99, 49, 99, 49, 52, 57, 97, 102, 98, 102, 52, 99, 56, 57, 57, 54, 102, 98, 57, 50, 52, 50, 55, 97, 101, 52, 49, 101, 52, 54, 52, 57, 98, 57, 51, 52, 99, 97, 52, 57, 53, 57, 57, 49, 98, 55, 56, 53, 50, 98, 56, 53, 53] : List UInt8) then (some (t119.toList == ([50, 52, 56, 100, 54, 97, 54, 49, 100, 50, 48, 54, 51, 56, 98, 56, 101, 53, 99, 48, 50, 54, 57, 51, 48, 99, 51, 101, 54, 48, 51, 57, 97, 51, 51, 99, 101, 52, 53, 57, 54, 52, 102, 102, 50, 49, 54, 55, 102, 54, 101, 99, 101, 100, 100, 52, 49, 57, 100, 98, 48, 54, 99, 49] : List UInt8))) else (some false)) else (some false)))))) = some r := H
    have A4 := Aside0.mk A40
    clear A40
    replace H := Option.bind_eq_some_iff.mp H
    obtain ⟨t117, A50, H⟩ := H
    replace H : ((Go.Proofs.Ytakbdknmfaoppaa.R.Sum.f (⟨#[97, 98, 99, 100, 98, 99, 100, 101, 99, 100, 101, 102, 100, 101, 102, 103, 101, 102, 103, 104, 102, 103, 104, 105, 103, 104, 105, 106, 104, 105, 106, 107, 105, 106, 107, 108, 106, 107, 108, 109, 107, 108, 109, 110, 108, 109, 110, 111, 109, 110, 111, 112, 110, 111, 112, 113]⟩ : ByteArray)).bind fun t118 => ((Go.Proofs.Ytakbdknmfaoppaa.R.Hex.f t118).bind fun t119 => ((Go.Proofs.Ytakbdknmfaoppaa.R.Hex.f (strOfNums (([a0] : List Int)))).bind fun t123 => (if (t123.size : Int) = 2 then (if t117.toList = ([101, 51, 98, 48, 99, 52, 52, 50, 57, 56, 102, 99, 49, 99, 49, 52, 57, 97, 102, 98, 102, 52, 99, 56, 57, 57, 54, 102, 98, 57, 50, 52, 50, 55, 97, 101, 52, 49, 101, 52, 54, 52, 57, 98, 57, 51, 52, 99, 97, 52, 57, 53, 57, 57, 49, 98, 55, 56, 53, 50, 98, 56, 53, 53] : List UInt8) then (some (t119.toList == ([50, 52, 56, 100, 54, 97, 54, 49, 100, 50, 48, 54, 51, 56, 98, 56, 101, 53, 99, 48, 50, 54, 57, 51, 48, 99, 51, 101, 54, 48, 51, 57, 97, 51, 51, 99, 101, 52, 53, 57, 54, 52, 102, 102, 50, 49, 54, 55, 102, 54, 101, 99, 101, 100, 100, 52, 49, 57, 100, 98, 48, 54, 99, 49] : List UInt8))) else (some false)) else (some false))))) = some r := H
    have A5 := Aside0.mk A50
    clear A50
    replace H := Option.bind_eq_some_iff.mp H
    obtain ⟨t118, A60, H⟩ := H
    replace H : ((Go.Proofs.Ytakbdknmfaoppaa.R.Hex.f t118).bind fun t119 => ((Go.Proofs.Ytakbdknmfaoppaa.R.Hex.f (strOfNums (([a0] : List Int)))).bind fun t123 => (if (t123.size : Int) = 2 then (if t117.toList = ([101, 51, 98, 48, 99, 52, 52, 50, 57, 56, 102, 99, 49, 99, 49, 52, 57, 97, 102, 98, 102, 52, 99, 56, 57, 57, 54, 102, 98, 57, 50, 52, 50, 55, 97, 101, 52, 49, 101, 52, 54, 52, 57, 98, 57, 51, 52, 99, 97, 52, 57, 53, 57, 57, 49, 98, 55, 56, 53, 50, 98, 56, 53, 53] : List UInt8) then (some (t119.toList == ([50, 52, 56, 100, 54, 97, 54, 49, 100, 50, 48, 54, 51, 56, 98, 56, 101, 53, 99, 48, 50, 54, 57, 51, 48, 99, 51, 101, 54, 48, 51, 57, 97, 51, 51, 99, 101, 52, 53, 57, 54, 52, 102, 102, 50, 49, 54, 55, 102, 54, 101, 99, 101, 100, 100, 52, 49, 57, 100, 98, 48, 54, 99, 49] : List UInt8))) else (some false)) else (some false)))) = some r := H
    have A6 := Aside0.mk A60
    clear A60
    replace H := Option.bind_eq_some_iff.mp H
    obtain ⟨t119, A70, H⟩ := H
    replace H : ((Go.Proofs.Ytakbdknmfaoppaa.R.Hex.f (strOfNums (([a0] : List Int)))).bind fun t123 => (if (t123.size : Int) = 2 then (if t117.toList = ([101, 51, 98, 48, 99, 52, 52, 50, 57, 56, 102, 99, 49, 99, 49, 52, 57, 97, 102, 98, 102, 52, 99, 56, 57, 57, 54, 102, 98, 57, 50, 52, 50, 55, 97, 101, 52, 49, 101, 52, 54, 52, 57, 98, 57, 51, 52, 99, 97, 52, 57, 53, 57, 57, 49, 98, 55, 56, 53, 50, 98, 56, 53, 53] : List UInt8) then (some (t119.toList == ([50, 52, 56, 100, 54, 97, 54, 49, 100, 50, 48, 54, 51, 56, 98, 56, 101, 53, 99, 48, 50, 54, 57, 51, 48, 99, 51, 101, 54, 48, 51, 57, 97, 51, 51, 99, 101, 52, 53, 57, 54, 52, 102, 102, 50, 49, 54, 55, 102, 54, 101, 99, 101, 100, 100, 52, 49, 57, 100, 98, 48, 54, 99, 49] : List UInt8))) else (some false)) else (some false))) = some r := H
    have A7 := Aside0.mk A70
    clear A70
    obtain ⟨y120, hy120⟩ : ∃ y_ : List Int, y_ = (([a0] : List Int)) := ⟨_, rfl⟩
    replace H : ((Go.Proofs.Ytakbdknmfaoppaa.R.Hex.f (strOfNums y120)).bind fun t123 => (if (t123.size : Int) = 2 then (if t117.toList = ([101, 51, 98, 48, 99, 52, 52, 50, 57, 56, 102, 99, 49, 99, 49, 52, 57, 97, 102, 98, 102, 52, 99, 56, 57, 57, 54, 102, 98, 57, 50, 52, 50, 55, 97, 101, 52, 49, 101, 52, 54, 52, 57, 98, 57, 51, 52, 99, 97, 52, 57, 53, 57, 57, 49, 98, 55, 56, 53, 50, 98, 56, 53, 53] : List UInt8) then (some (t119.toList == ([50, 52, 56, 100, 54, 97, 54, 49, 100, 50, 48, 54, 51, 56, 98, 56, 101, 53, 99, 48, 50, 54, 57, 51, 48, 99, 51, 101, 54, 48, 51, 57, 97, 51, 51, 99, 101, 52, 53, 57, 54, 52, 102, 102, 50, 49, 54, 55, 102, 54, 101, 99, 101, 100, 100, 52, 49, 57, 100, 98, 48, 54, 99, 49] : List UInt8))) else (some false)) else (some false))) = some r := by first | (rw [hy120]; with_reducible exact H) | (have H2_ := (Option.bind_some _ _).symm.trans H; rw [hy120]; with_reducible exact H2_) | (have H2_ := (Option.bind_some _ _).symm.trans H; with_reducible exact H2_) | with_reducible exact H | (rw [hy120]; exact H) | exact H
    have Ny120 := Aside0.mk hy120
    clear hy120
    replace H := Option.bind_eq_some_iff.mp H
    obtain ⟨t123, A80, H⟩ := H
    replace H : (if (t123.size : Int) = 2 then (if t117.toList = ([101, 51, 98, 48, 99, 52, 52, 50, 57, 56, 102, 99, 49, 99, 49, 52, 57, 97, 102, 98, 102, 52, 99, 56, 57, 57, 54, 102, 98, 57, 50, 52, 50, 55, 97, 101, 52, 49, 101, 52, 54, 52, 57, 98, 57, 51, 52, 99, 97, 52, 57, 53, 57, 57, 49, 98, 55, 56, 53, 50, 98, 56, 53, 53] : List UInt8) then (some (t119.toList == ([50, 52, 56, 100, 54, 97, 54, 49, 100, 50, 48, 54, 51, 56, 98, 56, 101, 53, 99, 48, 50, 54, 57, 51, 48, 99, 51, 101, 54, 48, 51, 57, 97, 51, 51, 99, 101, 52, 53, 57, 54, 52, 102, 102, 50, 49, 54, 55, 102, 54, 101, 99, 101, 100, 100, 52, 49, 57, 100, 98, 48, 54, 99, 49] : List UInt8))) else (some false)) else (some false)) = some r := H
    have A8 := Aside0.mk A80
    clear A80
    by_cases c9 : (t123.size : Int) = 2
    · rw [if_pos c9] at H
      have c9b0 : ((t123.size : Int) == 2) = true := beq_iff_eq.mpr c9
      have c9b1 : ((t123.size : Int) != 2) = false := bne_eq_false_iff_eq.mpr c9
      clear c9
      by_cases c10 : t117.toList = ([101, 51, 98, 48, 99, 52, 52, 50, 57, 56, 102, 99, 49, 99, 49, 52, 57, 97, 102, 98, 102, 52, 99, 56, 57, 57, 54, 102, 98, 57, 50, 52, 50, 55, 97, 101, 52, 49, 101, 52, 54, 52, 57, 98, 57, 51, 52, 99, 97, 52, 57, 53, 57, 57, 49, 98, 55, 56, 53, 50, 98, 56, 53, 53] : List UInt8)
      · rw [if_pos c10] at H
        have c10b0 : (t117.toList == ([101, 51, 98, 48, 99, 52, 52, 50, 57, 56, 102, 99, 49, 99, 49, 52, 57, 97, 102, 98, 102, 52, 99, 56, 57, 57, 54, 102, 98, 57, 50, 52, 50, 55, 97, 101, 52, 49, 101, 52, 54, 52, 57, 98, 57, 51, 52, 99, 97, 52, 57, 53, 57, 57, 49, 98, 55, 56, 53, 50, 98, 56, 53, 53] : List UInt8)) = true := beq_iff_eq.mpr c10
        have c10b1 : (t117.toList != ([101, 51, 98, 48, 99, 52, 52, 50, 57, 56, 102, 99, 49, 99, 49, 52, 57, 97, 102, 98, 102, 52, 99, 56, 57, 57, 54, 102, 98, 57, 50, 52, 50, 55, 97, 101, 52, 49, 101, 52, 54, 52, 57, 98, 57, 51, 52, 99, 97, 52, 57, 53, 57, 57, 49, 98, 55, 56, 53, 50, 98, 56, 53, 53] : List UInt8)) = false := bne_eq_false_iff_eq.mpr c10
        clear c10
        obtain rfl := Option.some.inj H
        go_enter Try.func5, Try.ntmps5
        (try dsimp only [List.append])
        go_wp2_with (first | ((with_reducible refine gate_callee (f := 11) rfl ?_); refine goesL_ (some 7) rfl rfl Try.func11 (by kernel_rfl) rfl #[] rfl (by (try simp only [List.map_toArray, List.map_cons, List.map_nil]); first | done | rfl | (simp only [List.length_drop, List.length_take]; rfl)) ?_; (with_reducible refine (bailiwicklaw03_examples.calls  true _ A2.out).mono ?_); rintro e w11 ⟨rfl, hb⟩; refine ⟨_, rfl, ?_⟩; have n0_ := Aside0.mk (below_step (by repeat (first | (with_reducible first | exact HB.out | apply below_alloc | apply pw_below_drewN | apply below_drew1) | exact HB.out)) hb); clear HB; have HB := n0_; clear n0_; (try clear hb); (try clear hb2); (try clear hk); (try clear hi)) | ((with_reducible refine gate_callee (f := 12) rfl ?_); refine goesL_ (some 10) rfl rfl Try.func12 (by kernel_rfl) rfl #[.string (⟨#[]⟩ : ByteArray)] rfl (by (try simp only [List.map_toArray, List.map_cons, List.map_nil]); first | done | rfl | (simp only [List.length_drop, List.length_take]; rfl)) ?_; (with_reducible refine (Go.Proofs.Ytakbdknmfaoppaa.R.Sum.calls (⟨#[]⟩ : ByteArray) t116 _ A4.out).mono ?_); rintro e w12 ⟨rfl, hb⟩; refine ⟨_, rfl, ?_⟩; have n0_ := Aside0.mk (below_step (by repeat (first | (with_reducible first | exact HB.out | apply below_alloc | apply pw_below_drewN | apply below_drew1) | exact HB.out)) hb); clear HB; have HB := n0_; clear n0_; (try clear hb); (try clear hb2); (try clear hk); (try clear hi)) | ((with_reducible refine gate_callee (f := 14) rfl ?_); refine goesL_ (some 11) rfl rfl Try.func14 (by kernel_rfl) rfl #[.string t116] rfl (by (try simp only [List.map_toArray, List.map_cons, List.map_nil]); first | done | rfl | (simp only [List.length_drop, List.length_take]; rfl)) ?_; (with_reducible refine (Go.Proofs.Ytakbdknmfaoppaa.R.Hex.calls t116 t117 _ A5.out).mono ?_); rintro e w13 ⟨rfl, hb⟩; refine ⟨_, rfl, ?_⟩; have n0_ := Aside0.mk (below_step (by repeat (first | (with_reducible first | exact HB.out | apply below_alloc | apply pw_below_drewN | apply below_drew1) | exact HB.out)) hb); clear HB; have HB := n0_; clear n0_; (try clear hb); (try clear hb2); (try clear hk); (try clear hi)) | ((with_reducible refine gate_callee (f := 12) rfl ?_); refine goesL_ (some 12) rfl rfl Try.func12 (by kernel_rfl) rfl #[.string (⟨#[97, 98, 99, 100, 98, 99, 100, 101, 99, 100, 101, 102, 100, 101, 102, 103, 101, 102, 103, 104, 102, 103, 104, 105, 103, 104, 105, 106, 104, 105, 106, 107, 105, 106, 107, 108, 106, 107, 108, 109, 107, 108, 109, 110, 108, 109, 110, 111, 109, 110, 111, 112, 110, 111, 112, 113]⟩ : ByteArray)] rfl (by (try simp only [List.map_toArray, List.map_cons, List.map_nil]); first | done | rfl | (simp only [List.length_drop, List.length_take]; rfl)) ?_; (with_reducible refine (Go.Proofs.Ytakbdknmfaoppaa.R.Sum.calls (⟨#[97, 98, 99, 100, 98, 99, 100, 101, 99, 100, 101, 102, 100, 101, 102, 103, 101, 102, 103, 104, 102, 103, 104, 105, 103, 104, 105, 106, 104, 105, 106, 107, 105, 106, 107, 108, 106, 107, 108, 109, 107, 108, 109, 110, 108, 109, 110, 111, 109, 110, 111, 112, 110, 111, 112, 113]⟩ : ByteArray) t118 _ A6.out).mono ?_); rintro e w14 ⟨rfl, hb⟩; refine ⟨_, rfl, ?_⟩; have n0_ := Aside0.mk (below_step (by repeat (first | (with_reducible first | exact HB.out | apply below_alloc | apply pw_below_drewN | apply below_drew1) | exact HB.out)) hb); clear HB; have HB := n0_; clear n0_; (try clear hb); (try clear hb2); (try clear hk); (try clear hi)) | ((with_reducible refine gate_callee (f := 14) rfl ?_); refine goesL_ (some 13) rfl rfl Try.func14 (by kernel_rfl) rfl #[.string t118] rfl (by (try simp only [List.map_toArray, List.map_cons, List.map_nil]); first | done | rfl | (simp only [List.length_drop, List.length_take]; rfl)) ?_; (with_reducible refine (Go.Proofs.Ytakbdknmfaoppaa.R.Hex.calls t118 t119 _ A7.out).mono ?_); rintro e w15 ⟨rfl, hb⟩; refine ⟨_, rfl, ?_⟩; have n0_ := Aside0.mk (below_step (by repeat (first | (with_reducible first | exact HB.out | apply below_alloc | apply pw_below_drewN | apply below_drew1) | exact HB.out)) hb); clear HB; have HB := n0_; clear n0_; (try clear hb); (try clear hb2); (try clear hk); (try clear hi)) | ((with_reducible refine gate_dst (N := 15) rfl ?_); (try (refine gate_guard (by rfl) ?_; dsimp only)); refine Kd.R_lit (Kd.int .u8) _ 5 ?hg (N := 15) ?hd (xs := ([a0] : List Int)) (inner := [.int .u8 a0]) (ok := fun _ => True) (okp := fun _ => True) ?hr ?hp (fun _ hk => hk) trivial (Below.refl _ _) (Nat.le_refl _) (by simp) ?_; (case hd => rfl); (case hg => rfl); (case hr => first | (go_simp; done) | (go_simp; rfl)); (case hp => exact (Reps.one (show Kd.M (Kd.int .u8) _ _ _ a0 [.int .u8 a0] from rfl) (Reps.none _ _))); intro v121 w16 ho17 hb hg_ hnew_; clear hg_ hnew_; (first | rw [← Ny120.out] at ho17 | (simp only [Int.reduceToNat] at ho17; rw [← Ny120.out] at ho17)); have n0_ := Aside0.mk (Kd.R_lower ho17 (below_size (by repeat (first | (with_reducible first | exact HB.out | apply below_alloc | apply pw_below_drewN | apply below_drew1) | exact HB.out)))); have n1_ := Aside0.mk (below_step (by repeat (first | (with_reducible first | exact HB.out | apply below_alloc | apply pw_below_drewN | apply below_drew1) | exact HB.out)) hb); clear HB; have HO122 := n0_; have HB := n1_; clear n0_ n1_; clear hb ho17; have hcv18 := own_string (P := Try.prog) Try.underlying26 Try.underlying5 Try.underlying9 (Kd.own_of_R HO122.out)) | ((with_reducible refine gate_callee (f := 14) rfl ?_); refine goesL_ (some 17) rfl rfl Try.func14 (by kernel_rfl) rfl #[.string (strOfNums y120)] rfl (by (try simp only [List.map_toArray, List.map_cons, List.map_nil]); first | done | rfl | (simp only [List.length_drop, List.length_take]; rfl)) ?_; (with_reducible refine (Go.Proofs.Ytakbdknmfaoppaa.R.Hex.calls (strOfNums y120) t123 _ A8.out).mono ?_); rintro e w19 ⟨rfl, hb⟩; refine ⟨_, rfl, ?_⟩; have n0_ := Aside0.mk (Kd.R_below (by (with_reducible repeat (first | apply Kd.R_alloc | apply Kd.R_drewN | apply Kd.R_drew)); exact HO122.out) hb); have n1_ := Aside0.mk (below_step (by repeat (first | (with_reducible first | exact HB.out | apply below_alloc | apply pw_below_drewN | apply below_drew1) | exact HB.out)) hb); clear HO122; clear HB; have HO122 := n0_; have HB := n1_; clear n0_ n1_; (try clear hb); (try clear hb2); (try clear hk); (try clear hi)))
        go_ret
        exact ⟨by first | rfl | (simp [errW_none, errW_some] <;> rfl) | (simp [*, errW_none, errW_some] <;> rfl), by repeat (first | (with_reducible first | exact HB.out | apply below_alloc | apply pw_below_drewN | apply below_drew1) | exact HB.out)⟩
      · rw [if_neg c10] at H
        have c10b0 : (t117.toList == ([101, 51, 98, 48, 99, 52, 52, 50, 57, 56, 102, 99, 49, 99, 49, 52, 57, 97, 102, 98, 102, 52, 99, 56, 57, 57, 54, 102, 98, 57, 50, 52, 50, 55, 97, 101, 52, 49, 101, 52, 54, 52, 57, 98, 57, 51, 52, 99, 97, 52, 57, 53, 57, 57, 49, 98, 55, 56, 53, 50, 98, 56, 53, 53] : List UInt8)) = false := beq_eq_false_iff_ne.mpr c10
        have c10b1 : (t117.toList != ([101, 51, 98, 48, 99, 52, 52, 50, 57, 56, 102, 99, 49, 99, 49, 52, 57, 97, 102, 98, 102, 52, 99, 56, 57, 57, 54, 102, 98, 57, 50, 52, 50, 55, 97, 101, 52, 49, 101, 52, 54, 52, 57, 98, 57, 51, 52, 99, 97, 52, 57, 53, 57, 57, 49, 98, 55, 56, 53, 50, 98, 56, 53, 53] : List UInt8)) = true := bne_iff_ne.mpr c10
        obtain rfl := Option.some.inj H
        go_enter Try.func5, Try.ntmps5
        (try dsimp only [List.append])
        go_wp2_with (first | ((with_reducible refine gate_callee (f := 11) rfl ?_); refine goesL_ (some 7) rfl rfl Try.func11 (by kernel_rfl) rfl #[] rfl (by (try simp only [List.map_toArray, List.map_cons, List.map_nil]); first | done | rfl | (simp only [List.length_drop, List.length_take]; rfl)) ?_; (with_reducible refine (bailiwicklaw03_examples.calls  true _ A2.out).mono ?_); rintro e w20 ⟨rfl, hb⟩; refine ⟨_, rfl, ?_⟩; have n0_ := Aside0.mk (below_step (by repeat (first | (with_reducible first | exact HB.out | apply below_alloc | apply pw_below_drewN | apply below_drew1) | exact HB.out)) hb); clear HB; have HB := n0_; clear n0_; (try clear hb); (try clear hb2); (try clear hk); (try clear hi)) | ((with_reducible refine gate_callee (f := 12) rfl ?_); refine goesL_ (some 10) rfl rfl Try.func12 (by kernel_rfl) rfl #[.string (⟨#[]⟩ : ByteArray)] rfl (by (try simp only [List.map_toArray, List.map_cons, List.map_nil]); first | done | rfl | (simp only [List.length_drop, List.length_take]; rfl)) ?_; (with_reducible refine (Go.Proofs.Ytakbdknmfaoppaa.R.Sum.calls (⟨#[]⟩ : ByteArray) t116 _ A4.out).mono ?_); rintro e w21 ⟨rfl, hb⟩; refine ⟨_, rfl, ?_⟩; have n0_ := Aside0.mk (below_step (by repeat (first | (with_reducible first | exact HB.out | apply below_alloc | apply pw_below_drewN | apply below_drew1) | exact HB.out)) hb); clear HB; have HB := n0_; clear n0_; (try clear hb); (try clear hb2); (try clear hk); (try clear hi)) | ((with_reducible refine gate_callee (f := 14) rfl ?_); refine goesL_ (some 11) rfl rfl Try.func14 (by kernel_rfl) rfl #[.string t116] rfl (by (try simp only [List.map_toArray, List.map_cons, List.map_nil]); first | done | rfl | (simp only [List.length_drop, List.length_take]; rfl)) ?_; (with_reducible refine (Go.Proofs.Ytakbdknmfaoppaa.R.Hex.calls t116 t117 _ A5.out).mono ?_); rintro e w22 ⟨rfl, hb⟩; refine ⟨_, rfl, ?_⟩; have n0_ := Aside0.mk (below_step (by repeat (first | (with_reducible first | exact HB.out | apply below_alloc | apply pw_below_drewN | apply below_drew1) | exact HB.out)) hb); clear HB; have HB := n0_; clear n0_; (try clear hb); (try clear hb2); (try clear hk); (try clear hi)) | ((with_reducible refine gate_callee (f := 12) rfl ?_); refine goesL_ (some 12) rfl rfl Try.func12 (by kernel_rfl) rfl #[.string (⟨#[97, 98, 99, 100, 98, 99, 100, 101, 99, 100, 101, 102, 100, 101, 102, 103, 101, 102, 103, 104, 102, 103, 104, 105, 103, 104, 105, 106, 104, 105, 106, 107, 105, 106, 107, 108, 106, 107, 108, 109, 107, 108, 109, 110, 108, 109, 110, 111, 109, 110, 111, 112, 110, 111, 112, 113]⟩ : ByteArray)] rfl (by (try simp only [List.map_toArray, List.map_cons, List.map_nil]); first | done | rfl | (simp only [List.length_drop, List.length_take]; rfl)) ?_; (with_reducible refine (Go.Proofs.Ytakbdknmfaoppaa.R.Sum.calls (⟨#[97, 98, 99, 100, 98, 99, 100, 101, 99, 100, 101, 102, 100, 101, 102, 103, 101, 102, 103, 104, 102, 103, 104, 105, 103, 104, 105, 106, 104, 105, 106, 107, 105, 106, 107, 108, 106, 107, 108, 109, 107, 108, 109, 110, 108, 109, 110, 111, 109, 110, 111, 112, 110, 111, 112, 113]⟩ : ByteArray) t118 _ A6.out).mono ?_); rintro e w23 ⟨rfl, hb⟩; refine ⟨_, rfl, ?_⟩; have n0_ := Aside0.mk (below_step (by repeat (first | (with_reducible first | exact HB.out | apply below_alloc | apply pw_below_drewN | apply below_drew1) | exact HB.out)) hb); clear HB; have HB := n0_; clear n0_; (try clear hb); (try clear hb2); (try clear hk); (try clear hi)) | ((with_reducible refine gate_callee (f := 14) rfl ?_); refine goesL_ (some 13) rfl rfl Try.func14 (by kernel_rfl) rfl #[.string t118] rfl (by (try simp only [List.map_toArray, List.map_cons, List.map_nil]); first | done | rfl | (simp only [List.length_drop, List.length_take]; rfl)) ?_; (with_reducible refine (Go.Proofs.Ytakbdknmfaoppaa.R.Hex.calls t118 t119 _ A7.out).mono ?_); rintro e w24 ⟨rfl, hb⟩; refine ⟨_, rfl, ?_⟩; have n0_ := Aside0.mk (below_step (by repeat (first | (with_reducible first | exact HB.out | apply below_alloc | apply pw_below_drewN | apply below_drew1) | exact HB.out)) hb); clear HB; have HB := n0_; clear n0_; (try clear hb); (try clear hb2); (try clear hk); (try clear hi)) | ((with_reducible refine gate_dst (N := 15) rfl ?_); (try (refine gate_guard (by rfl) ?_; dsimp only)); refine Kd.R_lit (Kd.int .u8) _ 5 ?hg (N := 15) ?hd (xs := ([a0] : List Int)) (inner := [.int .u8 a0]) (ok := fun _ => True) (okp := fun _ => True) ?hr ?hp (fun _ hk => hk) trivial (Below.refl _ _) (Nat.le_refl _) (by simp) ?_; (case hd => rfl); (case hg => rfl); (case hr => first | (go_simp; done) | (go_simp; rfl)); (case hp => exact (Reps.one (show Kd.M (Kd.int .u8) _ _ _ a0 [.int .u8 a0] from rfl) (Reps.none _ _))); intro v121 w25 ho26 hb hg_ hnew_; clear hg_ hnew_; (first | rw [← Ny120.out] at ho26 | (simp only [Int.reduceToNat] at ho26; rw [← Ny120.out] at ho26)); have n0_ := Aside0.mk (Kd.R_lower ho26 (below_size (by repeat (first | (with_reducible first | exact HB.out | apply below_alloc | apply pw_below_drewN | apply below_drew1) | exact HB.out)))); have n1_ := Aside0.mk (below_step (by repeat (first | (with_reducible first | exact HB.out | apply below_alloc | apply pw_below_drewN | apply below_drew1) | exact HB.out)) hb); clear HB; have HO122 := n0_; have HB := n1_; clear n0_ n1_; clear hb ho26; have hcv27 := own_string (P := Try.prog) Try.underlying26 Try.underlying5 Try.underlying9 (Kd.own_of_R HO122.out)) | ((with_reducible refine gate_callee (f := 14) rfl ?_); refine goesL_ (some 17) rfl rfl Try.func14 (by kernel_rfl) rfl #[.string (strOfNums y120)] rfl (by (try simp only [List.map_toArray, List.map_cons, List.map_nil]); first | done | rfl | (simp only [List.length_drop, List.length_take]; rfl)) ?_; (with_reducible refine (Go.Proofs.Ytakbdknmfaoppaa.R.Hex.calls (strOfNums y120) t123 _ A8.out).mono ?_); rintro e w28 ⟨rfl, hb⟩; refine ⟨_, rfl, ?_⟩; have n0_ := Aside0.mk (Kd.R_below (by (with_reducible repeat (first | apply Kd.R_alloc | apply Kd.R_drewN | apply Kd.R_drew)); exact HO122.out) hb); have n1_ := Aside0.mk (below_step (by repeat (first | (with_reducible first | exact HB.out | apply below_alloc | apply pw_below_drewN | apply below_drew1) | exact HB.out)) hb); clear HO122; clear HB; have HO122 := n0_; have HB := n1_; clear n0_ n1_; (try clear hb); (try clear hb2); (try clear hk); (try clear hi)))
        go_ret
        exact ⟨by first | rfl | (simp [errW_none, errW_some] <;> rfl) | (simp [*, errW_none, errW_some] <;> rfl), by repeat (first | (with_reducible first | exact HB.out | apply below_alloc | apply pw_below_drewN | apply below_drew1) | exact HB.out)⟩
    · rw [if_neg c9] at H
      have c9b0 : ((t123.size : Int) == 2) = false := beq_eq_false_iff_ne.mpr c9
      have c9b1 : ((t123.size : Int) != 2) = true := bne_iff_ne.mpr c9
      obtain rfl := Option.some.inj H
      go_enter Try.func5, Try.ntmps5
      (try dsimp only [List.append])
      go_wp2_with (first | ((with_reducible refine gate_callee (f := 11) rfl ?_); refine goesL_ (some 7) rfl rfl Try.func11 (by kernel_rfl) rfl #[] rfl (by (try simp only [List.map_toArray, List.map_cons, List.map_nil]); first | done | rfl | (simp only [List.length_drop, List.length_take]; rfl)) ?_; (with_reducible refine (bailiwicklaw03_examples.calls  true _ A2.out).mono ?_); rintro e w29 ⟨rfl, hb⟩; refine ⟨_, rfl, ?_⟩; have n0_ := Aside0.mk (below_step (by repeat (first | (with_reducible first | exact HB.out | apply below_alloc | apply pw_below_drewN | apply below_drew1) | exact HB.out)) hb); clear HB; have HB := n0_; clear n0_; (try clear hb); (try clear hb2); (try clear hk); (try clear hi)) | ((with_reducible refine gate_callee (f := 12) rfl ?_); refine goesL_ (some 10) rfl rfl Try.func12 (by kernel_rfl) rfl #[.string (⟨#[]⟩ : ByteArray)] rfl (by (try simp only [List.map_toArray, List.map_cons, List.map_nil]); first | done | rfl | (simp only [List.length_drop, List.length_take]; rfl)) ?_; (with_reducible refine (Go.Proofs.Ytakbdknmfaoppaa.R.Sum.calls (⟨#[]⟩ : ByteArray) t116 _ A4.out).mono ?_); rintro e w30 ⟨rfl, hb⟩; refine ⟨_, rfl, ?_⟩; have n0_ := Aside0.mk (below_step (by repeat (first | (with_reducible first | exact HB.out | apply below_alloc | apply pw_below_drewN | apply below_drew1) | exact HB.out)) hb); clear HB; have HB := n0_; clear n0_; (try clear hb); (try clear hb2); (try clear hk); (try clear hi)) | ((with_reducible refine gate_callee (f := 14) rfl ?_); refine goesL_ (some 11) rfl rfl Try.func14 (by kernel_rfl) rfl #[.string t116] rfl (by (try simp only [List.map_toArray, List.map_cons, List.map_nil]); first | done | rfl | (simp only [List.length_drop, List.length_take]; rfl)) ?_; (with_reducible refine (Go.Proofs.Ytakbdknmfaoppaa.R.Hex.calls t116 t117 _ A5.out).mono ?_); rintro e w31 ⟨rfl, hb⟩; refine ⟨_, rfl, ?_⟩; have n0_ := Aside0.mk (below_step (by repeat (first | (with_reducible first | exact HB.out | apply below_alloc | apply pw_below_drewN | apply below_drew1) | exact HB.out)) hb); clear HB; have HB := n0_; clear n0_; (try clear hb); (try clear hb2); (try clear hk); (try clear hi)) | ((with_reducible refine gate_callee (f := 12) rfl ?_); refine goesL_ (some 12) rfl rfl Try.func12 (by kernel_rfl) rfl #[.string (⟨#[97, 98, 99, 100, 98, 99, 100, 101, 99, 100, 101, 102, 100, 101, 102, 103, 101, 102, 103, 104, 102, 103, 104, 105, 103, 104, 105, 106, 104, 105, 106, 107, 105, 106, 107, 108, 106, 107, 108, 109, 107, 108, 109, 110, 108, 109, 110, 111, 109, 110, 111, 112, 110, 111, 112, 113]⟩ : ByteArray)] rfl (by (try simp only [List.map_toArray, List.map_cons, List.map_nil]); first | done | rfl | (simp only [List.length_drop, List.length_take]; rfl)) ?_; (with_reducible refine (Go.Proofs.Ytakbdknmfaoppaa.R.Sum.calls (⟨#[97, 98, 99, 100, 98, 99, 100, 101, 99, 100, 101, 102, 100, 101, 102, 103, 101, 102, 103, 104, 102, 103, 104, 105, 103, 104, 105, 106, 104, 105, 106, 107, 105, 106, 107, 108, 106, 107, 108, 109, 107, 108, 109, 110, 108, 109, 110, 111, 109, 110, 111, 112, 110, 111, 112, 113]⟩ : ByteArray) t118 _ A6.out).mono ?_); rintro e w32 ⟨rfl, hb⟩; refine ⟨_, rfl, ?_⟩; have n0_ := Aside0.mk (below_step (by repeat (first | (with_reducible first | exact HB.out | apply below_alloc | apply pw_below_drewN | apply below_drew1) | exact HB.out)) hb); clear HB; have HB := n0_; clear n0_; (try clear hb); (try clear hb2); (try clear hk); (try clear hi)) | ((with_reducible refine gate_callee (f := 14) rfl ?_); refine goesL_ (some 13) rfl rfl Try.func14 (by kernel_rfl) rfl #[.string t118] rfl (by (try simp only [List.map_toArray, List.map_cons, List.map_nil]); first | done | rfl | (simp only [List.length_drop, List.length_take]; rfl)) ?_; (with_reducible refine (Go.Proofs.Ytakbdknmfaoppaa.R.Hex.calls t118 t119 _ A7.out).mono ?_); rintro e w33 ⟨rfl, hb⟩; refine ⟨_, rfl, ?_⟩; have n0_ := Aside0.mk (below_step (by repeat (first | (with_reducible first | exact HB.out | apply below_alloc | apply pw_below_drewN | apply below_drew1) | exact HB.out)) hb); clear HB; have HB := n0_; clear n0_; (try clear hb); (try clear hb2); (try clear hk); (try clear hi)) | ((with_reducible refine gate_dst (N := 15) rfl ?_); (try (refine gate_guard (by rfl) ?_; dsimp only)); refine Kd.R_lit (Kd.int .u8) _ 5 ?hg (N := 15) ?hd (xs := ([a0] : List Int)) (inner := [.int .u8 a0]) (ok := fun _ => True) (okp := fun _ => True) ?hr ?hp (fun _ hk => hk) trivial (Below.refl _ _) (Nat.le_refl _) (by simp) ?_; (case hd => rfl); (case hg => rfl); (case hr => first | (go_simp; done) | (go_simp; rfl)); (case hp => exact (Reps.one (show Kd.M (Kd.int .u8) _ _ _ a0 [.int .u8 a0] from rfl) (Reps.none _ _))); intro v121 w34 ho35 hb hg_ hnew_; clear hg_ hnew_; (first | rw [← Ny120.out] at ho35 | (simp only [Int.reduceToNat] at ho35; rw [← Ny120.out] at ho35)); have n0_ := Aside0.mk (Kd.R_lower ho35 (below_size (by repeat (first | (with_reducible first | exact HB.out | apply below_alloc | apply pw_below_drewN | apply below_drew1) | exact HB.out)))); have n1_ := Aside0.mk (below_step (by repeat (first | (with_reducible first | exact HB.out | apply below_alloc | apply pw_below_drewN | apply below_drew1) | exact HB.out)) hb); clear HB; have HO122 := n0_; have HB := n1_; clear n0_ n1_; clear hb ho35; have hcv36 := own_string (P := Try.prog) Try.underlying26 Try.underlying5 Try.underlying9 (Kd.own_of_R HO122.out)) | ((with_reducible refine gate_callee (f := 14) rfl ?_); refine goesL_ (some 17) rfl rfl Try.func14 (by kernel_rfl) rfl #[.string (strOfNums y120)] rfl (by (try simp only [List.map_toArray, List.map_cons, List.map_nil]); first | done | rfl | (simp only [List.length_drop, List.length_take]; rfl)) ?_; (with_reducible refine (Go.Proofs.Ytakbdknmfaoppaa.R.Hex.calls (strOfNums y120) t123 _ A8.out).mono ?_); rintro e w37 ⟨rfl, hb⟩; refine ⟨_, rfl, ?_⟩; have n0_ := Aside0.mk (Kd.R_below (by (with_reducible repeat (first | apply Kd.R_alloc | apply Kd.R_drewN | apply Kd.R_drew)); exact HO122.out) hb); have n1_ := Aside0.mk (below_step (by repeat (first | (with_reducible first | exact HB.out | apply below_alloc | apply pw_below_drewN | apply below_drew1) | exact HB.out)) hb); clear HO122; clear HB; have HO122 := n0_; have HB := n1_; clear n0_ n1_; (try clear hb); (try clear hb2); (try clear hk); (try clear hi)))
      go_ret
      exact ⟨by first | rfl | (simp [errW_none, errW_some] <;> rfl) | (simp [*, errW_none, errW_some] <;> rfl), by repeat (first | (with_reducible first | exact HB.out | apply below_alloc | apply pw_below_drewN | apply below_drew1) | exact HB.out)⟩
  · replace c3 := Bool.eq_false_iff.mpr c3
    subst c3
    have H1 : (some false) = some r := by rw [if_neg (show ¬ (false = true) by decide)] at H; exact H
    clear H
    have H := H1
    clear H1
    obtain rfl := Option.some.inj H
    go_enter Try.func5, Try.ntmps5
    (try dsimp only [List.append])
    go_wp2_with (first | ((with_reducible refine gate_callee (f := 11) rfl ?_); refine goesL_ (some 7) rfl rfl Try.func11 (by kernel_rfl) rfl #[] rfl (by (try simp only [List.map_toArray, List.map_cons, List.map_nil]); first | done | rfl | (simp only [List.length_drop, List.length_take]; rfl)) ?_; (with_reducible refine (bailiwicklaw03_examples.calls  false _ A2.out).mono ?_); rintro e w38 ⟨rfl, hb⟩; refine ⟨_, rfl, ?_⟩; have n0_ := Aside0.mk (below_step (by repeat (first | (with_reducible first | exact HB.out | apply below_alloc | apply pw_below_drewN | apply below_drew1) | exact HB.out)) hb); clear HB; have HB := n0_; clear n0_; (try clear hb); (try clear hb2); (try clear hk); (try clear hi)))
    go_ret
    exact ⟨by first | rfl | (simp [errW_none, errW_some] <;> rfl) | (simp [*, errW_none, errW_some] <;> rfl), by repeat (first | (with_reducible first | exact HB.out | apply below_alloc | apply pw_below_drewN | apply below_drew1) | exact HB.out)⟩

/-- THE ONE PURE STATEMENT of bailiwicklaw03_ShaKnown: yours. -/
def bailiwicklaw03_ShaKnown.Pure : Prop := ∀ (a0 : Int), (Lit.int .u8 a0).wf = true → bailiwicklaw03_ShaKnown.f a0 = some true
theorem bailiwicklaw03_ShaKnown.walk (P : bailiwicklaw03_ShaKnown.Pure) (a0 : Int) (w : World) (w0 : (Lit.int .u8 a0).wf = true) :
    Calls Try.prog 5 #[.int .u8 a0] w fun e w' => e = .returned (.bool true) ∧ Below w.heap.size w w' := by
  have h := P a0 w0
  refine (bailiwicklaw03_ShaKnown.calls a0 true w h).mono ?_
  rintro e w' ⟨rfl, hd⟩
  exact ⟨rfl, hd⟩

/-! ### bailiwicklaw03_ShaDigits: function 6 -/
def bailiwicklaw03_ShaDigits.f (a0 : ByteArray) (a1 : ByteArray) (a2 : Int) : Option (Bool) := (bailiwicklaw03_examples.f).bind fun t124 => (if t124 = true then (if 0 ≤ (mn (a0.size : Int) 200) then (if (mn (a0.size : Int) 200) ≤ (a0.size : Int) then (if 0 ≤ (mn (a1.size : Int) 200) then (if (mn (a1.size : Int) 200) ≤ (a1.size : Int) then (if 0 ≤ (wrap64 (a2)) then (if (wrap64 (a2) : Int).toNat ≤ 281474976710656 then (if (a0.extract 0 ((mn (a0.size : Int) 200) : Int).toNat).size + (a1.extract 0 ((mn (a1.size : Int) 200) : Int).toNat).size ≤ 9223372036854775807 then ((Go.Proofs.Ytakbdknmfaoppaa.R.Hex.f ((a0.extract 0 ((mn (a0.size : Int) 200) : Int).toNat) ++ (a1.extract 0 ((mn (a1.size : Int) 200) : Int).toNat))).bind fun t128 => ((Go.Proofs.Ytakbdknmfaoppaa.R.Hex.f (a0.extract 0 ((mn (a0.size : Int) 200) : Int).toNat)).bind fun t129 => ((Go.Proofs.Ytakbdknmfaoppaa.R.Hex.f (a1.extract 0 ((mn (a1.size : Int) 200) : Int).toNat)).bind fun t130 => (if t129.size + t130.size ≤ 9223372036854775807 then (if t128.toList = (t129 ++ t130).toList then ((Go.Proofs.Ytakbdknmfaoppaa.R.Sum.f (a0.extract 0 ((mn (a0.size : Int) 200) : Int).toNat)).bind fun t131 => ((Go.Proofs.Ytakbdknmfaoppaa.R.Hex.f t131).bind fun t132 => (if (t132.size : Int) = 64 then ((Go.Proofs.Ytakbdknmfaoppaa.R.Sum.f (strOfNums (List.replicate (wrap64 (a2) : Int).toNat 0))).bind fun t133 => (some ((t133.size : Int) == 32))) else (some false)))) else (some false)) else (none))))) else (none)) else (none)) else (none)) else (none)) else (none)) else (none)) else (none)) else (some false))
set_option maxHeartbeats 8000000 in
set_option maxRecDepth 100000 in
theorem bailiwicklaw03_ShaDigits.calls (a0 : ByteArray) (a1 : ByteArray) (a2 : Int) (r : Bool) (w : World) (h : bailiwicklaw03_ShaDigits.f a0 a1 a2 = some r) :
    Calls Try.prog 6 #[.string a0, .string a1, .int .u8 a2] w fun e w' => e = .returned (.bool r) ∧ Below w.heap.size w w' := by
  have HB := Aside0.mk (Below.refl w.heap.size w)
  have H : ((bailiwicklaw03_examples.f).bind fun t124 => (if t124 = true then (if 0 ≤ (mn (a0.size : Int) 200) then (if (mn (a0.size : Int) 200) ≤ (a0.size : Int) then (if 0 ≤ (mn (a1.size : Int) 200) then (if (mn (a1.size : Int) 200) ≤ (a1.size : Int) then (if 0 ≤ (wrap64 (a2)) then (if (wrap64 (a2) : Int).toNat ≤ 281474976710656 then (if (a0.extract 0 ((mn (a0.size : Int) 200) : Int).toNat).size + (a1.extract 0 ((mn (a1.size : Int) 200) : Int).toNat).size ≤ 9223372036854775807 then ((Go.Proofs.Ytakbdknmfaoppaa.R.Hex.f ((a0.extract 0 ((mn (a0.size : Int) 200) : Int).toNat) ++ (a1.extract 0 ((mn (a1.size : Int) 200) : Int).toNat))).bind fun t128 => ((Go.Proofs.Ytakbdknmfaoppaa.R.Hex.f (a0.extract 0 ((mn (a0.size : Int) 200) : Int).toNat)).bind fun t129 => ((Go.Proofs.Ytakbdknmfaoppaa.R.Hex.f (a1.extract 0 ((mn (a1.size : Int) 200) : Int).toNat)).bind fun t130 => (if t129.size + t130.size ≤ 9223372036854775807 then (if t128.toList = (t129 ++ t130).toList then ((Go.Proofs.Ytakbdknmfaoppaa.R.Sum.f (a0.extract 0 ((mn (a0.size : Int) 200) : Int).toNat)).bind fun t131 => ((Go.Proofs.Ytakbdknmfaoppaa.R.Hex.f t131).bind fun t132 => (if (t132.size : Int) = 64 then ((Go.Proofs.Ytakbdknmfaoppaa.R.Sum.f (strOfNums (List.replicate (wrap64 (a2) : Int).toNat 0))).bind fun t133 => (some ((t133.size : Int) == 32))) else (some false)))) else (some false)) else (none))))) else (none)) else (none)) else (none)) else (none)) else (none)) else (none)) else (none)) else (some false))) = some r := h
  clear h
  replace H := Option.bind_eq_some_iff.mp H
  obtain ⟨t124, A40, H⟩ := H
  replace H : (if t124 = true then (if 0 ≤ (mn (a0.size : Int) 200) then (if (mn (a0.size : Int) 200) ≤ (a0.size : Int) then (if 0 ≤ (mn (a1.size : Int) 200) then (if (mn (a1.size : Int) 200) ≤ (a1.size : Int) then (if 0 ≤ (wrap64 (a2)) then (if (wrap64 (a2) : Int).toNat ≤ 281474976710656 then (if (a0.extract 0 ((mn (a0.size : Int) 200) : Int).toNat).size + (a1.extract 0 ((mn (a1.size : Int) 200) : Int).toNat).size ≤ 9223372036854775807 then ((Go.Proofs.Ytakbdknmfaoppaa.R.Hex.f ((a0.extract 0 ((mn (a0.size : Int) 200) : Int).toNat) ++ (a1.extract 0 ((mn (a1.size : Int) 200) : Int).toNat))).bind fun t128 => ((Go.Proofs.Ytakbdknmfaoppaa.R.Hex.f (a0.extract 0 ((mn (a0.size : Int) 200) : Int).toNat)).bind fun t129 => ((Go.Proofs.Ytakbdknmfaoppaa.R.Hex.f (a1.extract 0 ((mn (a1.size : Int) 200) : Int).toNat)).bind fun t130 => (if t129.size + t130.size ≤ 9223372036854775807 then (if t128.toList = (t129 ++ t130).toList then ((Go.Proofs.Ytakbdknmfaoppaa.R.Sum.f (a0.extract 0 ((mn (a0.size : Int) 200) : Int).toNat)).bind fun t131 => ((Go.Proofs.Ytakbdknmfaoppaa.R.Hex.f t131).bind fun t132 => (if (t132.size : Int) = 64 then ((Go.Proofs.Ytakbdknmfaoppaa.R.Sum.f (strOfNums (List.replicate (wrap64 (a2) : Int).toNat 0))).bind fun t133 => (some ((t133.size : Int) == 32))) else (some false)))) else (some false)) else (none))))) else (none)) else (none)) else (none)) else (none)) else (none)) else (none)) else (none)) else (some false)) = some r := H
  have A4 := Aside0.mk A40
  clear A40
  by_cases c5 : t124 = true
  · subst c5
    have H1 : (if 0 ≤ (mn (a0.size : Int) 200) then (if (mn (a0.size : Int) 200) ≤ (a0.size : Int) then (if 0 ≤ (mn (a1.size : Int) 200) then (if (mn (a1.size : Int) 200) ≤ (a1.size : Int) then (if 0 ≤ (wrap64 (a2)) then (if (wrap64 (a2) : Int).toNat ≤ 281474976710656 then (if (a0.extract 0 ((mn (a0.size : Int) 200) : Int).toNat).size + (a1.extract 0 ((mn (a1.size : Int) 200) : Int).toNat).size ≤ 9223372036854775807 then ((Go.Proofs.Ytakbdknmfaoppaa.R.Hex.f ((a0.extract 0 ((mn (a0.size : Int) 200) : Int).toNat) ++ (a1.extract 0 ((mn (a1.size : Int) 200) : Int).toNat))).bind fun t128 => ((Go.Proofs.Ytakbdknmfaoppaa.R.Hex.f (a0.extract 0 ((mn (a0.size : Int) 200) : Int).toNat)).bind fun t129 => ((Go.Proofs.Ytakbdknmfaoppaa.R.Hex.f (a1.extract 0 ((mn (a1.size : Int) 200) : Int).toNat)).bind fun t130 => (if t129.size + t130.size ≤ 9223372036854775807 then (if t128.toList = (t129 ++ t130).toList then ((Go.Proofs.Ytakbdknmfaoppaa.R.Sum.f (a0.extract 0 ((mn (a0.size : Int) 200) : Int).toNat)).bind fun t131 => ((Go.Proofs.Ytakbdknmfaoppaa.R.Hex.f t131).bind fun t132 => (if (t132.size : Int) = 64 then ((Go.Proofs.Ytakbdknmfaoppaa.R.Sum.f (strOfNums (List.replicate (wrap64 (a2) : Int).toNat 0))).bind fun t133 => (some ((t133.size : Int) == 32))) else (some false)))) else (some false)) else (none))))) else (none)) else (none)) else (none)) else (none)) else (none)) else (none)) else (none)) = some r := by rw [if_pos rfl] at H; exact H
    clear H
    have H := H1
    clear H1
    obtain ⟨ji6, hji6⟩ : ∃ j_ : Int, (mn (a0.size : Int) 200) = j_ := ⟨_, rfl⟩
    replace H : (if 0 ≤ (ji6) then (if (ji6) ≤ (a0.size : Int) then (if 0 ≤ (mn (a1.size : Int) 200) then (if (mn (a1.size : Int) 200) ≤ (a1.size : Int) then (if 0 ≤ (wrap64 (a2)) then (if (wrap64 (a2) : Int).toNat ≤ 281474976710656 then (if (a0.extract 0 ((ji6) : Int).toNat).size + (a1.extract 0 ((mn (a1.size : Int) 200) : Int).toNat).size ≤ 9223372036854775807 then ((Go.Proofs.Ytakbdknmfaoppaa.R.Hex.f ((a0.extract 0 ((ji6) : Int).toNat) ++ (a1.extract 0 ((mn (a1.size : Int) 200) : Int).toNat))).bind fun t128 => ((Go.Proofs.Ytakbdknmfaoppaa.R.Hex.f (a0.extract 0 ((ji6) : Int).toNat)).bind fun t129 => ((Go.Proofs.Ytakbdknmfaoppaa.R.Hex.f (a1.extract 0 ((mn (a1.size : Int) 200) : Int).toNat)).bind fun t130 => (if t129.size + t130.size ≤ 9223372036854775807 then (if t128.toList = (t129 ++ t130).toList then ((Go.Proofs.Ytakbdknmfaoppaa.R.Sum.f (a0.extract 0 ((ji6) : Int).toNat)).bind fun t131 => ((Go.Proofs.Ytakbdknmfaoppaa.R.Hex.f t131).bind fun t132 => (if (t132.size : Int) = 64 then ((Go.Proofs.Ytakbdknmfaoppaa.R.Sum.f (strOfNums (List.replicate (wrap64 (a2) : Int).toNat 0))).bind fun t133 => (some ((t133.size : Int) == 32))) else (some false)))) else (some false)) else (none))))) else (none)) else (none)) else (none)) else (none)) else (none)) else (none)) else (none)) = some r := by first | (rw [hji6] at H; exact H) | (simp only [hji6] at H ⊢; exact H)
    (try rw [hji6] at A4)
    (try (have hji6h : ji6 ≤ 200 := by (rw [← hji6]; unfold mn; (repeat' split) <;> omega)))
    (try (have hji6g : ji6 ≤ 64 := by omega))
    (try (have hji6l : 0 ≤ ji6 := by (rw [← hji6]; unfold mn; (repeat' split) <;> omega)))
    (try (have hji6m : 0 ≤ ji6 := by omega))
    have hji6_ : (if 200 < (a0.size : Int) then 200 else (a0.size : Int)) = ji6 := hji6
    obtain ⟨bx6_a0, hbx6_a0⟩ : ∃ b_ : ByteArray, (a0.extract 0 (ji6 : Int).toNat) = b_ := ⟨_, rfl⟩
    have hbx6_a0z : bx6_a0.size ≤ 200 := by rw [← hbx6_a0, ByteArray.size_extract]; omega
    simp only [hbx6_a0] at H
    by_cases c7 : 0 ≤ (ji6)
    · rw [if_pos c7] at H
      have c7b0 := eq_true c7
      have c7b1 : decide (0 ≤ (ji6)) = true := decide_eq_true c7
      clear c7
      by_cases c8 : (ji6) ≤ (a0.size : Int)
      · rw [if_pos c8] at H
        have c8b0 := eq_true c8
        have c8b1 : decide ((ji6) ≤ (a0.size : Int)) = true := decide_eq_true c8
        clear c8
        obtain ⟨ji9, hji9⟩ : ∃ j_ : Int, (mn (a1.size : Int) 200) = j_ := ⟨_, rfl⟩
        replace H : (if 0 ≤ (ji9) then (if (ji9) ≤ (a1.size : Int) then (if 0 ≤ (wrap64 (a2)) then (if (wrap64 (a2) : Int).toNat ≤ 281474976710656 then (if bx6_a0.size + (a1.extract 0 ((ji9) : Int).toNat).size ≤ 9223372036854775807 then ((Go.Proofs.Ytakbdknmfaoppaa.R.Hex.f (bx6_a0 ++ (a1.extract 0 ((ji9) : Int).toNat))).bind fun t128 => ((Go.Proofs.Ytakbdknmfaoppaa.R.Hex.f bx6_a0).bind fun t129 => ((Go.Proofs.Ytakbdknmfaoppaa.R.Hex.f (a1.extract 0 ((ji9) : Int).toNat)).bind fun t130 => (if t129.size + t130.size ≤ 9223372036854775807 then (if t128.toList = (t129 ++ t130).toList then ((Go.Proofs.Ytakbdknmfaoppaa.R.Sum.f bx6_a0).bind fun t131 => ((Go.Proofs.Ytakbdknmfaoppaa.R.Hex.f t131).bind fun t132 => (if (t132.size : Int) = 64 then ((Go.Proofs.Ytakbdknmfaoppaa.R.Sum.f (strOfNums (List.replicate (wrap64 (a2) : Int).toNat 0))).bind fun t133 => (some ((t133.size : Int) == 32))) else (some false)))) else (some false)) else (none))))) else (none)) else (none)) else (none)) else (none)) else (none)) = some r := by first | (rw [hji9] at H; exact H) | (simp only [hji9] at H ⊢; exact H)
        (try rw [hji9] at A4)
        (try (have hji9h : ji9 ≤ 200 := by (rw [← hji9]; unfold mn; (repeat' split) <;> omega)))
        (try (have hji9g : ji9 ≤ 64 := by omega))
        (try (have hji9l : 0 ≤ ji9 := by (rw [← hji9]; unfold mn; (repeat' split) <;> omega)))
        (try (have hji9m : 0 ≤ ji9 := by omega))
        have hji9_ : (if 200 < (a1.size : Int) then 200 else (a1.size : Int)) = ji9 := hji9
        obtain ⟨bx9_a1, hbx9_a1⟩ : ∃ b_ : ByteArray, (a1.extract 0 (ji9 : Int).toNat) = b_ := ⟨_, rfl⟩
        have hbx9_a1z : bx9_a1.size ≤ 200 := by rw [← hbx9_a1, ByteArray.size_extract]; omega
        simp only [hbx9_a1] at H
        by_cases c10 : 0 ≤ (ji9)
        · rw [if_pos c10] at H
          have c10b0 := eq_true c10
          have c10b1 : decide (0 ≤ (ji9)) = true := decide_eq_true c10
          clear c10
          by_cases c11 : (ji9) ≤ (a1.size : Int)
          · rw [if_pos c11] at H
            have c11b0 := eq_true c11
            have c11b1 : decide ((ji9) ≤ (a1.size : Int)) = true := decide_eq_true c11
            clear c11
            obtain ⟨ji12, hji12⟩ : ∃ j_ : Int, (wrap64 (a2)) = j_ := ⟨_, rfl⟩
            replace H : (if 0 ≤ (ji12) then (if (ji12 : Int).toNat ≤ 281474976710656 then (if bx6_a0.size + bx9_a1.size ≤ 9223372036854775807 then ((Go.Proofs.Ytakbdknmfaoppaa.R.Hex.f (bx6_a0 ++ bx9_a1)).bind fun t128 => ((Go.Proofs.Ytakbdknmfaoppaa.R.Hex.f bx6_a0).bind fun t129 => ((Go.Proofs.Ytakbdknmfaoppaa.R.Hex.f bx9_a1).bind fun t130 => (if t129.size + t130.size ≤ 9223372036854775807 then (if t128.toList = (t129 ++ t130).toList then ((Go.Proofs.Ytakbdknmfaoppaa.R.Sum.f bx6_a0).bind fun t131 => ((Go.Proofs.Ytakbdknmfaoppaa.R.Hex.f t131).bind fun t132 => (if (t132.size : Int) = 64 then ((Go.Proofs.Ytakbdknmfaoppaa.R.Sum.f (strOfNums (List.replicate (ji12 : Int).toNat 0))).bind fun t133 => (some ((t133.size : Int) == 32))) else (some false)))) else (some false)) else (none))))) else (none)) else (none)) else (none)) = some r := by first | (rw [hji12] at H; exact H) | (simp only [hji12] at H ⊢; exact H)
            (try rw [hji12] at A4)
            have hji12w : (IntKind.i64.wrap (a2)) = ji12 := (i64_w _).trans hji12
            by_cases c13 : 0 ≤ (ji12)
            · rw [if_pos c13] at H
              have c13b0 := eq_true c13
              have c13b1 : decide (0 ≤ (ji12)) = true := decide_eq_true c13
              clear c13
              by_cases c14 : (ji12 : Int).toNat ≤ 281474976710656
              · rw [if_pos c14] at H
                have c14b0 := eq_true c14
                have c14b1 : decide ((ji12 : Int).toNat ≤ 281474976710656) = true := decide_eq_true c14
                clear c14
                obtain ⟨y125, hy125⟩ : ∃ y_ : List Int, y_ = (List.replicate (ji12 : Int).toNat 0) := ⟨_, rfl⟩
                replace H : (if bx6_a0.size + bx9_a1.size ≤ 9223372036854775807 then ((Go.Proofs.Ytakbdknmfaoppaa.R.Hex.f (bx6_a0 ++ bx9_a1)).bind fun t128 => ((Go.Proofs.Ytakbdknmfaoppaa.R.Hex.f bx6_a0).bind fun t129 => ((Go.Proofs.Ytakbdknmfaoppaa.R.Hex.f bx9_a1).bind fun t130 => (if t129.size + t130.size ≤ 9223372036854775807 then (if t128.toList = (t129 ++ t130).toList then ((Go.Proofs.Ytakbdknmfaoppaa.R.Sum.f bx6_a0).bind fun t131 => ((Go.Proofs.Ytakbdknmfaoppaa.R.Hex.f t131).bind fun t132 => (if (t132.size : Int) = 64 then ((Go.Proofs.Ytakbdknmfaoppaa.R.Sum.f (strOfNums y125)).bind fun t133 => (some ((t133.size : Int) == 32))) else (some false)))) else (some false)) else (none))))) else (none)) = some r := by first | (rw [hy125]; with_reducible exact H) | (have H2_ := (Option.bind_some _ _).symm.trans H; rw [hy125]; with_reducible exact H2_) | (have H2_ := (Option.bind_some _ _).symm.trans H; with_reducible exact H2_) | with_reducible exact H | (rw [hy125]; exact H) | exact H
                have Ny125 := Aside0.mk hy125
                clear hy125
                by_cases c15 : bx6_a0.size + bx9_a1.size ≤ 9223372036854775807
                · rw [if_pos c15] at H
                  have c15b0 := eq_true c15
                  have c15b1 : decide (bx6_a0.size + bx9_a1.size ≤ 9223372036854775807) = true := decide_eq_true c15
                  try have c15b2 : (9223372036854775807 < bx6_a0.size + bx9_a1.size) = False := eq_false (Nat.not_lt.2 c15)
                  replace H := Option.bind_eq_some_iff.mp H
                  obtain ⟨t128, A160, H⟩ := H
                  replace H : ((Go.Proofs.Ytakbdknmfaoppaa.R.Hex.f bx6_a0).bind fun t129 => ((Go.Proofs.Ytakbdknmfaoppaa.R.Hex.f bx9_a1).bind fun t130 => (if t129.size + t130.size ≤ 9223372036854775807 then (if t128.toList = (t129 ++ t130).toList then ((Go.Proofs.Ytakbdknmfaoppaa.R.Sum.f bx6_a0).bind fun t131 => ((Go.Proofs.Ytakbdknmfaoppaa.R.Hex.f t131).bind fun t132 => (if (t132.size : Int) = 64 then ((Go.Proofs.Ytakbdknmfaoppaa.R.Sum.f (strOfNums y125)).bind fun t133 => (some ((t133.size : Int) == 32))) else (some false)))) else (some false)) else (none)))) = some r := H
                  have A16 := Aside0.mk A160
                  clear A160
                  replace H := Option.bind_eq_some_iff.mp H
                  obtain ⟨t129, A170, H⟩ := H
                  replace H : ((Go.Proofs.Ytakbdknmfaoppaa.R.Hex.f bx9_a1).bind fun t130 => (if t129.size + t130.size ≤ 9223372036854775807 then (if t128.toList = (t129 ++ t130).toList then ((Go.Proofs.Ytakbdknmfaoppaa.R.Sum.f bx6_a0).bind fun t131 => ((Go.Proofs.Ytakbdknmfaoppaa.R.Hex.f t131).bind fun t132 => (if (t132.size : Int) = 64 then ((Go.Proofs.Ytakbdknmfaoppaa.R.Sum.f (strOfNums y125)).bind fun t133 => (some ((t133.size : Int) == 32))) else (some false)))) else (some false)) else (none))) = some r := H
                  have A17 := Aside0.mk A170
                  clear A170
                  replace H := Option.bind_eq_some_iff.mp H
                  obtain ⟨t130, A180, H⟩ := H
                  replace H : (if t129.size + t130.size ≤ 9223372036854775807 then (if t128.toList = (t129 ++ t130).toList then ((Go.Proofs.Ytakbdknmfaoppaa.R.Sum.f bx6_a0).bind fun t131 => ((Go.Proofs.Ytakbdknmfaoppaa.R.Hex.f t131).bind fun t132 => (if (t132.size : Int) = 64 then ((Go.Proofs.Ytakbdknmfaoppaa.R.Sum.f (strOfNums y125)).bind fun t133 => (some ((t133.size : Int) == 32))) else (some false)))) else (some false)) else (none)) = some r := H
                  have A18 := Aside0.mk A180
                  clear A180
                  by_cases c19 : t129.size + t130.size ≤ 9223372036854775807
                  · rw [if_pos c19] at H
                    have c19b0 := eq_true c19
                    have c19b1 : decide (t129.size + t130.size ≤ 9223372036854775807) = true := decide_eq_true c19
                    try have c19b2 : (9223372036854775807 < t129.size + t130.size) = False := eq_false (Nat.not_lt.2 c19)
                    by_cases c20 : t128.toList = (t129 ++ t130).toList
                    · rw [if_pos c20] at H
                      have c20b0 : (t128.toList == (t129 ++ t130).toList) = true := beq_iff_eq.mpr c20
                      have c20b1 : (t128.toList != (t129 ++ t130).toList) = false := bne_eq_false_iff_eq.mpr c20
                      clear c20
                      replace H := Option.bind_eq_some_iff.mp H
                      obtain ⟨t131, A210, H⟩ := H
                      replace H : ((Go.Proofs.Ytakbdknmfaoppaa.R.Hex.f t131).bind fun t132 => (if (t132.size : Int) = 64 then ((Go.Proofs.Ytakbdknmfaoppaa.R.Sum.f (strOfNums y125)).bind fun t133 => (some ((t133.size : Int) == 32))) else (some false))) = some r := H
                      have A21 := Aside0.mk A210
                      clear A210
                      replace H := Option.bind_eq_some_iff.mp H
                      obtain ⟨t132, A220, H⟩ := H
                      replace H : (if (t132.size : Int) = 64 then ((Go.Proofs.Ytakbdknmfaoppaa.R.Sum.f (strOfNums y125)).bind fun t133 => (some ((t133.size : Int) == 32))) else (some false)) = some r := H
                      have A22 := Aside0.mk A220
                      clear A220
                      by_cases c23 : (t132.size : Int) = 64
                      · rw [if_pos c23] at H
                        have c23b0 : ((t132.size : Int) == 64) = true := beq_iff_eq.mpr c23
                        have c23b1 : ((t132.size : Int) != 64) = false := bne_eq_false_iff_eq.mpr c23
                        clear c23
                        replace H := Option.bind_eq_some_iff.mp H
                        obtain ⟨t133, A240, H⟩ := H
                        replace H : (some ((t133.size : Int) == 32)) = some r := H
                        have A24 := Aside0.mk A240
                        clear A240
                        obtain rfl := Option.some.inj H
                        go_enter Try.func6, Try.ntmps6
                        (try dsimp only [List.append])
                        go_wp2_with (first | ((with_reducible refine gate_callee (f := 11) rfl ?_); refine goesL_ (some 9) rfl rfl Try.func11 (by kernel_rfl) rfl #[] rfl (by (try simp only [List.map_toArray, List.map_cons, List.map_nil]); first | done | rfl | (simp only [List.length_drop, List.length_take]; rfl)) ?_; (with_reducible refine (bailiwicklaw03_examples.calls  true _ A4.out).mono ?_); rintro e w25 ⟨rfl, hb⟩; refine ⟨_, rfl, ?_⟩; have n0_ := Aside0.mk (below_step (by repeat (first | (with_reducible first | exact HB.out | apply below_alloc | apply pw_below_drewN | apply below_drew1) | exact HB.out)) hb); clear HB; have HB := n0_; clear n0_; (try clear hb); (try clear hb2); (try clear hk); (try clear hi)) | ((with_reducible refine gate_dst (N := 24) rfl ?_); (try (refine gate_guard (by rfl) ?_; dsimp only)); refine Kd.R_make (Kd.int .u8) _ 5 rfl (N := 24) rfl 26 _ _ rfl ji12 rfl rfl Try.underlying26 (.int .u8 0) 1 info5 rfl (by decide) (by omega) 0 (ok := fun _ => True) (okp := fun _ => True) rfl (fun _ hk => hk) trivial (of_decide_eq_true (by first | (with_reducible assumption) | assumption)) (Nat.le_trans (Nat.mul_le_mul_right _ (of_decide_eq_true (by first | (with_reducible assumption) | assumption) : ji12.toNat ≤ 281474976710656)) (by omega)) (Below.refl _ _) (Nat.le_refl _) ?_; intro v126 w26 ho27 hb hg_ hnew_; clear hg_ hnew_; (first | rw [← Ny125.out] at ho27 | (simp only [Int.reduceToNat] at ho27; rw [← Ny125.out] at ho27)); have n0_ := Aside0.mk (Kd.R_lower ho27 (below_size (by repeat (first | (with_reducible first | exact HB.out | apply below_alloc | apply pw_below_drewN | apply below_drew1) | exact HB.out)))); have n1_ := Aside0.mk (below_step (by repeat (first | (with_reducible first | exact HB.out | apply below_alloc | apply pw_below_drewN | apply below_drew1) | exact HB.out)) hb); clear HB; have HO127 := n0_; have HB := n1_; clear n0_ n1_; clear hb ho27; have hcv28 := own_string (P := Try.prog) Try.underlying26 Try.underlying5 Try.underlying9 (Kd.own_of_R HO127.out)) | (go_at_call 14; (with_reducible refine (Go.Proofs.Ytakbdknmfaoppaa.R.Hex.calls (bx6_a0 ++ bx9_a1) t128 _ A16.out).mono ?_); rintro e w29 ⟨rfl, hb⟩; have n0_ := Aside0.mk (Kd.R_below (by (with_reducible repeat (first | apply Kd.R_alloc | apply Kd.R_drewN | apply Kd.R_drew)); exact HO127.out) hb); have n1_ := Aside0.mk (below_step (by repeat (first | (with_reducible first | exact HB.out | apply below_alloc | apply pw_below_drewN | apply below_drew1) | exact HB.out)) hb); clear HO127; clear HB; have HO127 := n0_; have HB := n1_; clear n0_ n1_; (try clear hb); (try clear hb2); (try clear hk); (try clear hi)) | (go_at_call 14; (with_reducible refine (Go.Proofs.Ytakbdknmfaoppaa.R.Hex.calls bx6_a0 t129 _ A17.out).mono ?_); rintro e w30 ⟨rfl, hb⟩; have n0_ := Aside0.mk (Kd.R_below (by (with_reducible repeat (first | apply Kd.R_alloc | apply Kd.R_drewN | apply Kd.R_drew)); exact HO127.out) hb); have n1_ := Aside0.mk (below_step (by repeat (first | (with_reducible first | exact HB.out | apply below_alloc | apply pw_below_drewN | apply below_drew1) | exact HB.out)) hb); clear HO127; clear HB; have HO127 := n0_; have HB := n1_; clear n0_ n1_; (try clear hb); (try clear hb2); (try clear hk); (try clear hi)) | (go_at_call 14; (with_reducible refine (Go.Proofs.Ytakbdknmfaoppaa.R.Hex.calls bx9_a1 t130 _ A18.out).mono ?_); rintro e w31 ⟨rfl, hb⟩; have n0_ := Aside0.mk (Kd.R_below (by (with_reducible repeat (first | apply Kd.R_alloc | apply Kd.R_drewN | apply Kd.R_drew)); exact HO127.out) hb); have n1_ := Aside0.mk (below_step (by repeat (first | (with_reducible first | exact HB.out | apply below_alloc | apply pw_below_drewN | apply below_drew1) | exact HB.out)) hb); clear HO127; clear HB; have HO127 := n0_; have HB := n1_; clear n0_ n1_; (try clear hb); (try clear hb2); (try clear hk); (try clear hi)) | (go_at_call 12; (with_reducible refine (Go.Proofs.Ytakbdknmfaoppaa.R.Sum.calls bx6_a0 t131 _ A21.out).mono ?_); rintro e w32 ⟨rfl, hb⟩; have n0_ := Aside0.mk (Kd.R_below (by (with_reducible repeat (first | apply Kd.R_alloc | apply Kd.R_drewN | apply Kd.R_drew)); exact HO127.out) hb); have n1_ := Aside0.mk (below_step (by repeat (first | (with_reducible first | exact HB.out | apply below_alloc | apply pw_below_drewN | apply below_drew1) | exact HB.out)) hb); clear HO127; clear HB; have HO127 := n0_; have HB := n1_; clear n0_ n1_; (try clear hb); (try clear hb2); (try clear hk); (try clear hi)) | (go_at_call 14; (with_reducible refine (Go.Proofs.Ytakbdknmfaoppaa.R.Hex.calls t131 t132 _ A22.out).mono ?_); rintro e w33 ⟨rfl, hb⟩; have n0_ := Aside0.mk (Kd.R_below (by (with_reducible repeat (first | apply Kd.R_alloc | apply Kd.R_drewN | apply Kd.R_drew)); exact HO127.out) hb); have n1_ := Aside0.mk (below_step (by repeat (first | (with_reducible first | exact HB.out | apply below_alloc | apply pw_below_drewN | apply below_drew1) | exact HB.out)) hb); clear HO127; clear HB; have HO127 := n0_; have HB := n1_; clear n0_ n1_; (try clear hb); (try clear hb2); (try clear hk); (try clear hi)) | (go_at_call 12; (with_reducible refine (Go.Proofs.Ytakbdknmfaoppaa.R.Sum.calls (strOfNums y125) t133 _ A24.out).mono ?_); rintro e w34 ⟨rfl, hb⟩; have n0_ := Aside0.mk (Kd.R_below (by (with_reducible repeat (first | apply Kd.R_alloc | apply Kd.R_drewN | apply Kd.R_drew)); exact HO127.out) hb); have n1_ := Aside0.mk (below_step (by repeat (first | (with_reducible first | exact HB.out | apply below_alloc | apply pw_below_drewN | apply below_drew1) | exact HB.out)) hb); clear HO127; clear HB; have HO127 := n0_; have HB := n1_; clear n0_ n1_; (try clear hb); (try clear hb2); (try clear hk); (try clear hi)))
                        go_ret
                        exact ⟨by first | rfl | (simp [errW_none, errW_some] <;> rfl) | (simp only [← hji6, ← hji9, ← hji12]; first | rfl | (simp [errW_none, errW_some] <;> rfl)) | (simp [*, errW_none, errW_some] <;> rfl), by repeat (first | (with_reducible first | exact HB.out | apply below_alloc | apply pw_below_drewN | apply below_drew1) | exact HB.out)⟩
                      · rw [if_neg c23] at H
                        have c23b0 : ((t132.size : Int) == 64) = false := beq_eq_false_iff_ne.mpr c23
                        have c23b1 : ((t132.size : Int) != 64) = true := bne_iff_ne.mpr c23
                        obtain rfl := Option.some.inj H
                        go_enter Try.func6, Try.ntmps6
                        (try dsimp only [List.append])
                        go_wp2_with (first | ((with_reducible refine gate_callee (f := 11) rfl ?_); refine goesL_ (some 9) rfl rfl Try.func11 (by kernel_rfl) rfl #[] rfl (by (try simp only [List.map_toArray, List.map_cons, List.map_nil]); first | done | rfl | (simp only [List.length_drop, List.length_take]; rfl)) ?_; (with_reducible refine (bailiwicklaw03_examples.calls  true _ A4.out).mono ?_); rintro e w35 ⟨rfl, hb⟩; refine ⟨_, rfl, ?_⟩; have n0_ := Aside0.mk (below_step (by repeat (first | (with_reducible first | exact HB.out | apply below_alloc | apply pw_below_drewN | apply below_drew1) | exact HB.out)) hb); clear HB; have HB := n0_; clear n0_; (try clear hb); (try clear hb2); (try clear hk); (try clear hi)) | ((with_reducible refine gate_dst (N := 24) rfl ?_); (try (refine gate_guard (by rfl) ?_; dsimp only)); refine Kd.R_make (Kd.int .u8) _ 5 rfl (N := 24) rfl 26 _ _ rfl ji12 rfl rfl Try.underlying26 (.int .u8 0) 1 info5 rfl (by decide) (by omega) 0 (ok := fun _ => True) (okp := fun _ => True) rfl (fun _ hk => hk) trivial (of_decide_eq_true (by first | (with_reducible assumption) | assumption)) (Nat.le_trans (Nat.mul_le_mul_right _ (of_decide_eq_true (by first | (with_reducible assumption) | assumption) : ji12.toNat ≤ 281474976710656)) (by omega)) (Below.refl _ _) (Nat.le_refl _) ?_; intro v126 w36 ho37 hb hg_ hnew_; clear hg_ hnew_; (first | rw [← Ny125.out] at ho37 | (simp only [Int.reduceToNat] at ho37; rw [← Ny125.out] at ho37)); have n0_ := Aside0.mk (Kd.R_lower ho37 (below_size (by repeat (first | (with_reducible first | exact HB.out | apply below_alloc | apply pw_below_drewN | apply below_drew1) | exact HB.out)))); have n1_ := Aside0.mk (below_step (by repeat (first | (with_reducible first | exact HB.out | apply below_alloc | apply pw_below_drewN | apply below_drew1) | exact HB.out)) hb); clear HB; have HO127 := n0_; have HB := n1_; clear n0_ n1_; clear hb ho37; have hcv38 := own_string (P := Try.prog) Try.underlying26 Try.underlying5 Try.underlying9 (Kd.own_of_R HO127.out)) | (go_at_call 14; (with_reducible refine (Go.Proofs.Ytakbdknmfaoppaa.R.Hex.calls (bx6_a0 ++ bx9_a1) t128 _ A16.out).mono ?_); rintro e w39 ⟨rfl, hb⟩; have n0_ := Aside0.mk (Kd.R_below (by (with_reducible repeat (first | apply Kd.R_alloc | apply Kd.R_drewN | apply Kd.R_drew)); exact HO127.out) hb); have n1_ := Aside0.mk (below_step (by repeat (first | (with_reducible first | exact HB.out | apply below_alloc | apply pw_below_drewN | apply below_drew1) | exact HB.out)) hb); clear HO127; clear HB; have HO127 := n0_; have HB := n1_; clear n0_ n1_; (try clear hb); (try clear hb2); (try clear hk); (try clear hi)) | (go_at_call 14; (with_reducible refine (Go.Proofs.Ytakbdknmfaoppaa.R.Hex.calls bx6_a0 t129 _ A17.out).mono ?_); rintro e w40 ⟨rfl, hb⟩; have n0_ := Aside0.mk (Kd.R_below (by (with_reducible repeat (first | apply Kd.R_alloc | apply Kd.R_drewN | apply Kd.R_drew)); exact HO127.out) hb); have n1_ := Aside0.mk (below_step (by repeat (first | (with_reducible first | exact HB.out | apply below_alloc | apply pw_below_drewN | apply below_drew1) | exact HB.out)) hb); clear HO127; clear HB; have HO127 := n0_; have HB := n1_; clear n0_ n1_; (try clear hb); (try clear hb2); (try clear hk); (try clear hi)) | (go_at_call 14; (with_reducible refine (Go.Proofs.Ytakbdknmfaoppaa.R.Hex.calls bx9_a1 t130 _ A18.out).mono ?_); rintro e w41 ⟨rfl, hb⟩; have n0_ := Aside0.mk (Kd.R_below (by (with_reducible repeat (first | apply Kd.R_alloc | apply Kd.R_drewN | apply Kd.R_drew)); exact HO127.out) hb); have n1_ := Aside0.mk (below_step (by repeat (first | (with_reducible first | exact HB.out | apply below_alloc | apply pw_below_drewN | apply below_drew1) | exact HB.out)) hb); clear HO127; clear HB; have HO127 := n0_; have HB := n1_; clear n0_ n1_; (try clear hb); (try clear hb2); (try clear hk); (try clear hi)) | (go_at_call 12; (with_reducible refine (Go.Proofs.Ytakbdknmfaoppaa.R.Sum.calls bx6_a0 t131 _ A21.out).mono ?_); rintro e w42 ⟨rfl, hb⟩; have n0_ := Aside0.mk (Kd.R_below (by (with_reducible repeat (first | apply Kd.R_alloc | apply Kd.R_drewN | apply Kd.R_drew)); exact HO127.out) hb); have n1_ := Aside0.mk (below_step (by repeat (first | (with_reducible first | exact HB.out | apply below_alloc | apply pw_below_drewN | apply below_drew1) | exact HB.out)) hb); clear HO127; clear HB; have HO127 := n0_; have HB := n1_; clear n0_ n1_; (try clear hb); (try clear hb2); (try clear hk); (try clear hi)) | (go_at_call 14; (with_reducible refine (Go.Proofs.Ytakbdknmfaoppaa.R.Hex.calls t131 t132 _ A22.out).mono ?_); rintro e w43 ⟨rfl, hb⟩; have n0_ := Aside0.mk (Kd.R_below (by (with_reducible repeat (first | apply Kd.R_alloc | apply Kd.R_drewN | apply Kd.R_drew)); exact HO127.out) hb); have n1_ := Aside0.mk (below_step (by repeat (first | (with_reducible first | exact HB.out | apply below_alloc | apply pw_below_drewN | apply below_drew1) | exact HB.out)) hb); clear HO127; clear HB; have HO127 := n0_; have HB := n1_; clear n0_ n1_; (try clear hb); (try clear hb2); (try clear hk); (try clear hi)))
                        go_ret
                        exact ⟨by first | rfl | (simp [errW_none, errW_some] <;> rfl) | (simp only [← hji6, ← hji9, ← hji12]; first | rfl | (simp [errW_none, errW_some] <;> rfl)) | (simp [*, errW_none, errW_some] <;> rfl), by repeat (first | (with_reducible first | exact HB.out | apply below_alloc | apply pw_below_drewN | apply below_drew1) | exact HB.out)⟩
                    · rw [if_neg c20] at H
                      have c20b0 : (t128.toList == (t129 ++ t130).toList) = false := beq_eq_false_iff_ne.mpr c20
                      have c20b1 : (t128.toList != (t129 ++ t130).toList) = true := bne_iff_ne.mpr c20
                      obtain rfl := Option.some.inj H
                      go_enter Try.func6, Try.ntmps6
                      (try dsimp only [List.append])
                      go_wp2_with (first | ((with_reducible refine gate_callee (f := 11) rfl ?_); refine goesL_ (some 9) rfl rfl Try.func11 (by kernel_rfl) rfl #[] rfl (by (try simp only [List.map_toArray, List.map_cons, List.map_nil]); first | done | rfl | (simp only [List.length_drop, List.length_take]; rfl)) ?_; (with_reducible refine (bailiwicklaw03_examples.calls  true _ A4.out).mono ?_); rintro e w44 ⟨rfl, hb⟩; refine ⟨_, rfl, ?_⟩; have n0_ := Aside0.mk (below_step (by repeat (first | (with_reducible first | exact HB.out | apply below_alloc | apply pw_below_drewN | apply below_drew1) | exact HB.out)) hb); clear HB; have HB := n0_; clear n0_; (try clear hb); (try clear hb2); (try clear hk); (try clear hi)) | ((with_reducible refine gate_dst (N := 24) rfl ?_); (try (refine gate_guard (by rfl) ?_; dsimp only)); refine Kd.R_make (Kd.int .u8) _ 5 rfl (N := 24) rfl 26 _ _ rfl ji12 rfl rfl Try.underlying26 (.int .u8 0) 1 info5 rfl (by decide) (by omega) 0 (ok := fun _ => True) (okp := fun _ => True) rfl (fun _ hk => hk) trivial (of_decide_eq_true (by first | (with_reducible assumption) | assumption)) (Nat.le_trans (Nat.mul_le_mul_right _ (of_decide_eq_true (by first | (with_reducible assumption) | assumption) : ji12.toNat ≤ 281474976710656)) (by omega)) (Below.refl _ _) (Nat.le_refl _) ?_; intro v126 w45 ho46 hb hg_ hnew_; clear hg_ hnew_; (first | rw [← Ny125.out] at ho46 | (simp only [Int.reduceToNat] at ho46; rw [← Ny125.out] at ho46)); have n0_ := Aside0.mk (Kd.R_lower ho46 (below_size (by repeat (first | (with_reducible first | exact HB.out | apply below_alloc | apply pw_below_drewN | apply below_drew1) | exact HB.out)))); have n1_ := Aside0.mk (below_step (by repeat (first | (with_reducible first | exact HB.out | apply below_alloc | apply pw_below_drewN | apply below_drew1) | exact HB.out)) hb); clear HB; have HO127 := n0_; have HB := n1_; clear n0_ n1_; clear hb ho46; have hcv47 := own_string (P := Try.prog) Try.underlying26 Try.underlying5 Try.underlying9 (Kd.own_of_R HO127.out)) | (go_at_call 14; (with_reducible refine (Go.Proofs.Ytakbdknmfaoppaa.R.Hex.calls (bx6_a0 ++ bx9_a1) t128 _ A16.out).mono ?_); rintro e w48 ⟨rfl, hb⟩; have n0_ := Aside0.mk (Kd.R_below (by (with_reducible repeat (first | apply Kd.R_alloc | apply Kd.R_drewN | apply Kd.R_drew)); exact HO127.out) hb); have n1_ := Aside0.mk (below_step (by repeat (first | (with_reducible first | exact HB.out | apply below_alloc | apply pw_below_drewN | apply below_drew1) | exact HB.out)) hb); clear HO127; clear HB; have HO127 := n0_; have HB := n1_; clear n0_ n1_; (try clear hb); (try clear hb2); (try clear hk); (try clear hi)) | (go_at_call 14; (with_reducible refine (Go.Proofs.Ytakbdknmfaoppaa.R.Hex.calls bx6_a0 t129 _ A17.out).mono ?_); rintro e w49 ⟨rfl, hb⟩; have n0_ := Aside0.mk (Kd.R_below (by (with_reducible repeat (first | apply Kd.R_alloc | apply Kd.R_drewN | apply Kd.R_drew)); exact HO127.out) hb); have n1_ := Aside0.mk (below_step (by repeat (first | (with_reducible first | exact HB.out | apply below_alloc | apply pw_below_drewN | apply below_drew1) | exact HB.out)) hb); clear HO127; clear HB; have HO127 := n0_; have HB := n1_; clear n0_ n1_; (try clear hb); (try clear hb2); (try clear hk); (try clear hi)) | (go_at_call 14; (with_reducible refine (Go.Proofs.Ytakbdknmfaoppaa.R.Hex.calls bx9_a1 t130 _ A18.out).mono ?_); rintro e w50 ⟨rfl, hb⟩; have n0_ := Aside0.mk (Kd.R_below (by (with_reducible repeat (first | apply Kd.R_alloc | apply Kd.R_drewN | apply Kd.R_drew)); exact HO127.out) hb); have n1_ := Aside0.mk (below_step (by repeat (first | (with_reducible first | exact HB.out | apply below_alloc | apply pw_below_drewN | apply below_drew1) | exact HB.out)) hb); clear HO127; clear HB; have HO127 := n0_; have HB := n1_; clear n0_ n1_; (try clear hb); (try clear hb2); (try clear hk); (try clear hi)))
                      go_ret
                      exact ⟨by first | rfl | (simp [errW_none, errW_some] <;> rfl) | (simp only [← hji6, ← hji9, ← hji12]; first | rfl | (simp [errW_none, errW_some] <;> rfl)) | (simp [*, errW_none, errW_some] <;> rfl), by repeat (first | (with_reducible first | exact HB.out | apply below_alloc | apply pw_below_drewN | apply below_drew1) | exact HB.out)⟩
                  · rw [if_neg c19] at H
                    exact absurd H (by simp)
                · rw [if_neg c15] at H
                  exact absurd H (by simp)
              · rw [if_neg c14] at H
                exact absurd H (by simp)
            · rw [if_neg c13] at H
              exact absurd H (by simp)
          · rw [if_neg c11] at H
            exact absurd H (by simp)
        · rw [if_neg c10] at H
          exact absurd H (by simp)
      · rw [if_neg c8] at H
        exact absurd H (by simp)
    · rw [if_neg c7] at H
      exact absurd H (by simp)
  · replace c5 := Bool.eq_false_iff.mpr c5
    subst c5
    have H1 : (some false) = some r := by rw [if_neg (show ¬ (false = true) by decide)] at H; exact H
    clear H
    have H := H1
    clear H1
    obtain rfl := Option.some.inj H
    go_enter Try.func6, Try.ntmps6
    (try dsimp only [List.append])
    go_wp2_with (first | ((with_reducible refine gate_callee (f := 11) rfl ?_); refine goesL_ (some 9) rfl rfl Try.func11 (by kernel_rfl) rfl #[] rfl (by (try simp only [List.map_toArray, List.map_cons, List.map_nil]); first | done | rfl | (simp only [List.length_drop, List.length_take]; rfl)) ?_; (with_reducible refine (bailiwicklaw03_examples.calls  false _ A4.out).mono ?_); rintro e w51 ⟨rfl, hb⟩; refine ⟨_, rfl, ?_⟩; have n0_ := Aside0.mk (below_step (by repeat (first | (with_reducible first | exact HB.out | apply below_alloc | apply pw_below_drewN | apply below_drew1) | exact HB.out)) hb); clear HB; have HB := n0_; clear n0_; (try clear hb); (try clear hb2); (try clear hk); (try clear hi)))
    go_ret
    exact ⟨by first | rfl | (simp [errW_none, errW_some] <;> rfl) | (simp [*, errW_none, errW_some] <;> rfl), by repeat (first | (with_reducible first | exact HB.out | apply below_alloc | apply pw_below_drewN | apply below_drew1) | exact HB.out)⟩

/-- THE ONE PURE STATEMENT of bailiwicklaw03_ShaDigits: yours. -/
def bailiwicklaw03_ShaDigits.Pure : Prop := ∀ (a0 : ByteArray) (a1 : ByteArray) (a2 : Int), a0.size ≤ 140737488351232 → a1.size ≤ 140737488351232 → (Lit.int .u8 a2).wf = true → bailiwicklaw03_ShaDigits.f a0 a1 a2 = some true
theorem bailiwicklaw03_ShaDigits.walk (P : bailiwicklaw03_ShaDigits.Pure) (a0 : ByteArray) (a1 : ByteArray) (a2 : Int) (w : World) (w0 : a0.size ≤ 140737488351232) (w1 : a1.size ≤ 140737488351232) (w2 : (Lit.int .u8 a2).wf = true) :
    Calls Try.prog 6 #[.string a0, .string a1, .int .u8 a2] w fun e w' => e = .returned (.bool true) ∧ Below w.heap.size w w' := by
  have h := P a0 a1 a2 w0 w1 w2
  refine (bailiwicklaw03_ShaDigits.calls a0 a1 a2 true w h).mono ?_
  rintro e w' ⟨rfl, hd⟩
  exact ⟨rfl, hd⟩

-- PROVED BY HAND: function 18 (mac_Same)

-- NOT PRINTED: function 19 (mac_Mac)

-- NOT PRINTED: function 17 (bailiwicklaw04_examples)

-- NOT PRINTED: function 7 (bailiwicklaw04_MacSame)

-- NOT PRINTED: function 8 (bailiwicklaw04_MacMade)

-- NOT PRINTED: function 34 (bailiwickref04_turned)

-- NOT PRINTED: function 20 (bailiwickref04_Mac)

-- NOT PRINTED: function 21 (mac_Tag)

-- NOT PRINTED: function 22 (bailiwickref04_Tag)

-- NOT PRINTED: function 9 (bailiwicklaw04_MacTags)

-- NOT PRINTED: function 10 (bailiwicklaw04_MacKeys)

end Go.Proofs.Ytakbdknmfaoppaa.T
