-- Written by a program of this session (gp.py), which drives the print with some lines turned. Not trusted: Lean checks it.
import Derived.Test.YtbneljnmhofjfaaVx0
namespace Go.Proofs.Ytbneljnmhofjfaa.V
open Go.RowKit Go.Proofs.YtbneljnmhofjfaaW.PrintWords Go.Proofs.YtbneljnmhofjfaaW.PrintLast Go.Proofs.YtbneljnmhofjfaaW.PrintMore
attribute [local go_sem] max2_int min2_int max_two min_two max_three min_three max_four min_four G.emod_u8 G.emod_u16 G.emod_u32
set_option linter.unusedVariables false
set_option linter.unusedSimpArgs false

-- NOT PRINTED: function 25 (bits_TrailingZeros8)

-- PROVED BY HAND: function 11 (bits_First)

-- PROVED BY HAND: function 13 (bits_Has)

-- PROVED BY HAND: function 15 (bits_With)

-- NOT PRINTED: function 38 (bits_Mul32)

-- NOT PRINTED: function 39 (bits_Mul64)

-- NOT PRINTED: function 32 (bits_Mul)

-- NOT PRINTED: function 40 (stringslite_HasPrefix)

-- NOT PRINTED: function 33 (strings_HasPrefix)

-- NOT PRINTED: function 43 (abi_NoEscape)

-- NOT PRINTED: function 41 (strings_Builder_copyCheck)

-- NOT PRINTED: function 44 (bytealg_MakeNoZero)

-- NOT PRINTED: function 42 (strings_Builder_grow)

-- NOT PRINTED: function 34 (strings_Builder_Grow)

-- NOT PRINTED: function 35 (strings_Builder_WriteString)

-- NOT PRINTED: function 36 (strings_Builder_Len)

-- NOT PRINTED: function 37 (strings_Builder_String)

-- NOT PRINTED: function 27 (strings_Repeat)

-- PROVED BY HAND: function 17 (bits_New)

/-! ### bailiwicklaw08_examples: function 10 -/
def bailiwicklaw08_examples.f  : Option (Bool) := (Go.Proofs.Ytbneljnmhofjfaa.G.bits_New.f 9).bind fun t101 => ((Go.Proofs.Ytbneljnmhofjfaa.G.bits_With.f t101 8 true).bind fun t102 => ((Go.Proofs.Ytbneljnmhofjfaa.G.bits_First.f (⟨#[3]⟩ : ByteArray) 8).bind fun bt103 => (if t102.toList = ([0, 1] : List UInt8) then ((Go.Proofs.Ytbneljnmhofjfaa.P.bits_Has.f t102 8).bind fun t105 => (if t105 = true then (if bt103.1 = 2 then (some bt103.2) else (some false)) else (some false))) else (some false))))
set_option maxHeartbeats 8000000 in
set_option maxRecDepth 100000 in
theorem bailiwicklaw08_examples.calls  (r : Bool) (w : World) (h : bailiwicklaw08_examples.f  = some r) :
    Calls Try.prog 10 #[] w fun e w' => e = .returned (.bool r) ∧ Below w.heap.size w w' := by
  have HB := Aside0.mk (Below.refl w.heap.size w)
  have H : ((Go.Proofs.Ytbneljnmhofjfaa.G.bits_New.f 9).bind fun t101 => ((Go.Proofs.Ytbneljnmhofjfaa.G.bits_With.f t101 8 true).bind fun t102 => ((Go.Proofs.Ytbneljnmhofjfaa.G.bits_First.f (⟨#[3]⟩ : ByteArray) 8).bind fun bt103 => (if t102.toList = ([0, 1] : List UInt8) then ((Go.Proofs.Ytbneljnmhofjfaa.P.bits_Has.f t102 8).bind fun t105 => (if t105 = true then (if bt103.1 = 2 then (some bt103.2) else (some false)) else (some false))) else (some false))))) = some r := h
  clear h
  replace H := Option.bind_eq_some_iff.mp H
  obtain ⟨t101, A10, H⟩ := H
  replace H : ((Go.Proofs.Ytbneljnmhofjfaa.G.bits_With.f t101 8 true).bind fun t102 => ((Go.Proofs.Ytbneljnmhofjfaa.G.bits_First.f (⟨#[3]⟩ : ByteArray) 8).bind fun bt103 => (if t102.toList = ([0, 1] : List UInt8) then ((Go.Proofs.Ytbneljnmhofjfaa.P.bits_Has.f t102 8).bind fun t105 => (if t105 = true then (if bt103.1 = 2 then (some bt103.2) else (some false)) else (some false))) else (some false)))) = some r := H
  have A1 := Aside0.mk A10
  clear A10
  replace H := Option.bind_eq_some_iff.mp H
  obtain ⟨t102, A20, H⟩ := H
  replace H : ((Go.Proofs.Ytbneljnmhofjfaa.G.bits_First.f (⟨#[3]⟩ : ByteArray) 8).bind fun bt103 => (if t102.toList = ([0, 1] : List UInt8) then ((Go.Proofs.Ytbneljnmhofjfaa.P.bits_Has.f t102 8).bind fun t105 => (if t105 = true then (if bt103.1 = 2 then (some bt103.2) else (some false)) else (some false))) else (some false))) = some r := H
  have A2 := Aside0.mk A20
  clear A20
  replace H := Option.bind_eq_some_iff.mp H
  obtain ⟨⟨t103, t104⟩, A30, H⟩ := H
  replace H : (if t102.toList = ([0, 1] : List UInt8) then ((Go.Proofs.Ytbneljnmhofjfaa.P.bits_Has.f t102 8).bind fun t105 => (if t105 = true then (if t103 = 2 then (some t104) else (some false)) else (some false))) else (some false)) = some r := H
  have A3 := Aside0.mk A30
  clear A30
  by_cases c4 : t102.toList = ([0, 1] : List UInt8)
  · rw [if_pos c4] at H
    have c4b0 : (t102.toList == ([0, 1] : List UInt8)) = true := beq_iff_eq.mpr c4
    have c4b1 : (t102.toList != ([0, 1] : List UInt8)) = false := bne_eq_false_iff_eq.mpr c4
    clear c4
    replace H := Option.bind_eq_some_iff.mp H
    obtain ⟨t105, A50, H⟩ := H
    replace H : (if t105 = true then (if t103 = 2 then (some t104) else (some false)) else (some false)) = some r := H
    have A5 := Aside0.mk A50
    clear A50
    by_cases c6 : t105 = true
    · subst c6
      have H1 : (if t103 = 2 then (some t104) else (some false)) = some r := by first | (rw [if_pos rfl] at H; exact H) | (rw [if_pos trivial] at H; exact H)
      clear H
      have H := H1
      clear H1
      by_cases c7 : t103 = 2
      · rw [if_pos c7] at H
        have c7b0 : (t103 == 2) = true := beq_iff_eq.mpr c7
        have c7b1 : (t103 != 2) = false := bne_eq_false_iff_eq.mpr c7
        clear c7
        obtain rfl := Option.some.inj H
        simp only [Option.some.injEq, Prod.mk.injEq] at H
        obtain ⟨rfl⟩ := H
        go_enter Try.func10, Try.ntmps10
        (try dsimp only [List.append])
        go_wp2_with (first | ((with_reducible refine gate_callee (f := 17) rfl ?_); refine goesL_ (some 4) rfl rfl Try.func17 (by kernel_rfl) rfl #[.int .i64 9] rfl (by (try simp only [List.map_toArray, List.map_cons, List.map_nil]); first | done | rfl | (simp only [List.length_drop, List.length_take]; rfl)) ?_; (with_reducible refine (Go.Proofs.Ytbneljnmhofjfaa.G.bits_New.calls 9 t101 _ A1.out).mono ?_); rintro e w8 ⟨rfl, hb⟩; refine ⟨_, rfl, ?_⟩; have n0_ := Aside0.mk (below_step (by repeat (first | (with_reducible first | exact HB.out | apply below_alloc | apply pw_below_drewN | apply below_drew1) | exact HB.out)) hb); clear HB; have HB := n0_; clear n0_; (try clear hb); (try clear hb2); (try clear hk); (try clear hi)) | ((with_reducible refine gate_callee (f := 15) rfl ?_); refine goesL_ (some 5) rfl rfl Try.func15 (by kernel_rfl) rfl #[.string t101, .int .i64 8, .bool true] rfl (by (try simp only [List.map_toArray, List.map_cons, List.map_nil]); first | done | rfl | (simp only [List.length_drop, List.length_take]; rfl)) ?_; (with_reducible refine (Go.Proofs.Ytbneljnmhofjfaa.G.bits_With.calls t101 8 true t102 _ A2.out).mono ?_); rintro e w9 ⟨rfl, hb⟩; refine ⟨_, rfl, ?_⟩; have n0_ := Aside0.mk (below_step (by repeat (first | (with_reducible first | exact HB.out | apply below_alloc | apply pw_below_drewN | apply below_drew1) | exact HB.out)) hb); clear HB; have HB := n0_; clear n0_; (try clear hb); (try clear hb2); (try clear hk); (try clear hi)) | ((with_reducible refine gate_callee (f := 11) rfl ?_); refine goesL_ (some 7) rfl rfl Try.func11 (by kernel_rfl) rfl #[.string (⟨#[3]⟩ : ByteArray), .int .i64 8] rfl (by (try simp only [List.map_toArray, List.map_cons, List.map_nil]); first | done | rfl | (simp only [List.length_drop, List.length_take]; rfl)) ?_; (with_reducible refine (Go.Proofs.Ytbneljnmhofjfaa.G.bits_First.calls (⟨#[3]⟩ : ByteArray) 8 t103 t104 _ A3.out).mono ?_); rintro e w' ⟨rfl, ⟨nd, rfl⟩⟩; refine ⟨_, rfl, ?_⟩) | (go_at_call 13; (with_reducible refine (Go.Proofs.Ytbneljnmhofjfaa.P.bits_Has.calls t102 8 true _ A5.out).mono ?_); rintro e w' ⟨rfl, ⟨nd, rfl⟩⟩))
        go_ret
        exact ⟨by first | rfl | (simp [errW_none, errW_some] <;> rfl) | (simp [*, errW_none, errW_some] <;> rfl), by repeat (first | (with_reducible first | exact HB.out | apply below_alloc | apply pw_below_drewN | apply below_drew1) | exact HB.out)⟩
      · rw [if_neg c7] at H
        have c7b0 : (t103 == 2) = false := beq_eq_false_iff_ne.mpr c7
        have c7b1 : (t103 != 2) = true := bne_iff_ne.mpr c7
        obtain rfl := Option.some.inj H
        simp only [Option.some.injEq, Prod.mk.injEq] at H
        obtain ⟨rfl⟩ := H
        go_enter Try.func10, Try.ntmps10
        (try dsimp only [List.append])
        go_wp2_with (first | ((with_reducible refine gate_callee (f := 17) rfl ?_); refine goesL_ (some 4) rfl rfl Try.func17 (by kernel_rfl) rfl #[.int .i64 9] rfl (by (try simp only [List.map_toArray, List.map_cons, List.map_nil]); first | done | rfl | (simp only [List.length_drop, List.length_take]; rfl)) ?_; (with_reducible refine (Go.Proofs.Ytbneljnmhofjfaa.G.bits_New.calls 9 t101 _ A1.out).mono ?_); rintro e w10 ⟨rfl, hb⟩; refine ⟨_, rfl, ?_⟩; have n0_ := Aside0.mk (below_step (by repeat (first | (with_reducible first | exact HB.out | apply below_alloc | apply pw_below_drewN | apply below_drew1) | exact HB.out)) hb); clear HB; have HB := n0_; clear n0_; (try clear hb); (try clear hb2); (try clear hk); (try clear hi)) | ((with_reducible refine gate_callee (f := 15) rfl ?_); refine goesL_ (some 5) rfl rfl Try.func15 (by kernel_rfl) rfl #[.string t101, .int .i64 8, .bool true] rfl (by (try simp only [List.map_toArray, List.map_cons, List.map_nil]); first | done | rfl | (simp only [List.length_drop, List.length_take]; rfl)) ?_; (with_reducible refine (Go.Proofs.Ytbneljnmhofjfaa.G.bits_With.calls t101 8 true t102 _ A2.out).mono ?_); rintro e w11 ⟨rfl, hb⟩; refine ⟨_, rfl, ?_⟩; have n0_ := Aside0.mk (below_step (by repeat (first | (with_reducible first | exact HB.out | apply below_alloc | apply pw_below_drewN | apply below_drew1) | exact HB.out)) hb); clear HB; have HB := n0_; clear n0_; (try clear hb); (try clear hb2); (try clear hk); (try clear hi)) | ((with_reducible refine gate_callee (f := 11) rfl ?_); refine goesL_ (some 7) rfl rfl Try.func11 (by kernel_rfl) rfl #[.string (⟨#[3]⟩ : ByteArray), .int .i64 8] rfl (by (try simp only [List.map_toArray, List.map_cons, List.map_nil]); first | done | rfl | (simp only [List.length_drop, List.length_take]; rfl)) ?_; (with_reducible refine (Go.Proofs.Ytbneljnmhofjfaa.G.bits_First.calls (⟨#[3]⟩ : ByteArray) 8 t103 t104 _ A3.out).mono ?_); rintro e w' ⟨rfl, ⟨nd, rfl⟩⟩; refine ⟨_, rfl, ?_⟩) | (go_at_call 13; (with_reducible refine (Go.Proofs.Ytbneljnmhofjfaa.P.bits_Has.calls t102 8 true _ A5.out).mono ?_); rintro e w' ⟨rfl, ⟨nd, rfl⟩⟩))
        go_ret
        exact ⟨by first | rfl | (simp [errW_none, errW_some] <;> rfl) | (simp [*, errW_none, errW_some] <;> rfl), by repeat (first | (with_reducible first | exact HB.out | apply below_alloc | apply pw_below_drewN | apply below_drew1) | exact HB.out)⟩
    · replace c6 := Bool.eq_false_iff.mpr c6
      subst c6
      have H1 : (some false) = some r := by rw [if_neg (show ¬ (false = true) by decide)] at H; exact H
      clear H
      have H := H1
      clear H1
      obtain rfl := Option.some.inj H
      simp only [Option.some.injEq, Prod.mk.injEq] at H
      obtain ⟨rfl⟩ := H
      go_enter Try.func10, Try.ntmps10
      (try dsimp only [List.append])
      go_wp2_with (first | ((with_reducible refine gate_callee (f := 17) rfl ?_); refine goesL_ (some 4) rfl rfl Try.func17 (by kernel_rfl) rfl #[.int .i64 9] rfl (by (try simp only [List.map_toArray, List.map_cons, List.map_nil]); first | done | rfl | (simp only [List.length_drop, List.length_take]; rfl)) ?_; (with_reducible refine (Go.Proofs.Ytbneljnmhofjfaa.G.bits_New.calls 9 t101 _ A1.out).mono ?_); rintro e w12 ⟨rfl, hb⟩; refine ⟨_, rfl, ?_⟩; have n0_ := Aside0.mk (below_step (by repeat (first | (with_reducible first | exact HB.out | apply below_alloc | apply pw_below_drewN | apply below_drew1) | exact HB.out)) hb); clear HB; have HB := n0_; clear n0_; (try clear hb); (try clear hb2); (try clear hk); (try clear hi)) | ((with_reducible refine gate_callee (f := 15) rfl ?_); refine goesL_ (some 5) rfl rfl Try.func15 (by kernel_rfl) rfl #[.string t101, .int .i64 8, .bool true] rfl (by (try simp only [List.map_toArray, List.map_cons, List.map_nil]); first | done | rfl | (simp only [List.length_drop, List.length_take]; rfl)) ?_; (with_reducible refine (Go.Proofs.Ytbneljnmhofjfaa.G.bits_With.calls t101 8 true t102 _ A2.out).mono ?_); rintro e w13 ⟨rfl, hb⟩; refine ⟨_, rfl, ?_⟩; have n0_ := Aside0.mk (below_step (by repeat (first | (with_reducible first | exact HB.out | apply below_alloc | apply pw_below_drewN | apply below_drew1) | exact HB.out)) hb); clear HB; have HB := n0_; clear n0_; (try clear hb); (try clear hb2); (try clear hk); (try clear hi)) | ((with_reducible refine gate_callee (f := 11) rfl ?_); refine goesL_ (some 7) rfl rfl Try.func11 (by kernel_rfl) rfl #[.string (⟨#[3]⟩ : ByteArray), .int .i64 8] rfl (by (try simp only [List.map_toArray, List.map_cons, List.map_nil]); first | done | rfl | (simp only [List.length_drop, List.length_take]; rfl)) ?_; (with_reducible refine (Go.Proofs.Ytbneljnmhofjfaa.G.bits_First.calls (⟨#[3]⟩ : ByteArray) 8 t103 t104 _ A3.out).mono ?_); rintro e w' ⟨rfl, ⟨nd, rfl⟩⟩; refine ⟨_, rfl, ?_⟩) | (go_at_call 13; (with_reducible refine (Go.Proofs.Ytbneljnmhofjfaa.P.bits_Has.calls t102 8 false _ A5.out).mono ?_); rintro e w' ⟨rfl, ⟨nd, rfl⟩⟩))
      go_ret
      exact ⟨by first | rfl | (simp [errW_none, errW_some] <;> rfl) | (simp [*, errW_none, errW_some] <;> rfl), by repeat (first | (with_reducible first | exact HB.out | apply below_alloc | apply pw_below_drewN | apply below_drew1) | exact HB.out)⟩
  · rw [if_neg c4] at H
    have c4b0 : (t102.toList == ([0, 1] : List UInt8)) = false := beq_eq_false_iff_ne.mpr c4
    have c4b1 : (t102.toList != ([0, 1] : List UInt8)) = true := bne_iff_ne.mpr c4
    obtain rfl := Option.some.inj H
    simp only [Option.some.injEq, Prod.mk.injEq] at H
    obtain ⟨rfl⟩ := H
    go_enter Try.func10, Try.ntmps10
    (try dsimp only [List.append])
    go_wp2_with (first | ((with_reducible refine gate_callee (f := 17) rfl ?_); refine goesL_ (some 4) rfl rfl Try.func17 (by kernel_rfl) rfl #[.int .i64 9] rfl (by (try simp only [List.map_toArray, List.map_cons, List.map_nil]); first | done | rfl | (simp only [List.length_drop, List.length_take]; rfl)) ?_; (with_reducible refine (Go.Proofs.Ytbneljnmhofjfaa.G.bits_New.calls 9 t101 _ A1.out).mono ?_); rintro e w14 ⟨rfl, hb⟩; refine ⟨_, rfl, ?_⟩; have n0_ := Aside0.mk (below_step (by repeat (first | (with_reducible first | exact HB.out | apply below_alloc | apply pw_below_drewN | apply below_drew1) | exact HB.out)) hb); clear HB; have HB := n0_; clear n0_; (try clear hb); (try clear hb2); (try clear hk); (try clear hi)) | ((with_reducible refine gate_callee (f := 15) rfl ?_); refine goesL_ (some 5) rfl rfl Try.func15 (by kernel_rfl) rfl #[.string t101, .int .i64 8, .bool true] rfl (by (try simp only [List.map_toArray, List.map_cons, List.map_nil]); first | done | rfl | (simp only [List.length_drop, List.length_take]; rfl)) ?_; (with_reducible refine (Go.Proofs.Ytbneljnmhofjfaa.G.bits_With.calls t101 8 true t102 _ A2.out).mono ?_); rintro e w15 ⟨rfl, hb⟩; refine ⟨_, rfl, ?_⟩; have n0_ := Aside0.mk (below_step (by repeat (first | (with_reducible first | exact HB.out | apply below_alloc | apply pw_below_drewN | apply below_drew1) | exact HB.out)) hb); clear HB; have HB := n0_; clear n0_; (try clear hb); (try clear hb2); (try clear hk); (try clear hi)) | ((with_reducible refine gate_callee (f := 11) rfl ?_); refine goesL_ (some 7) rfl rfl Try.func11 (by kernel_rfl) rfl #[.string (⟨#[3]⟩ : ByteArray), .int .i64 8] rfl (by (try simp only [List.map_toArray, List.map_cons, List.map_nil]); first | done | rfl | (simp only [List.length_drop, List.length_take]; rfl)) ?_; (with_reducible refine (Go.Proofs.Ytbneljnmhofjfaa.G.bits_First.calls (⟨#[3]⟩ : ByteArray) 8 t103 t104 _ A3.out).mono ?_); rintro e w' ⟨rfl, ⟨nd, rfl⟩⟩; refine ⟨_, rfl, ?_⟩))
    go_ret
    exact ⟨by first | rfl | (simp [errW_none, errW_some] <;> rfl) | (simp [*, errW_none, errW_some] <;> rfl), by repeat (first | (with_reducible first | exact HB.out | apply below_alloc | apply pw_below_drewN | apply below_drew1) | exact HB.out)⟩

-- NOT PRINTED: function 28 (bits_OnesCount8)

-- PROVED BY HAND: function 19 (bits_Count)

/-! ### bailiwicklaw08_BitsWith: function 5 -/
def bailiwicklaw08_BitsWith.j0 : Nat → ByteArray → Int → Int → Bool → ByteArray → ByteArray → Bool → Option (Bool)
  | 0, _, _, _, _, _, _, _ => none
  | k + 1, x0, x1, x2, x7, x8, x9, x10 => (Go.Proofs.Ytbneljnmhofjfaa.G.bits_Count.f x8).bind fun t109 => ((Go.Proofs.Ytbneljnmhofjfaa.G.bits_Count.f x9).bind fun t110 => (if x7 = true then (if (x8.size : Int) = (x0.size : Int) then (if (x9.size : Int) = (x0.size : Int) then ((Go.Proofs.Ytbneljnmhofjfaa.P.bits_Has.f x8 x1).bind fun t111 => (if (t111 == x10) = true then ((Go.Proofs.Ytbneljnmhofjfaa.P.bits_Has.f x9 x1).bind fun t112 => (if t112 = true then (some false) else (if x2 = x1 then (if (((wrap64 (t109 - t110)) == 1) == x10) = true then (if (((wrap64 (t109 - t110)) == 0) == (!x10)) = true then (if x8.toList = x0.toList then (some true) else (some (x9.toList == x0.toList))) else (some false)) else (some false)) else ((Go.Proofs.Ytbneljnmhofjfaa.P.bits_Has.f x8 x2).bind fun t113 => ((Go.Proofs.Ytbneljnmhofjfaa.P.bits_Has.f x0 x2).bind fun t114 => (if (t113 == t114) = true then ((Go.Proofs.Ytbneljnmhofjfaa.P.bits_Has.f x9 x2).bind fun t115 => ((Go.Proofs.Ytbneljnmhofjfaa.P.bits_Has.f x0 x2).bind fun t114 => (if (t115 == t114) = true then (if (((wrap64 (t109 - t110)) == 1) == x10) = true then (if (((wrap64 (t109 - t110)) == 0) == (!x10)) = true then (if x8.toList = x0.toList then (some true) else (some (x9.toList == x0.toList))) else (some false)) else (some false)) else (some false)))) else (some false))))))) else (some false))) else (some false)) else (some false)) else (some false)))
def bailiwicklaw08_BitsWith.f (k : Nat) (a0 : ByteArray) (a1 : Int) (a2 : Int) : Option (Bool) := (bailiwicklaw08_examples.f).bind fun t106 => (if t106 = true then (if 0 ≤ (mn (a0.size : Int) 300) then (if (mn (a0.size : Int) 300) ≤ (a0.size : Int) then ((Go.Proofs.Ytbneljnmhofjfaa.G.bits_With.f (a0.extract 0 ((mn (a0.size : Int) 300) : Int).toNat) a1 true).bind fun t107 => ((Go.Proofs.Ytbneljnmhofjfaa.G.bits_With.f (a0.extract 0 ((mn (a0.size : Int) 300) : Int).toNat) a1 false).bind fun t108 => (if a1 ≥ 0 then (bailiwicklaw08_BitsWith.j0 k (a0.extract 0 ((mn (a0.size : Int) 300) : Int).toNat) a1 a2 t106 t107 t108 (decide (a1 < (wrap64 (8 * ((a0.extract 0 ((mn (a0.size : Int) 300) : Int).toNat).size : Int)))))) else (bailiwicklaw08_BitsWith.j0 k (a0.extract 0 ((mn (a0.size : Int) 300) : Int).toNat) a1 a2 t106 t107 t108 false)))) else (none)) else (none)) else (some false))
theorem bailiwicklaw08_BitsWith.mono_l : ∀ k, (∀ y0 y1 y2 y3 y4 y5 y6, LeO (bailiwicklaw08_BitsWith.j0 k y0 y1 y2 y3 y4 y5 y6) (bailiwicklaw08_BitsWith.j0 (k + 1) y0 y1 y2 y3 y4 y5 y6))
  | 0 => fun _ _ _ _ _ _ _ r h => by simp [bailiwicklaw08_BitsWith.j0] at h
  | k + 1 => by
    have ih0 := bailiwicklaw08_BitsWith.mono_l k
    · intro y0 y1 y2 y3 y4 y5 y6
      unfold bailiwicklaw08_BitsWith.j0
      repeat' first
      | (with_reducible exact ih0 _ _ _ _ _ _ _)
      | (with_reducible exact LeO.refl _)
      | (with_reducible exact LeO.none _)
      | (with_reducible refine LeO.ite ?_ ?_)
      | (with_reducible refine LeO.bind ?_ (fun _ => ?_))
      | exact ih0 _ _ _ _ _ _ _
      | exact LeO.none _
      | refine LeO.ite ?_ ?_
      | refine LeO.bind ?_ (fun _ => ?_)
theorem bailiwicklaw08_BitsWith.mono : ∀ a0 a1 a2 k, LeO (bailiwicklaw08_BitsWith.f k a0 a1 a2) (bailiwicklaw08_BitsWith.f (k + 1) a0 a1 a2) := by
  intro a0 a1 a2 k
  have ih0 := bailiwicklaw08_BitsWith.mono_l k
  unfold bailiwicklaw08_BitsWith.f
  repeat' first
      | (with_reducible exact ih0 _ _ _ _ _ _ _)
      | (with_reducible exact LeO.refl _)
      | (with_reducible exact LeO.none _)
      | (with_reducible refine LeO.ite ?_ ?_)
      | (with_reducible refine LeO.bind ?_ (fun _ => ?_))
      | exact ih0 _ _ _ _ _ _ _
      | exact LeO.none _
      | refine LeO.ite ?_ ?_
      | refine LeO.bind ?_ (fun _ => ?_)
set_option maxHeartbeats 8000000 in
set_option maxRecDepth 100000 in
theorem bailiwicklaw08_BitsWith.calls (k : Nat) (a0 : ByteArray) (a1 : Int) (a2 : Int) (r : Bool) (w : World) (h : bailiwicklaw08_BitsWith.f k a0 a1 a2 = some r) (hrp_ : r = true) :
    Calls Try.prog 5 #[.string a0, .int .i64 a1, .int .i64 a2] w fun e w' => e = .returned (.bool r) ∧ Below w.heap.size w w' := by
  have HB := Aside0.mk (Below.refl w.heap.size w)
  have H : ((bailiwicklaw08_examples.f).bind fun t106 => (if t106 = true then (if 0 ≤ (mn (a0.size : Int) 300) then (if (mn (a0.size : Int) 300) ≤ (a0.size : Int) then ((Go.Proofs.Ytbneljnmhofjfaa.G.bits_With.f (a0.extract 0 ((mn (a0.size : Int) 300) : Int).toNat) a1 true).bind fun t107 => ((Go.Proofs.Ytbneljnmhofjfaa.G.bits_With.f (a0.extract 0 ((mn (a0.size : Int) 300) : Int).toNat) a1 false).bind fun t108 => (if a1 ≥ 0 then (bailiwicklaw08_BitsWith.j0 k (a0.extract 0 ((mn (a0.size : Int) 300) : Int).toNat) a1 a2 t106 t107 t108 (decide (a1 < (wrap64 (8 * ((a0.extract 0 ((mn (a0.size : Int) 300) : Int).toNat).size : Int)))))) else (bailiwicklaw08_BitsWith.j0 k (a0.extract 0 ((mn (a0.size : Int) 300) : Int).toNat) a1 a2 t106 t107 t108 false)))) else (none)) else (none)) else (some false))) = some r := h
  clear h
  replace H := Option.bind_eq_some_iff.mp H
  obtain ⟨t106, A40, H⟩ := H
  replace H : (if t106 = true then (if 0 ≤ (mn (a0.size : Int) 300) then (if (mn (a0.size : Int) 300) ≤ (a0.size : Int) then ((Go.Proofs.Ytbneljnmhofjfaa.G.bits_With.f (a0.extract 0 ((mn (a0.size : Int) 300) : Int).toNat) a1 true).bind fun t107 => ((Go.Proofs.Ytbneljnmhofjfaa.G.bits_With.f (a0.extract 0 ((mn (a0.size : Int) 300) : Int).toNat) a1 false).bind fun t108 => (if a1 ≥ 0 then (bailiwicklaw08_BitsWith.j0 k (a0.extract 0 ((mn (a0.size : Int) 300) : Int).toNat) a1 a2 t106 t107 t108 (decide (a1 < (wrap64 (8 * ((a0.extract 0 ((mn (a0.size : Int) 300) : Int).toNat).size : Int)))))) else (bailiwicklaw08_BitsWith.j0 k (a0.extract 0 ((mn (a0.size : Int) 300) : Int).toNat) a1 a2 t106 t107 t108 false)))) else (none)) else (none)) else (some false)) = some r := H
  have A4 := Aside0.mk A40
  clear A40
  by_cases c5 : t106 = true
  · subst c5
    have H1 : (if 0 ≤ (mn (a0.size : Int) 300) then (if (mn (a0.size : Int) 300) ≤ (a0.size : Int) then ((Go.Proofs.Ytbneljnmhofjfaa.G.bits_With.f (a0.extract 0 ((mn (a0.size : Int) 300) : Int).toNat) a1 true).bind fun t107 => ((Go.Proofs.Ytbneljnmhofjfaa.G.bits_With.f (a0.extract 0 ((mn (a0.size : Int) 300) : Int).toNat) a1 false).bind fun t108 => (if a1 ≥ 0 then (bailiwicklaw08_BitsWith.j0 k (a0.extract 0 ((mn (a0.size : Int) 300) : Int).toNat) a1 a2 true t107 t108 (decide (a1 < (wrap64 (8 * ((a0.extract 0 ((mn (a0.size : Int) 300) : Int).toNat).size : Int)))))) else (bailiwicklaw08_BitsWith.j0 k (a0.extract 0 ((mn (a0.size : Int) 300) : Int).toNat) a1 a2 true t107 t108 false)))) else (none)) else (none)) = some r := by first | (rw [if_pos rfl] at H; exact H) | (rw [if_pos trivial] at H; exact H)
    clear H
    have H := H1
    clear H1
    obtain ⟨ji6, hji6⟩ : ∃ j_ : Int, (mn (a0.size : Int) 300) = j_ := ⟨_, rfl⟩
    replace H : (if 0 ≤ (ji6) then (if (ji6) ≤ (a0.size : Int) then ((Go.Proofs.Ytbneljnmhofjfaa.G.bits_With.f (a0.extract 0 ((ji6) : Int).toNat) a1 true).bind fun t107 => ((Go.Proofs.Ytbneljnmhofjfaa.G.bits_With.f (a0.extract 0 ((ji6) : Int).toNat) a1 false).bind fun t108 => (if a1 ≥ 0 then (bailiwicklaw08_BitsWith.j0 k (a0.extract 0 ((ji6) : Int).toNat) a1 a2 true t107 t108 (decide (a1 < (wrap64 (8 * ((a0.extract 0 ((ji6) : Int).toNat).size : Int)))))) else (bailiwicklaw08_BitsWith.j0 k (a0.extract 0 ((ji6) : Int).toNat) a1 a2 true t107 t108 false)))) else (none)) else (none)) = some r := by first | (rw [hji6] at H; exact H) | (simp only [hji6] at H ⊢; exact H)
    (try rw [hji6] at A4)
    (try (have hji6h : ji6 ≤ 300 := by (rw [← hji6]; unfold mn; (repeat' split) <;> omega)))
    (try (have hji6g : ji6 ≤ 64 := by omega))
    (try (have hji6l : 0 ≤ ji6 := by (rw [← hji6]; unfold mn; (repeat' split) <;> omega)))
    (try (have hji6m : 0 ≤ ji6 := by omega))
    have hji6_ : (if 300 < (a0.size : Int) then 300 else (a0.size : Int)) = ji6 := hji6
    obtain ⟨bx6_a0, hbx6_a0⟩ : ∃ b_ : ByteArray, (a0.extract 0 (ji6 : Int).toNat) = b_ := ⟨_, rfl⟩
    have hbx6_a0z : bx6_a0.size ≤ 300 := by rw [← hbx6_a0, ByteArray.size_extract]; omega
    simp only [hbx6_a0] at H
    by_cases c7 : 0 ≤ (ji6)
    · rw [if_pos c7] at H
      have c7b0 := eq_true c7
      have c7b1 : decide (0 ≤ (ji6)) = true := decide_eq_true c7
      clear c7
      by_cases c8 : (ji6) ≤ (a0.size : Int)
      · rw [if_pos c8] at H
        have c8b0 := eq_true c8
        have c8b1 : decide ((ji6) ≤ (a0.size : Int)) = true := decide_eq_true c8
        clear c8
        replace H := Option.bind_eq_some_iff.mp H
        obtain ⟨t107, A90, H⟩ := H
        replace H : ((Go.Proofs.Ytbneljnmhofjfaa.G.bits_With.f bx6_a0 a1 false).bind fun t108 => (if a1 ≥ 0 then (bailiwicklaw08_BitsWith.j0 k bx6_a0 a1 a2 true t107 t108 (decide (a1 < (wrap64 (8 * (bx6_a0.size : Int)))))) else (bailiwicklaw08_BitsWith.j0 k bx6_a0 a1 a2 true t107 t108 false))) = some r := H
        have A9 := Aside0.mk A90
        clear A90
        replace H := Option.bind_eq_some_iff.mp H
        obtain ⟨t108, A100, H⟩ := H
        replace H : (if a1 ≥ 0 then (bailiwicklaw08_BitsWith.j0 k bx6_a0 a1 a2 true t107 t108 (decide (a1 < (wrap64 (8 * (bx6_a0.size : Int)))))) else (bailiwicklaw08_BitsWith.j0 k bx6_a0 a1 a2 true t107 t108 false)) = some r := H
        have A10 := Aside0.mk A100
        clear A100
        have HC11 := Aside0.mk H
        clear H
        go_enter Try.func5, Try.ntmps5
        (try dsimp only [List.append])
        go_upto_region 7 with (first | ((with_reducible refine gate_callee (f := 10) rfl ?_); refine goesL_ (some 12) rfl rfl Try.func10 (by kernel_rfl) rfl #[] rfl (by (try simp only [List.map_toArray, List.map_cons, List.map_nil]); first | done | rfl | (simp only [List.length_drop, List.length_take]; rfl)) ?_; (with_reducible refine (bailiwicklaw08_examples.calls  true _ A4.out).mono ?_); rintro e w12 ⟨rfl, hb⟩; refine ⟨_, rfl, ?_⟩; have n0_ := Aside0.mk (below_step (by repeat (first | (with_reducible first | exact HB.out | apply below_alloc | apply pw_below_drewN | apply below_drew1) | exact HB.out)) hb); clear HB; have HB := n0_; clear n0_; (try clear hb); (try clear hb2); (try clear hk); (try clear hi)) | ((with_reducible refine gate_callee (f := 15) rfl ?_); refine goesL_ (some 22) rfl rfl Try.func15 (by kernel_rfl) rfl #[.string bx6_a0, .int .i64 a1, .bool true] rfl (by (try simp only [List.map_toArray, List.map_cons, List.map_nil]); first | done | (simp only [hji6]; rfl) | rfl | (simp only [List.length_drop, List.length_take]; rfl)) ?_; (with_reducible refine (Go.Proofs.Ytbneljnmhofjfaa.G.bits_With.calls bx6_a0 a1 true t107 _ A9.out).mono ?_); rintro e w13 ⟨rfl, hb⟩; refine ⟨_, rfl, ?_⟩; have n0_ := Aside0.mk (below_step (by repeat (first | (with_reducible first | exact HB.out | apply below_alloc | apply pw_below_drewN | apply below_drew1) | exact HB.out)) hb); clear HB; have HB := n0_; clear n0_; (try clear hb); (try clear hb2); (try clear hk); (try clear hi)) | ((with_reducible refine gate_callee (f := 15) rfl ?_); refine goesL_ (some 25) rfl rfl Try.func15 (by kernel_rfl) rfl #[.string bx6_a0, .int .i64 a1, .bool false] rfl (by (try simp only [List.map_toArray, List.map_cons, List.map_nil]); first | done | (simp only [hji6]; rfl) | rfl | (simp only [List.length_drop, List.length_take]; rfl)) ?_; (with_reducible refine (Go.Proofs.Ytbneljnmhofjfaa.G.bits_With.calls bx6_a0 a1 false t108 _ A10.out).mono ?_); rintro e w14 ⟨rfl, hb⟩; refine ⟨_, rfl, ?_⟩; have n0_ := Aside0.mk (below_step (by repeat (first | (with_reducible first | exact HB.out | apply below_alloc | apply pw_below_drewN | apply below_drew1) | exact HB.out)) hb); clear HB; have HB := n0_; clear n0_; (try clear hb); (try clear hb2); (try clear hk); (try clear hi)))
        (try simp only [Act.put, List.setIfInBounds_toArray, List.set_cons_zero, List.set_cons_succ])
        go_cut [10] (fun v10 wc => ∃ (kq : Nat) (x10_10 : Bool), v10 = .bool x10_10 ∧ Aside0 (bailiwicklaw08_BitsWith.j0 kq bx6_a0 a1 a2 true t107 t108 x10_10 = some r) ∧ Aside0 (kq ≤ k) ∧ Aside0 (Below w.heap.size w wc))
        case first =>
          have H := HC11.out
          clear HC11
          by_cases c15 : a1 ≥ 0
          · rw [if_pos c15] at H
            have c15b0 : decide (0 ≤ a1) = true := decide_eq_true c15
            clear c15
            (first | rw [c15b0] | (simp only [i64_w, i32_w]; rw [c15b0]) | skip)
            have H' := Aside0.mk H
            clear H
            go_wp2
            go_meet
            case rel => exact ⟨_, (decide (a1 < (wrap64 (8 * (bx6_a0.size : Int))))), (by first | rfl | (simp; done) | (rw [show wrap64 (8 * (bx6_a0.size : Int)) = 8 * (bx6_a0.size : Int) from IntWalk.wrap64_in _ ⟨by omega, by omega⟩]) | (simp only [← hji6] <;> (first | rfl | simp)) | (simp [*]; done)), H', ⟨by first | omega | exact Nat.le_refl _⟩, ⟨by repeat (first | (with_reducible first | exact HB.out | apply below_alloc | apply pw_below_drewN | apply below_drew1) | exact HB.out)⟩⟩
          · rw [if_neg c15] at H
            have c15b0 : decide (0 ≤ a1) = false := decide_eq_false c15
            clear c15
            (first | rw [c15b0] | (simp only [i64_w, i32_w]; rw [c15b0]) | skip)
            have H' := Aside0.mk H
            clear H
            go_wp2
            go_meet
            case rel => exact ⟨_, (false), (by first | rfl | (simp; done) | (simp [*]; done)), H', ⟨by first | omega | exact Nat.le_refl _⟩, ⟨by repeat (first | (with_reducible first | exact HB.out | apply below_alloc | apply pw_below_drewN | apply below_drew1) | exact HB.out)⟩⟩
        case rest =>
          clear HC11
          try clear c1
          try clear p2
          try clear c5
          try clear p6
          try clear c7
          try clear c7b0
          try clear c7b1
          try clear c8
          try clear c8b0
          try clear c8b1
          try clear c10
          try clear c15
          try clear c15b0
          obtain ⟨kq, x10_10, rfl, HA, HJ10, HB⟩ := hcut
          cases kq with
          | zero => exact absurd HA.out (by simp [bailiwicklaw08_BitsWith.j0])
          | succ kj10 =>
            have H := HA.out
            clear HA
            simp only [bailiwicklaw08_BitsWith.j0] at H
            replace H := Option.bind_eq_some_iff.mp H
            obtain ⟨t109, A160, H⟩ := H
            replace H : ((Go.Proofs.Ytbneljnmhofjfaa.G.bits_Count.f t108).bind fun t110 => (if true = true then (if (t107.size : Int) = (bx6_a0.size : Int) then (if (t108.size : Int) = (bx6_a0.size : Int) then ((Go.Proofs.Ytbneljnmhofjfaa.P.bits_Has.f t107 a1).bind fun t111 => (if (t111 == x10_10) = true then ((Go.Proofs.Ytbneljnmhofjfaa.P.bits_Has.f t108 a1).bind fun t112 => (if t112 = true then (some false) else (if a2 = a1 then (if (((wrap64 (t109 - t110)) == 1) == x10_10) = true then (if (((wrap64 (t109 - t110)) == 0) == (!x10_10)) = true then (if t107.toList = bx6_a0.toList then (some true) else (some (t108.toList == bx6_a0.toList))) else (some false)) else (some false)) else ((Go.Proofs.Ytbneljnmhofjfaa.P.bits_Has.f t107 a2).bind fun t113 => ((Go.Proofs.Ytbneljnmhofjfaa.P.bits_Has.f bx6_a0 a2).bind fun t114 => (if (t113 == t114) = true then ((Go.Proofs.Ytbneljnmhofjfaa.P.bits_Has.f t108 a2).bind fun t115 => ((Go.Proofs.Ytbneljnmhofjfaa.P.bits_Has.f bx6_a0 a2).bind fun t114 => (if (t115 == t114) = true then (if (((wrap64 (t109 - t110)) == 1) == x10_10) = true then (if (((wrap64 (t109 - t110)) == 0) == (!x10_10)) = true then (if t107.toList = bx6_a0.toList then (some true) else (some (t108.toList == bx6_a0.toList))) else (some false)) else (some false)) else (some false)))) else (some false))))))) else (some false))) else (some false)) else (some false)) else (some false))) = some r := H
            have A16 := Aside0.mk A160
            clear A160
            replace H := Option.bind_eq_some_iff.mp H
            obtain ⟨t110, A170, H⟩ := H
            replace H : (if true = true then (if (t107.size : Int) = (bx6_a0.size : Int) then (if (t108.size : Int) = (bx6_a0.size : Int) then ((Go.Proofs.Ytbneljnmhofjfaa.P.bits_Has.f t107 a1).bind fun t111 => (if (t111 == x10_10) = true then ((Go.Proofs.Ytbneljnmhofjfaa.P.bits_Has.f t108 a1).bind fun t112 => (if t112 = true then (some false) else (if a2 = a1 then (if (((wrap64 (t109 - t110)) == 1) == x10_10) = true then (if (((wrap64 (t109 - t110)) == 0) == (!x10_10)) = true then (if t107.toList = bx6_a0.toList then (some true) else (some (t108.toList == bx6_a0.toList))) else (some false)) else (some false)) else ((Go.Proofs.Ytbneljnmhofjfaa.P.bits_Has.f t107 a2).bind fun t113 => ((Go.Proofs.Ytbneljnmhofjfaa.P.bits_Has.f bx6_a0 a2).bind fun t114 => (if (t113 == t114) = true then ((Go.Proofs.Ytbneljnmhofjfaa.P.bits_Has.f t108 a2).bind fun t115 => ((Go.Proofs.Ytbneljnmhofjfaa.P.bits_Has.f bx6_a0 a2).bind fun t114 => (if (t115 == t114) = true then (if (((wrap64 (t109 - t110)) == 1) == x10_10) = true then (if (((wrap64 (t109 - t110)) == 0) == (!x10_10)) = true then (if t107.toList = bx6_a0.toList then (some true) else (some (t108.toList == bx6_a0.toList))) else (some false)) else (some false)) else (some false)))) else (some false))))))) else (some false))) else (some false)) else (some false)) else (some false)) = some r := H
            have A17 := Aside0.mk A170
            clear A170
            by_cases c18 : true = true
            · clear c18
              have H1 : (if (t107.size : Int) = (bx6_a0.size : Int) then (if (t108.size : Int) = (bx6_a0.size : Int) then ((Go.Proofs.Ytbneljnmhofjfaa.P.bits_Has.f t107 a1).bind fun t111 => (if (t111 == x10_10) = true then ((Go.Proofs.Ytbneljnmhofjfaa.P.bits_Has.f t108 a1).bind fun t112 => (if t112 = true then (some false) else (if a2 = a1 then (if (((wrap64 (t109 - t110)) == 1) == x10_10) = true then (if (((wrap64 (t109 - t110)) == 0) == (!x10_10)) = true then (if t107.toList = bx6_a0.toList then (some true) else (some (t108.toList == bx6_a0.toList))) else (some false)) else (some false)) else ((Go.Proofs.Ytbneljnmhofjfaa.P.bits_Has.f t107 a2).bind fun t113 => ((Go.Proofs.Ytbneljnmhofjfaa.P.bits_Has.f bx6_a0 a2).bind fun t114 => (if (t113 == t114) = true then ((Go.Proofs.Ytbneljnmhofjfaa.P.bits_Has.f t108 a2).bind fun t115 => ((Go.Proofs.Ytbneljnmhofjfaa.P.bits_Has.f bx6_a0 a2).bind fun t114 => (if (t115 == t114) = true then (if (((wrap64 (t109 - t110)) == 1) == x10_10) = true then (if (((wrap64 (t109 - t110)) == 0) == (!x10_10)) = true then (if t107.toList = bx6_a0.toList then (some true) else (some (t108.toList == bx6_a0.toList))) else (some false)) else (some false)) else (some false)))) else (some false))))))) else (some false))) else (some false)) else (some false)) = some r := by first | (rw [if_pos rfl] at H; exact H) | (rw [if_pos trivial] at H; exact H)
              clear H
              have H := H1
              clear H1
              by_cases c19 : (t107.size : Int) = (bx6_a0.size : Int)
              · rw [if_pos c19] at H
                have c19b0 : ((t107.size : Int) == (bx6_a0.size : Int)) = true := beq_iff_eq.mpr c19
                have c19b1 : ((t107.size : Int) != (bx6_a0.size : Int)) = false := bne_eq_false_iff_eq.mpr c19
                have c19b2 : (t107.size == bx6_a0.size) = true := by first | simpa using c19 | (simp at c19 ⊢; omega)
                clear c19
                by_cases c20 : (t108.size : Int) = (bx6_a0.size : Int)
                · rw [if_pos c20] at H
                  have c20b0 : ((t108.size : Int) == (bx6_a0.size : Int)) = true := beq_iff_eq.mpr c20
                  have c20b1 : ((t108.size : Int) != (bx6_a0.size : Int)) = false := bne_eq_false_iff_eq.mpr c20
                  have c20b2 : (t108.size == bx6_a0.size) = true := by first | simpa using c20 | (simp at c20 ⊢; omega)
                  clear c20
                  replace H := Option.bind_eq_some_iff.mp H
                  obtain ⟨t111, A210, H⟩ := H
                  replace H : (if (t111 == x10_10) = true then ((Go.Proofs.Ytbneljnmhofjfaa.P.bits_Has.f t108 a1).bind fun t112 => (if t112 = true then (some false) else (if a2 = a1 then (if (((wrap64 (t109 - t110)) == 1) == x10_10) = true then (if (((wrap64 (t109 - t110)) == 0) == (!x10_10)) = true then (if t107.toList = bx6_a0.toList then (some true) else (some (t108.toList == bx6_a0.toList))) else (some false)) else (some false)) else ((Go.Proofs.Ytbneljnmhofjfaa.P.bits_Has.f t107 a2).bind fun t113 => ((Go.Proofs.Ytbneljnmhofjfaa.P.bits_Has.f bx6_a0 a2).bind fun t114 => (if (t113 == t114) = true then ((Go.Proofs.Ytbneljnmhofjfaa.P.bits_Has.f t108 a2).bind fun t115 => ((Go.Proofs.Ytbneljnmhofjfaa.P.bits_Has.f bx6_a0 a2).bind fun t114 => (if (t115 == t114) = true then (if (((wrap64 (t109 - t110)) == 1) == x10_10) = true then (if (((wrap64 (t109 - t110)) == 0) == (!x10_10)) = true then (if t107.toList = bx6_a0.toList then (some true) else (some (t108.toList == bx6_a0.toList))) else (some false)) else (some false)) else (some false)))) else (some false))))))) else (some false)) = some r := H
                  have A21 := Aside0.mk A210
                  clear A210
                  by_cases c22 : (t111 == x10_10) = true
                  · rw [if_pos c22] at H
                    have c22b0 : (t111 == x10_10) = true := c22
                    (try (have c22b1 : decide (t111 = x10_10) = true := by simpa using c22))
                    (try (have c22b2 : (t111 == x10_10) = true := by simpa using c22))
                    clear c22
                    replace H := Option.bind_eq_some_iff.mp H
                    obtain ⟨t112, A230, H⟩ := H
                    replace H : (if t112 = true then (some false) else (if a2 = a1 then (if (((wrap64 (t109 - t110)) == 1) == x10_10) = true then (if (((wrap64 (t109 - t110)) == 0) == (!x10_10)) = true then (if t107.toList = bx6_a0.toList then (some true) else (some (t108.toList == bx6_a0.toList))) else (some false)) else (some false)) else ((Go.Proofs.Ytbneljnmhofjfaa.P.bits_Has.f t107 a2).bind fun t113 => ((Go.Proofs.Ytbneljnmhofjfaa.P.bits_Has.f bx6_a0 a2).bind fun t114 => (if (t113 == t114) = true then ((Go.Proofs.Ytbneljnmhofjfaa.P.bits_Has.f t108 a2).bind fun t115 => ((Go.Proofs.Ytbneljnmhofjfaa.P.bits_Has.f bx6_a0 a2).bind fun t114 => (if (t115 == t114) = true then (if (((wrap64 (t109 - t110)) == 1) == x10_10) = true then (if (((wrap64 (t109 - t110)) == 0) == (!x10_10)) = true then (if t107.toList = bx6_a0.toList then (some true) else (some (t108.toList == bx6_a0.toList))) else (some false)) else (some false)) else (some false)))) else (some false)))))) = some r := H
                    have A23 := Aside0.mk A230
                    clear A230
                    by_cases c24 : t112 = true
                    · subst c24
                      have H1 : (some false) = some r := by first | (rw [if_pos rfl] at H; exact H) | (rw [if_pos trivial] at H; exact H)
                      clear H
                      have H := H1
                      clear H1
                      obtain rfl := Option.some.inj H
                      exact absurd hrp_ (by decide)
                    · replace c24 := Bool.eq_false_iff.mpr c24
                      subst c24
                      have H1 : (if a2 = a1 then (if (((wrap64 (t109 - t110)) == 1) == x10_10) = true then (if (((wrap64 (t109 - t110)) == 0) == (!x10_10)) = true then (if t107.toList = bx6_a0.toList then (some true) else (some (t108.toList == bx6_a0.toList))) else (some false)) else (some false)) else ((Go.Proofs.Ytbneljnmhofjfaa.P.bits_Has.f t107 a2).bind fun t113 => ((Go.Proofs.Ytbneljnmhofjfaa.P.bits_Has.f bx6_a0 a2).bind fun t114 => (if (t113 == t114) = true then ((Go.Proofs.Ytbneljnmhofjfaa.P.bits_Has.f t108 a2).bind fun t115 => ((Go.Proofs.Ytbneljnmhofjfaa.P.bits_Has.f bx6_a0 a2).bind fun t114 => (if (t115 == t114) = true then (if (((wrap64 (t109 - t110)) == 1) == x10_10) = true then (if (((wrap64 (t109 - t110)) == 0) == (!x10_10)) = true then (if t107.toList = bx6_a0.toList then (some true) else (some (t108.toList == bx6_a0.toList))) else (some false)) else (some false)) else (some false)))) else (some false))))) = some r := by rw [if_neg (show ¬ (false = true) by decide)] at H; exact H
                      clear H
                      have H := H1
                      clear H1
                      by_cases c25 : a2 = a1
                      · rw [if_pos c25] at H
                        have c25b0 : (a2 == a1) = true := beq_iff_eq.mpr c25
                        have c25b1 : (a2 != a1) = false := bne_eq_false_iff_eq.mpr c25
                        clear c25
                        by_cases c26 : (((wrap64 (t109 - t110)) == 1) == x10_10) = true
                        · rw [if_pos c26] at H
                          have c26b0 : (((wrap64 (t109 - t110)) == 1) == x10_10) = true := c26
                          (try (have c26b1 : decide (((wrap64 (t109 - t110)) == 1) = x10_10) = true := by simpa using c26))
                          (try (have c26b2 : (((wrap64 (t109 - t110)) == 1) == x10_10) = true := by simpa using c26))
                          clear c26
                          by_cases c27 : (((wrap64 (t109 - t110)) == 0) == (!x10_10)) = true
                          · rw [if_pos c27] at H
                            have c27b0 : (((wrap64 (t109 - t110)) == 0) == (!x10_10)) = true := c27
                            (try (have c27b1 : decide (((wrap64 (t109 - t110)) == 0) = (!x10_10)) = true := by simpa using c27))
                            (try (have c27b2 : (((wrap64 (t109 - t110)) == 0) == (!x10_10)) = true := by simpa using c27))
                            clear c27
                            by_cases c28 : t107.toList = bx6_a0.toList
                            · rw [if_pos c28] at H
                              have c28b0 : (t107.toList == bx6_a0.toList) = true := beq_iff_eq.mpr c28
                              have c28b1 : (t107.toList != bx6_a0.toList) = false := bne_eq_false_iff_eq.mpr c28
                              clear c28
                              obtain rfl := Option.some.inj H
                              clear hrp_
                              go_wp2_with (first | ((with_reducible refine gate_callee (f := 19) rfl ?_); refine goesL_ (some 36) rfl rfl Try.func19 (by kernel_rfl) rfl #[.string t107] rfl (by (try simp only [List.map_toArray, List.map_cons, List.map_nil]); first | done | rfl | (simp only [List.length_drop, List.length_take]; rfl)) ?_; (with_reducible refine (Go.Proofs.Ytbneljnmhofjfaa.G.bits_Count.calls t107 t109 _ A16.out).mono ?_); rintro e w' ⟨rfl, ⟨nd, rfl⟩⟩; refine ⟨_, rfl, ?_⟩) | ((with_reducible refine gate_callee (f := 19) rfl ?_); refine goesL_ (some 38) rfl rfl Try.func19 (by kernel_rfl) rfl #[.string t108] rfl (by (try simp only [List.map_toArray, List.map_cons, List.map_nil]); first | done | rfl | (simp only [List.length_drop, List.length_take]; rfl)) ?_; (with_reducible refine (Go.Proofs.Ytbneljnmhofjfaa.G.bits_Count.calls t108 t110 _ A17.out).mono ?_); rintro e w' ⟨rfl, ⟨nd, rfl⟩⟩; refine ⟨_, rfl, ?_⟩) | (go_at_call 13; (with_reducible refine (Go.Proofs.Ytbneljnmhofjfaa.P.bits_Has.calls t107 a1 t111 _ A21.out).mono ?_); rintro e w' ⟨rfl, ⟨nd, rfl⟩⟩) | (go_at_call 13; (with_reducible refine (Go.Proofs.Ytbneljnmhofjfaa.P.bits_Has.calls t108 a1 false _ A23.out).mono ?_); rintro e w' ⟨rfl, ⟨nd, rfl⟩⟩))
                              go_ret
                              exact ⟨by first | rfl | (simp [errW_none, errW_some] <;> rfl) | (simp only [← hji6]; first | rfl | (simp [errW_none, errW_some] <;> rfl)) | (simp [*, errW_none, errW_some] <;> rfl), by repeat (first | (with_reducible first | exact HB.out | apply below_alloc | apply pw_below_drewN | apply below_drew1) | exact HB.out)⟩
                            · rw [if_neg c28] at H
                              have c28b0 : (t107.toList == bx6_a0.toList) = false := beq_eq_false_iff_ne.mpr c28
                              have c28b1 : (t107.toList != bx6_a0.toList) = true := bne_iff_ne.mpr c28
                              obtain rfl := Option.some.inj H
                              clear hrp_
                              go_wp2_with (first | ((with_reducible refine gate_callee (f := 19) rfl ?_); refine goesL_ (some 36) rfl rfl Try.func19 (by kernel_rfl) rfl #[.string t107] rfl (by (try simp only [List.map_toArray, List.map_cons, List.map_nil]); first | done | rfl | (simp only [List.length_drop, List.length_take]; rfl)) ?_; (with_reducible refine (Go.Proofs.Ytbneljnmhofjfaa.G.bits_Count.calls t107 t109 _ A16.out).mono ?_); rintro e w' ⟨rfl, ⟨nd, rfl⟩⟩; refine ⟨_, rfl, ?_⟩) | ((with_reducible refine gate_callee (f := 19) rfl ?_); refine goesL_ (some 38) rfl rfl Try.func19 (by kernel_rfl) rfl #[.string t108] rfl (by (try simp only [List.map_toArray, List.map_cons, List.map_nil]); first | done | rfl | (simp only [List.length_drop, List.length_take]; rfl)) ?_; (with_reducible refine (Go.Proofs.Ytbneljnmhofjfaa.G.bits_Count.calls t108 t110 _ A17.out).mono ?_); rintro e w' ⟨rfl, ⟨nd, rfl⟩⟩; refine ⟨_, rfl, ?_⟩) | (go_at_call 13; (with_reducible refine (Go.Proofs.Ytbneljnmhofjfaa.P.bits_Has.calls t107 a1 t111 _ A21.out).mono ?_); rintro e w' ⟨rfl, ⟨nd, rfl⟩⟩) | (go_at_call 13; (with_reducible refine (Go.Proofs.Ytbneljnmhofjfaa.P.bits_Has.calls t108 a1 false _ A23.out).mono ?_); rintro e w' ⟨rfl, ⟨nd, rfl⟩⟩))
                              go_ret
                              exact ⟨by first | rfl | (simp [errW_none, errW_some] <;> rfl) | (simp only [← hji6]; first | rfl | (simp [errW_none, errW_some] <;> rfl)) | (simp [*, errW_none, errW_some] <;> rfl), by repeat (first | (with_reducible first | exact HB.out | apply below_alloc | apply pw_below_drewN | apply below_drew1) | exact HB.out)⟩
                          · rw [if_neg c27] at H
                            have c27b0 : (((wrap64 (t109 - t110)) == 0) == (!x10_10)) = false := by simpa using c27
                            (try (have c27b1 : decide (((wrap64 (t109 - t110)) == 0) = (!x10_10)) = false := by simpa using c27))
                            (try (have c27b2 : (((wrap64 (t109 - t110)) == 0) == (!x10_10)) = false := by simpa using c27))
                            (try (have c27b3 : ¬ (((wrap64 (t109 - t110)) == 0) = (!x10_10)) := by simpa using c27))
                            clear c27
                            obtain rfl := Option.some.inj H
                            exact absurd hrp_ (by decide)
                        · rw [if_neg c26] at H
                          have c26b0 : (((wrap64 (t109 - t110)) == 1) == x10_10) = false := by simpa using c26
                          (try (have c26b1 : decide (((wrap64 (t109 - t110)) == 1) = x10_10) = false := by simpa using c26))
                          (try (have c26b2 : (((wrap64 (t109 - t110)) == 1) == x10_10) = false := by simpa using c26))
                          (try (have c26b3 : ¬ (((wrap64 (t109 - t110)) == 1) = x10_10) := by simpa using c26))
                          clear c26
                          obtain rfl := Option.some.inj H
                          exact absurd hrp_ (by decide)
                      · rw [if_neg c25] at H
                        have c25b0 : (a2 == a1) = false := beq_eq_false_iff_ne.mpr c25
                        have c25b1 : (a2 != a1) = true := bne_iff_ne.mpr c25
                        replace H := Option.bind_eq_some_iff.mp H
                        obtain ⟨t113, A290, H⟩ := H
                        replace H : ((Go.Proofs.Ytbneljnmhofjfaa.P.bits_Has.f bx6_a0 a2).bind fun t114 => (if (t113 == t114) = true then ((Go.Proofs.Ytbneljnmhofjfaa.P.bits_Has.f t108 a2).bind fun t115 => ((Go.Proofs.Ytbneljnmhofjfaa.P.bits_Has.f bx6_a0 a2).bind fun t114 => (if (t115 == t114) = true then (if (((wrap64 (t109 - t110)) == 1) == x10_10) = true then (if (((wrap64 (t109 - t110)) == 0) == (!x10_10)) = true then (if t107.toList = bx6_a0.toList then (some true) else (some (t108.toList == bx6_a0.toList))) else (some false)) else (some false)) else (some false)))) else (some false))) = some r := H
                        have A29 := Aside0.mk A290
                        clear A290
                        replace H := Option.bind_eq_some_iff.mp H
                        obtain ⟨t114, A300, H⟩ := H
                        replace H : (if (t113 == t114) = true then ((Go.Proofs.Ytbneljnmhofjfaa.P.bits_Has.f t108 a2).bind fun t115 => ((Go.Proofs.Ytbneljnmhofjfaa.P.bits_Has.f bx6_a0 a2).bind fun t114 => (if (t115 == t114) = true then (if (((wrap64 (t109 - t110)) == 1) == x10_10) = true then (if (((wrap64 (t109 - t110)) == 0) == (!x10_10)) = true then (if t107.toList = bx6_a0.toList then (some true) else (some (t108.toList == bx6_a0.toList))) else (some false)) else (some false)) else (some false)))) else (some false)) = some r := H
                        have A30 := Aside0.mk A300
                        clear A300
                        by_cases c31 : (t113 == t114) = true
                        · rw [if_pos c31] at H
                          have c31b0 : (t113 == t114) = true := c31
                          (try (have c31b1 : decide (t113 = t114) = true := by simpa using c31))
                          (try (have c31b2 : (t113 == t114) = true := by simpa using c31))
                          clear c31
                          replace H := Option.bind_eq_some_iff.mp H
                          obtain ⟨t115, A320, H⟩ := H
                          replace H : ((Go.Proofs.Ytbneljnmhofjfaa.P.bits_Has.f bx6_a0 a2).bind fun t114 => (if (t115 == t114) = true then (if (((wrap64 (t109 - t110)) == 1) == x10_10) = true then (if (((wrap64 (t109 - t110)) == 0) == (!x10_10)) = true then (if t107.toList = bx6_a0.toList then (some true) else (some (t108.toList == bx6_a0.toList))) else (some false)) else (some false)) else (some false))) = some r := H
                          have A32 := Aside0.mk A320
                          clear A320
                          replace H := Option.bind_eq_some_iff.mp H
                          obtain ⟨t114, A330, H⟩ := H
                          replace H : (if (t115 == t114) = true then (if (((wrap64 (t109 - t110)) == 1) == x10_10) = true then (if (((wrap64 (t109 - t110)) == 0) == (!x10_10)) = true then (if t107.toList = bx6_a0.toList then (some true) else (some (t108.toList == bx6_a0.toList))) else (some false)) else (some false)) else (some false)) = some r := H
                          have A33 := Aside0.mk A330
                          clear A330
                          obtain rfl := Option.some.inj (A33.out.symm.trans A30.out)
                          by_cases c34 : (t115 == t114) = true
                          · rw [if_pos c34] at H
                            have c34b0 : (t115 == t114) = true := c34
                            (try (have c34b1 : decide (t115 = t114) = true := by simpa using c34))
                            (try (have c34b2 : (t115 == t114) = true := by simpa using c34))
                            clear c34
                            by_cases c35 : (((wrap64 (t109 - t110)) == 1) == x10_10) = true
                            · rw [if_pos c35] at H
                              have c35b0 : (((wrap64 (t109 - t110)) == 1) == x10_10) = true := c35
                              (try (have c35b1 : decide (((wrap64 (t109 - t110)) == 1) = x10_10) = true := by simpa using c35))
                              (try (have c35b2 : (((wrap64 (t109 - t110)) == 1) == x10_10) = true := by simpa using c35))
                              clear c35
                              by_cases c36 : (((wrap64 (t109 - t110)) == 0) == (!x10_10)) = true
                              · rw [if_pos c36] at H
                                have c36b0 : (((wrap64 (t109 - t110)) == 0) == (!x10_10)) = true := c36
                                (try (have c36b1 : decide (((wrap64 (t109 - t110)) == 0) = (!x10_10)) = true := by simpa using c36))
                                (try (have c36b2 : (((wrap64 (t109 - t110)) == 0) == (!x10_10)) = true := by simpa using c36))
                                clear c36
                                by_cases c37 : t107.toList = bx6_a0.toList
                                · rw [if_pos c37] at H
                                  have c37b0 : (t107.toList == bx6_a0.toList) = true := beq_iff_eq.mpr c37
                                  have c37b1 : (t107.toList != bx6_a0.toList) = false := bne_eq_false_iff_eq.mpr c37
                                  clear c37
                                  obtain rfl := Option.some.inj H
                                  clear hrp_
                                  go_wp2_with (first | ((with_reducible refine gate_callee (f := 19) rfl ?_); refine goesL_ (some 36) rfl rfl Try.func19 (by kernel_rfl) rfl #[.string t107] rfl (by (try simp only [List.map_toArray, List.map_cons, List.map_nil]); first | done | rfl | (simp only [List.length_drop, List.length_take]; rfl)) ?_; (with_reducible refine (Go.Proofs.Ytbneljnmhofjfaa.G.bits_Count.calls t107 t109 _ A16.out).mono ?_); rintro e w' ⟨rfl, ⟨nd, rfl⟩⟩; refine ⟨_, rfl, ?_⟩) | ((with_reducible refine gate_callee (f := 19) rfl ?_); refine goesL_ (some 38) rfl rfl Try.func19 (by kernel_rfl) rfl #[.string t108] rfl (by (try simp only [List.map_toArray, List.map_cons, List.map_nil]); first | done | rfl | (simp only [List.length_drop, List.length_take]; rfl)) ?_; (with_reducible refine (Go.Proofs.Ytbneljnmhofjfaa.G.bits_Count.calls t108 t110 _ A17.out).mono ?_); rintro e w' ⟨rfl, ⟨nd, rfl⟩⟩; refine ⟨_, rfl, ?_⟩) | (go_at_call 13; (with_reducible refine (Go.Proofs.Ytbneljnmhofjfaa.P.bits_Has.calls t107 a1 t111 _ A21.out).mono ?_); rintro e w' ⟨rfl, ⟨nd, rfl⟩⟩) | (go_at_call 13; (with_reducible refine (Go.Proofs.Ytbneljnmhofjfaa.P.bits_Has.calls t108 a1 false _ A23.out).mono ?_); rintro e w' ⟨rfl, ⟨nd, rfl⟩⟩) | (go_at_call 13; (with_reducible refine (Go.Proofs.Ytbneljnmhofjfaa.P.bits_Has.calls t107 a2 t113 _ A29.out).mono ?_); rintro e w' ⟨rfl, ⟨nd, rfl⟩⟩) | (go_at_call 13; (with_reducible refine (Go.Proofs.Ytbneljnmhofjfaa.P.bits_Has.calls bx6_a0 a2 t114 _ A30.out).mono ?_); rintro e w' ⟨rfl, ⟨nd, rfl⟩⟩) | (go_at_call 13; (with_reducible refine (Go.Proofs.Ytbneljnmhofjfaa.P.bits_Has.calls t108 a2 t115 _ A32.out).mono ?_); rintro e w' ⟨rfl, ⟨nd, rfl⟩⟩) | (go_at_call 13; (with_reducible refine (Go.Proofs.Ytbneljnmhofjfaa.P.bits_Has.calls bx6_a0 a2 t114 _ A33.out).mono ?_); rintro e w' ⟨rfl, ⟨nd, rfl⟩⟩))
                                  go_ret
                                  exact ⟨by first | rfl | (simp [errW_none, errW_some] <;> rfl) | (simp only [← hji6]; first | rfl | (simp [errW_none, errW_some] <;> rfl)) | (simp [*, errW_none, errW_some] <;> rfl), by repeat (first | (with_reducible first | exact HB.out | apply below_alloc | apply pw_below_drewN | apply below_drew1) | exact HB.out)⟩
                                · rw [if_neg c37] at H
                                  have c37b0 : (t107.toList == bx6_a0.toList) = false := beq_eq_false_iff_ne.mpr c37
                                  have c37b1 : (t107.toList != bx6_a0.toList) = true := bne_iff_ne.mpr c37
                                  obtain rfl := Option.some.inj H
                                  clear hrp_
                                  go_wp2_with (first | ((with_reducible refine gate_callee (f := 19) rfl ?_); refine goesL_ (some 36) rfl rfl Try.func19 (by kernel_rfl) rfl #[.string t107] rfl (by (try simp only [List.map_toArray, List.map_cons, List.map_nil]); first | done | rfl | (simp only [List.length_drop, List.length_take]; rfl)) ?_; (with_reducible refine (Go.Proofs.Ytbneljnmhofjfaa.G.bits_Count.calls t107 t109 _ A16.out).mono ?_); rintro e w' ⟨rfl, ⟨nd, rfl⟩⟩; refine ⟨_, rfl, ?_⟩) | ((with_reducible refine gate_callee (f := 19) rfl ?_); refine goesL_ (some 38) rfl rfl Try.func19 (by kernel_rfl) rfl #[.string t108] rfl (by (try simp only [List.map_toArray, List.map_cons, List.map_nil]); first | done | rfl | (simp only [List.length_drop, List.length_take]; rfl)) ?_; (with_reducible refine (Go.Proofs.Ytbneljnmhofjfaa.G.bits_Count.calls t108 t110 _ A17.out).mono ?_); rintro e w' ⟨rfl, ⟨nd, rfl⟩⟩; refine ⟨_, rfl, ?_⟩) | (go_at_call 13; (with_reducible refine (Go.Proofs.Ytbneljnmhofjfaa.P.bits_Has.calls t107 a1 t111 _ A21.out).mono ?_); rintro e w' ⟨rfl, ⟨nd, rfl⟩⟩) | (go_at_call 13; (with_reducible refine (Go.Proofs.Ytbneljnmhofjfaa.P.bits_Has.calls t108 a1 false _ A23.out).mono ?_); rintro e w' ⟨rfl, ⟨nd, rfl⟩⟩) | (go_at_call 13; (with_reducible refine (Go.Proofs.Ytbneljnmhofjfaa.P.bits_Has.calls t107 a2 t113 _ A29.out).mono ?_); rintro e w' ⟨rfl, ⟨nd, rfl⟩⟩) | (go_at_call 13; (with_reducible refine (Go.Proofs.Ytbneljnmhofjfaa.P.bits_Has.calls bx6_a0 a2 t114 _ A30.out).mono ?_); rintro e w' ⟨rfl, ⟨nd, rfl⟩⟩) | (go_at_call 13; (with_reducible refine (Go.Proofs.Ytbneljnmhofjfaa.P.bits_Has.calls t108 a2 t115 _ A32.out).mono ?_); rintro e w' ⟨rfl, ⟨nd, rfl⟩⟩) | (go_at_call 13; (with_reducible refine (Go.Proofs.Ytbneljnmhofjfaa.P.bits_Has.calls bx6_a0 a2 t114 _ A33.out).mono ?_); rintro e w' ⟨rfl, ⟨nd, rfl⟩⟩))
                                  go_ret
                                  exact ⟨by first | rfl | (simp [errW_none, errW_some] <;> rfl) | (simp only [← hji6]; first | rfl | (simp [errW_none, errW_some] <;> rfl)) | (simp [*, errW_none, errW_some] <;> rfl), by repeat (first | (with_reducible first | exact HB.out | apply below_alloc | apply pw_below_drewN | apply below_drew1) | exact HB.out)⟩
                              · rw [if_neg c36] at H
                                have c36b0 : (((wrap64 (t109 - t110)) == 0) == (!x10_10)) = false := by simpa using c36
                                (try (have c36b1 : decide (((wrap64 (t109 - t110)) == 0) = (!x10_10)) = false := by simpa using c36))
                                (try (have c36b2 : (((wrap64 (t109 - t110)) == 0) == (!x10_10)) = false := by simpa using c36))
                                (try (have c36b3 : ¬ (((wrap64 (t109 - t110)) == 0) = (!x10_10)) := by simpa using c36))
                                clear c36
                                obtain rfl := Option.some.inj H
                                exact absurd hrp_ (by decide)
                            · rw [if_neg c35] at H
                              have c35b0 : (((wrap64 (t109 - t110)) == 1) == x10_10) = false := by simpa using c35
                              (try (have c35b1 : decide (((wrap64 (t109 - t110)) == 1) = x10_10) = false := by simpa using c35))
                              (try (have c35b2 : (((wrap64 (t109 - t110)) == 1) == x10_10) = false := by simpa using c35))
                              (try (have c35b3 : ¬ (((wrap64 (t109 - t110)) == 1) = x10_10) := by simpa using c35))
                              clear c35
                              obtain rfl := Option.some.inj H
                              exact absurd hrp_ (by decide)
                          · rw [if_neg c34] at H
                            have c34b0 : (t115 == t114) = false := by simpa using c34
                            (try (have c34b1 : decide (t115 = t114) = false := by simpa using c34))
                            (try (have c34b2 : (t115 == t114) = false := by simpa using c34))
                            (try (have c34b3 : ¬ (t115 = t114) := by simpa using c34))
                            clear c34
                            obtain rfl := Option.some.inj H
                            exact absurd hrp_ (by decide)
                        · rw [if_neg c31] at H
                          have c31b0 : (t113 == t114) = false := by simpa using c31
                          (try (have c31b1 : decide (t113 = t114) = false := by simpa using c31))
                          (try (have c31b2 : (t113 == t114) = false := by simpa using c31))
                          (try (have c31b3 : ¬ (t113 = t114) := by simpa using c31))
                          clear c31
                          obtain rfl := Option.some.inj H
                          exact absurd hrp_ (by decide)
                  · rw [if_neg c22] at H
                    have c22b0 : (t111 == x10_10) = false := by simpa using c22
                    (try (have c22b1 : decide (t111 = x10_10) = false := by simpa using c22))
                    (try (have c22b2 : (t111 == x10_10) = false := by simpa using c22))
                    (try (have c22b3 : ¬ (t111 = x10_10) := by simpa using c22))
                    clear c22
                    obtain rfl := Option.some.inj H
                    exact absurd hrp_ (by decide)
                · rw [if_neg c20] at H
                  have c20b0 : ((t108.size : Int) == (bx6_a0.size : Int)) = false := beq_eq_false_iff_ne.mpr c20
                  have c20b1 : ((t108.size : Int) != (bx6_a0.size : Int)) = true := bne_iff_ne.mpr c20
                  have c20b2 : (t108.size == bx6_a0.size) = false := by first | simpa using c20 | (simp at c20 ⊢; omega)
                  obtain rfl := Option.some.inj H
                  exact absurd hrp_ (by decide)
              · rw [if_neg c19] at H
                have c19b0 : ((t107.size : Int) == (bx6_a0.size : Int)) = false := beq_eq_false_iff_ne.mpr c19
                have c19b1 : ((t107.size : Int) != (bx6_a0.size : Int)) = true := bne_iff_ne.mpr c19
                have c19b2 : (t107.size == bx6_a0.size) = false := by first | simpa using c19 | (simp at c19 ⊢; omega)
                obtain rfl := Option.some.inj H
                exact absurd hrp_ (by decide)
            · exact absurd rfl c18
      · rw [if_neg c8] at H
        exact absurd H (by simp)
    · rw [if_neg c7] at H
      exact absurd H (by simp)
  · replace c5 := Bool.eq_false_iff.mpr c5
    subst c5
    have H1 : (some false) = some r := by rw [if_neg (show ¬ (false = true) by decide)] at H; exact H
    clear H
    have H := H1
    clear H1
    obtain rfl := Option.some.inj H
    exact absurd hrp_ (by decide)

/-- THE ONE PURE STATEMENT of bailiwicklaw08_BitsWith: yours. -/
def bailiwicklaw08_BitsWith.Pure : Prop := ∀ (a0 : ByteArray) (a1 : Int) (a2 : Int), a0.size ≤ 140737488351232 → (Lit.int .i64 a1).wf = true → (Lit.int .i64 a2).wf = true → ∃ k, bailiwicklaw08_BitsWith.f k a0 a1 a2 = some true
theorem bailiwicklaw08_BitsWith.walk (P : bailiwicklaw08_BitsWith.Pure) (a0 : ByteArray) (a1 : Int) (a2 : Int) (w : World) (w0 : a0.size ≤ 140737488351232) (w1 : (Lit.int .i64 a1).wf = true) (w2 : (Lit.int .i64 a2).wf = true) :
    Calls Try.prog 5 #[.string a0, .int .i64 a1, .int .i64 a2] w fun e w' => e = .returned (.bool true) ∧ Below w.heap.size w w' := by
  obtain ⟨k, h⟩ := P a0 a1 a2 w0 w1 w2
  refine (bailiwicklaw08_BitsWith.calls k a0 a1 a2 true w h rfl).mono ?_
  rintro e w' ⟨rfl, hd⟩
  exact ⟨rfl, hd⟩

end Go.Proofs.Ytbneljnmhofjfaa.V
