-- Written by a program of this session (gp.py), which drives the print with some lines turned. Not trusted: Lean checks it.
import Derived.Test.YtbneljnmhofjfaaGx0
namespace Go.Proofs.Ytbneljnmhofjfaa.G
open Go.RowKit Go.Proofs.YtbneljnmhofjfaaW.PrintWords Go.Proofs.YtbneljnmhofjfaaW.PrintLast Go.Proofs.YtbneljnmhofjfaaW.PrintMore
attribute [local go_sem] max2_int min2_int max_two min_two max_three min_three max_four min_four emod_u8 emod_u16 emod_u32
set_option linter.unusedVariables false
set_option linter.unusedSimpArgs false

-- NOT PRINTED: function 25 (bits_TrailingZeros8)

-- PROVED BY HAND: function 11 (bits_First)

-- PROVED BY HAND: function 13 (bits_Has)

-- PROVED BY HAND: function 15 (bits_With)

-- NOT PRINTED: function 38 (bits_Mul32)

-- NOT PRINTED: function 39 (bits_Mul64)

-- NOT PRINTED: function 32 (bits_Mul)

-- NOT PRINTED: function 40 (stringslite_HasPrefix)

-- NOT PRINTED: function 33 (strings_HasPrefix)

-- NOT PRINTED: function 43 (abi_NoEscape)

-- NOT PRINTED: function 41 (strings_Builder_copyCheck)

-- NOT PRINTED: function 44 (bytealg_MakeNoZero)

-- NOT PRINTED: function 42 (strings_Builder_grow)

-- NOT PRINTED: function 34 (strings_Builder_Grow)

-- NOT PRINTED: function 35 (strings_Builder_WriteString)

-- NOT PRINTED: function 36 (strings_Builder_Len)

-- NOT PRINTED: function 37 (strings_Builder_String)

-- NOT PRINTED: function 27 (strings_Repeat)

-- PROVED BY HAND: function 17 (bits_New)

/-! ### bailiwicklaw08_examples: function 10 -/
def bailiwicklaw08_examples.f  : Option (Bool) := (bits_New.f 9).bind fun t101 => ((bits_With.f t101 8 true).bind fun t102 => ((bits_First.f (⟨#[3]⟩ : ByteArray) 8).bind fun bt103 => (if t102.toList = ([0, 1] : List UInt8) then ((Go.Proofs.Ytbneljnmhofjfaa.P.bits_Has.f t102 8).bind fun t105 => (if t105 = true then (if bt103.1 = 2 then (some bt103.2) else (some false)) else (some false))) else (some false))))
set_option maxHeartbeats 8000000 in
set_option maxRecDepth 100000 in
theorem bailiwicklaw08_examples.calls  (r : Bool) (w : World) (h : bailiwicklaw08_examples.f  = some r) :
    Calls Try.prog 10 #[] w fun e w' => e = .returned (.bool r) ∧ Below w.heap.size w w' := by
  have HB := Aside0.mk (Below.refl w.heap.size w)
  have H : ((bits_New.f 9).bind fun t101 => ((bits_With.f t101 8 true).bind fun t102 => ((bits_First.f (⟨#[3]⟩ : ByteArray) 8).bind fun bt103 => (if t102.toList = ([0, 1] : List UInt8) then ((Go.Proofs.Ytbneljnmhofjfaa.P.bits_Has.f t102 8).bind fun t105 => (if t105 = true then (if bt103.1 = 2 then (some bt103.2) else (some false)) else (some false))) else (some false))))) = some r := h
  clear h
  replace H := Option.bind_eq_some_iff.mp H
  obtain ⟨t101, A10, H⟩ := H
  replace H : ((bits_With.f t101 8 true).bind fun t102 => ((bits_First.f (⟨#[3]⟩ : ByteArray) 8).bind fun bt103 => (if t102.toList = ([0, 1] : List UInt8) then ((Go.Proofs.Ytbneljnmhofjfaa.P.bits_Has.f t102 8).bind fun t105 => (if t105 = true then (if bt103.1 = 2 then (some bt103.2) else (some false)) else (some false))) else (some false)))) = some r := H
  have A1 := Aside0.mk A10
  clear A10
  replace H := Option.bind_eq_some_iff.mp H
  obtain ⟨t102, A20, H⟩ := H
  replace H : ((bits_First.f (⟨#[3]⟩ : ByteArray) 8).bind fun bt103 => (if t102.toList = ([0, 1] : List UInt8) then ((Go.Proofs.Ytbneljnmhofjfaa.P.bits_Has.f t102 8).bind fun t105 => (if t105 = true then (if bt103.1 = 2 then (some bt103.2) else (some false)) else (some false))) else (some false))) = some r := H
  have A2 := Aside0.mk A20
  clear A20
  replace H := Option.bind_eq_some_iff.mp H
  obtain ⟨⟨t103, t104⟩, A30, H⟩ := H
  replace H : (if t102.toList = ([0, 1] : List UInt8) then ((Go.Proofs.Ytbneljnmhofjfaa.P.bits_Has.f t102 8).bind fun t105 => (if t105 = true then (if t103 = 2 then (some t104) else (some false)) else (some false))) else (some false)) = some r := H
  have A3 := Aside0.mk A30
  clear A30
  by_cases c4 : t102.toList = ([0, 1] : List UInt8)
  · rw [if_pos c4] at H
    have c4b0 : (t102.toList == ([0, 1] : List UInt8)) = true := beq_iff_eq.mpr c4
    have c4b1 : (t102.toList != ([0, 1] : List UInt8)) = false := bne_eq_false_iff_eq.mpr c4
    clear c4
    replace H := Option.bind_eq_some_iff.mp H
    obtain ⟨t105, A50, H⟩ := H
    replace H : (if t105 = true then (if t103 = 2 then (some t104) else (some false)) else (some false)) = some r := H
    have A5 := Aside0.mk A50
    clear A50
    by_cases c6 : t105 = true
    · subst c6
      have H1 : (if t103 = 2 then (some t104) else (some false)) = some r := by first | (rw [if_pos rfl] at H; exact H) | (rw [if_pos trivial] at H; exact H)
      clear H
      have H := H1
      clear H1
      by_cases c7 : t103 = 2
      · rw [if_pos c7] at H
        have c7b0 : (t103 == 2) = true := beq_iff_eq.mpr c7
        have c7b1 : (t103 != 2) = false := bne_eq_false_iff_eq.mpr c7
        clear c7
        obtain rfl := Option.some.inj H
        go_enter Try.func10, Try.ntmps10
        (try dsimp only [List.append])
        go_wp2_with (first | ((with_reducible refine gate_callee (f := 17) rfl ?_); refine goesL_ (some 4) rfl rfl Try.func17 (by kernel_rfl) rfl #[.int .i64 9] rfl (by (try simp only [List.map_toArray, List.map_cons, List.map_nil]); first | done | rfl | (simp only [List.length_drop, List.length_take]; rfl)) ?_; (with_reducible refine (bits_New.calls 9 t101 _ A1.out).mono ?_); rintro e w8 ⟨rfl, hb⟩; refine ⟨_, rfl, ?_⟩; have n0_ := Aside0.mk (below_step (by repeat (first | (with_reducible first | exact HB.out | apply below_alloc | apply pw_below_drewN | apply below_drew1) | exact HB.out)) hb); clear HB; have HB := n0_; clear n0_; (try clear hb); (try clear hb2); (try clear hk); (try clear hi)) | ((with_reducible refine gate_callee (f := 15) rfl ?_); refine goesL_ (some 5) rfl rfl Try.func15 (by kernel_rfl) rfl #[.string t101, .int .i64 8, .bool true] rfl (by (try simp only [List.map_toArray, List.map_cons, List.map_nil]); first | done | rfl | (simp only [List.length_drop, List.length_take]; rfl)) ?_; (with_reducible refine (bits_With.calls t101 8 true t102 _ A2.out).mono ?_); rintro e w9 ⟨rfl, hb⟩; refine ⟨_, rfl, ?_⟩; have n0_ := Aside0.mk (below_step (by repeat (first | (with_reducible first | exact HB.out | apply below_alloc | apply pw_below_drewN | apply below_drew1) | exact HB.out)) hb); clear HB; have HB := n0_; clear n0_; (try clear hb); (try clear hb2); (try clear hk); (try clear hi)) | ((with_reducible refine gate_callee (f := 11) rfl ?_); refine goesL_ (some 7) rfl rfl Try.func11 (by kernel_rfl) rfl #[.string (⟨#[3]⟩ : ByteArray), .int .i64 8] rfl (by (try simp only [List.map_toArray, List.map_cons, List.map_nil]); first | done | rfl | (simp only [List.length_drop, List.length_take]; rfl)) ?_; (with_reducible refine (bits_First.calls (⟨#[3]⟩ : ByteArray) 8 t103 t104 _ A3.out).mono ?_); rintro e w' ⟨rfl, ⟨nd, rfl⟩⟩; refine ⟨_, rfl, ?_⟩) | (go_at_call 13; (with_reducible refine (Go.Proofs.Ytbneljnmhofjfaa.P.bits_Has.calls t102 8 true _ A5.out).mono ?_); rintro e w' ⟨rfl, ⟨nd, rfl⟩⟩))
        go_ret
        exact ⟨by first | rfl | (simp [errW_none, errW_some] <;> rfl) | (simp [*, errW_none, errW_some] <;> rfl), by repeat (first | (with_reducible first | exact HB.out | apply below_alloc | apply pw_below_drewN | apply below_drew1) | exact HB.out)⟩
      · rw [if_neg c7] at H
        have c7b0 : (t103 == 2) = false := beq_eq_false_iff_ne.mpr c7
        have c7b1 : (t103 != 2) = true := bne_iff_ne.mpr c7
        obtain rfl := Option.some.inj H
        go_enter Try.func10, Try.ntmps10
        (try dsimp only [List.append])
        go_wp2_with (first | ((with_reducible refine gate_callee (f := 17) rfl ?_); refine goesL_ (some 4) rfl rfl Try.func17 (by kernel_rfl) rfl #[.int .i64 9] rfl (by (try simp only [List.map_toArray, List.map_cons, List.map_nil]); first | done | rfl | (simp only [List.length_drop, List.length_take]; rfl)) ?_; (with_reducible refine (bits_New.calls 9 t101 _ A1.out).mono ?_); rintro e w10 ⟨rfl, hb⟩; refine ⟨_, rfl, ?_⟩; have n0_ := Aside0.mk (below_step (by repeat (first | (with_reducible first | exact HB.out | apply below_alloc | apply pw_below_drewN | apply below_drew1) | exact HB.out)) hb); clear HB; have HB := n0_; clear n0_; (try clear hb); (try clear hb2); (try clear hk); (try clear hi)) | ((with_reducible refine gate_callee (f := 15) rfl ?_); refine goesL_ (some 5) rfl rfl Try.func15 (by kernel_rfl) rfl #[.string t101, .int .i64 8, .bool true] rfl (by (try simp only [List.map_toArray, List.map_cons, List.map_nil]); first | done | rfl | (simp only [List.length_drop, List.length_take]; rfl)) ?_; (with_reducible refine (bits_With.calls t101 8 true t102 _ A2.out).mono ?_); rintro e w11 ⟨rfl, hb⟩; refine ⟨_, rfl, ?_⟩; have n0_ := Aside0.mk (below_step (by repeat (first | (with_reducible first | exact HB.out | apply below_alloc | apply pw_below_drewN | apply below_drew1) | exact HB.out)) hb); clear HB; have HB := n0_; clear n0_; (try clear hb); (try clear hb2); (try clear hk); (try clear hi)) | ((with_reducible refine gate_callee (f := 11) rfl ?_); refine goesL_ (some 7) rfl rfl Try.func11 (by kernel_rfl) rfl #[.string (⟨#[3]⟩ : ByteArray), .int .i64 8] rfl (by (try simp only [List.map_toArray, List.map_cons, List.map_nil]); first | done | rfl | (simp only [List.length_drop, List.length_take]; rfl)) ?_; (with_reducible refine (bits_First.calls (⟨#[3]⟩ : ByteArray) 8 t103 t104 _ A3.out).mono ?_); rintro e w' ⟨rfl, ⟨nd, rfl⟩⟩; refine ⟨_, rfl, ?_⟩) | (go_at_call 13; (with_reducible refine (Go.Proofs.Ytbneljnmhofjfaa.P.bits_Has.calls t102 8 true _ A5.out).mono ?_); rintro e w' ⟨rfl, ⟨nd, rfl⟩⟩))
        go_ret
        exact ⟨by first | rfl | (simp [errW_none, errW_some] <;> rfl) | (simp [*, errW_none, errW_some] <;> rfl), by repeat (first | (with_reducible first | exact HB.out | apply below_alloc | apply pw_below_drewN | apply below_drew1) | exact HB.out)⟩
    · replace c6 := Bool.eq_false_iff.mpr c6
      subst c6
      have H1 : (some false) = some r := by rw [if_neg (show ¬ (false = true) by decide)] at H; exact H
      clear H
      have H := H1
      clear H1
      obtain rfl := Option.some.inj H
      go_enter Try.func10, Try.ntmps10
      (try dsimp only [List.append])
      go_wp2_with (first | ((with_reducible refine gate_callee (f := 17) rfl ?_); refine goesL_ (some 4) rfl rfl Try.func17 (by kernel_rfl) rfl #[.int .i64 9] rfl (by (try simp only [List.map_toArray, List.map_cons, List.map_nil]); first | done | rfl | (simp only [List.length_drop, List.length_take]; rfl)) ?_; (with_reducible refine (bits_New.calls 9 t101 _ A1.out).mono ?_); rintro e w12 ⟨rfl, hb⟩; refine ⟨_, rfl, ?_⟩; have n0_ := Aside0.mk (below_step (by repeat (first | (with_reducible first | exact HB.out | apply below_alloc | apply pw_below_drewN | apply below_drew1) | exact HB.out)) hb); clear HB; have HB := n0_; clear n0_; (try clear hb); (try clear hb2); (try clear hk); (try clear hi)) | ((with_reducible refine gate_callee (f := 15) rfl ?_); refine goesL_ (some 5) rfl rfl Try.func15 (by kernel_rfl) rfl #[.string t101, .int .i64 8, .bool true] rfl (by (try simp only [List.map_toArray, List.map_cons, List.map_nil]); first | done | rfl | (simp only [List.length_drop, List.length_take]; rfl)) ?_; (with_reducible refine (bits_With.calls t101 8 true t102 _ A2.out).mono ?_); rintro e w13 ⟨rfl, hb⟩; refine ⟨_, rfl, ?_⟩; have n0_ := Aside0.mk (below_step (by repeat (first | (with_reducible first | exact HB.out | apply below_alloc | apply pw_below_drewN | apply below_drew1) | exact HB.out)) hb); clear HB; have HB := n0_; clear n0_; (try clear hb); (try clear hb2); (try clear hk); (try clear hi)) | ((with_reducible refine gate_callee (f := 11) rfl ?_); refine goesL_ (some 7) rfl rfl Try.func11 (by kernel_rfl) rfl #[.string (⟨#[3]⟩ : ByteArray), .int .i64 8] rfl (by (try simp only [List.map_toArray, List.map_cons, List.map_nil]); first | done | rfl | (simp only [List.length_drop, List.length_take]; rfl)) ?_; (with_reducible refine (bits_First.calls (⟨#[3]⟩ : ByteArray) 8 t103 t104 _ A3.out).mono ?_); rintro e w' ⟨rfl, ⟨nd, rfl⟩⟩; refine ⟨_, rfl, ?_⟩) | (go_at_call 13; (with_reducible refine (Go.Proofs.Ytbneljnmhofjfaa.P.bits_Has.calls t102 8 false _ A5.out).mono ?_); rintro e w' ⟨rfl, ⟨nd, rfl⟩⟩))
      go_ret
      exact ⟨by first | rfl | (simp [errW_none, errW_some] <;> rfl) | (simp [*, errW_none, errW_some] <;> rfl), by repeat (first | (with_reducible first | exact HB.out | apply below_alloc | apply pw_below_drewN | apply below_drew1) | exact HB.out)⟩
  · rw [if_neg c4] at H
    have c4b0 : (t102.toList == ([0, 1] : List UInt8)) = false := beq_eq_false_iff_ne.mpr c4
    have c4b1 : (t102.toList != ([0, 1] : List UInt8)) = true := bne_iff_ne.mpr c4
    obtain rfl := Option.some.inj H
    go_enter Try.func10, Try.ntmps10
    (try dsimp only [List.append])
    go_wp2_with (first | ((with_reducible refine gate_callee (f := 17) rfl ?_); refine goesL_ (some 4) rfl rfl Try.func17 (by kernel_rfl) rfl #[.int .i64 9] rfl (by (try simp only [List.map_toArray, List.map_cons, List.map_nil]); first | done | rfl | (simp only [List.length_drop, List.length_take]; rfl)) ?_; (with_reducible refine (bits_New.calls 9 t101 _ A1.out).mono ?_); rintro e w14 ⟨rfl, hb⟩; refine ⟨_, rfl, ?_⟩; have n0_ := Aside0.mk (below_step (by repeat (first | (with_reducible first | exact HB.out | apply below_alloc | apply pw_below_drewN | apply below_drew1) | exact HB.out)) hb); clear HB; have HB := n0_; clear n0_; (try clear hb); (try clear hb2); (try clear hk); (try clear hi)) | ((with_reducible refine gate_callee (f := 15) rfl ?_); refine goesL_ (some 5) rfl rfl Try.func15 (by kernel_rfl) rfl #[.string t101, .int .i64 8, .bool true] rfl (by (try simp only [List.map_toArray, List.map_cons, List.map_nil]); first | done | rfl | (simp only [List.length_drop, List.length_take]; rfl)) ?_; (with_reducible refine (bits_With.calls t101 8 true t102 _ A2.out).mono ?_); rintro e w15 ⟨rfl, hb⟩; refine ⟨_, rfl, ?_⟩; have n0_ := Aside0.mk (below_step (by repeat (first | (with_reducible first | exact HB.out | apply below_alloc | apply pw_below_drewN | apply below_drew1) | exact HB.out)) hb); clear HB; have HB := n0_; clear n0_; (try clear hb); (try clear hb2); (try clear hk); (try clear hi)) | ((with_reducible refine gate_callee (f := 11) rfl ?_); refine goesL_ (some 7) rfl rfl Try.func11 (by kernel_rfl) rfl #[.string (⟨#[3]⟩ : ByteArray), .int .i64 8] rfl (by (try simp only [List.map_toArray, List.map_cons, List.map_nil]); first | done | rfl | (simp only [List.length_drop, List.length_take]; rfl)) ?_; (with_reducible refine (bits_First.calls (⟨#[3]⟩ : ByteArray) 8 t103 t104 _ A3.out).mono ?_); rintro e w' ⟨rfl, ⟨nd, rfl⟩⟩; refine ⟨_, rfl, ?_⟩))
    go_ret
    exact ⟨by first | rfl | (simp [errW_none, errW_some] <;> rfl) | (simp [*, errW_none, errW_some] <;> rfl), by repeat (first | (with_reducible first | exact HB.out | apply below_alloc | apply pw_below_drewN | apply below_drew1) | exact HB.out)⟩

-- PROVED BY HAND: function 26 (bailiwickref08_room)

-- PROVED BY HAND: function 14 (bailiwickref08_Has)

-- PROVED BY HAND: function 12 (bailiwickref08_First)

-- PROVED BY HAND: function 16 (bailiwickref08_With)

-- PROVED BY HAND: function 18 (bailiwickref08_New)

/-! ### bailiwicklaw08_BitsSets: function 3 -/
def bailiwicklaw08_BitsSets.f (k : Nat) (a0 : ByteArray) (a1 : Int) (a2 : Bool) (a3 : Int) : Option (Bool) := (bailiwicklaw08_examples.f).bind fun t106 => (if t106 = true then (if 0 ≤ (mn (a0.size : Int) 2000) then (if (mn (a0.size : Int) 2000) ≤ (a0.size : Int) then ((bits_First.f (a0.extract 0 ((mn (a0.size : Int) 2000) : Int).toNat) a3).bind fun bt107 => ((Go.Proofs.Ytbneljnmhofjfaa.P.bailiwickref08_First.f k (a0.extract 0 ((mn (a0.size : Int) 2000) : Int).toNat) a3).bind fun bt109 => ((Go.Proofs.Ytbneljnmhofjfaa.P.bits_Has.f (a0.extract 0 ((mn (a0.size : Int) 2000) : Int).toNat) a1).bind fun t111 => ((Go.Proofs.Ytbneljnmhofjfaa.P.bailiwickref08_Has.f (a0.extract 0 ((mn (a0.size : Int) 2000) : Int).toNat) a1).bind fun t112 => (if (t111 == t112) = true then ((bits_With.f (a0.extract 0 ((mn (a0.size : Int) 2000) : Int).toNat) a1 a2).bind fun t113 => ((ref_With.f (a0.extract 0 ((mn (a0.size : Int) 2000) : Int).toNat) a1 a2).bind fun t114 => (if t113.toList = t114.toList then (if bt107.1 = bt109.1 then (if (bt107.2 == bt109.2) = true then ((bits_New.f (mn a3 3000)).bind fun t115 => ((ref_New.f (mn a3 3000)).bind fun t116 => (some (t115.toList == t116.toList)))) else (some false)) else (some false)) else (some false)))) else (some false)))))) else (none)) else (none)) else (some false))
theorem bailiwicklaw08_BitsSets.mono : ∀ a0 a1 a2 a3 k, LeO (bailiwicklaw08_BitsSets.f k a0 a1 a2 a3) (bailiwicklaw08_BitsSets.f (k + 1) a0 a1 a2 a3) := by
  intro a0 a1 a2 a3 k
  unfold bailiwicklaw08_BitsSets.f
  repeat' first
      | (with_reducible exact Go.Proofs.Ytbneljnmhofjfaa.P.bailiwickref08_First.mono _ _ _)
      | (with_reducible exact LeO.refl _)
      | (with_reducible exact LeO.none _)
      | (with_reducible refine LeO.ite ?_ ?_)
      | (with_reducible refine LeO.bind ?_ (fun _ => ?_))
      | exact Go.Proofs.Ytbneljnmhofjfaa.P.bailiwickref08_First.mono _ _ _
      | exact LeO.none _
      | refine LeO.ite ?_ ?_
      | refine LeO.bind ?_ (fun _ => ?_)
set_option maxHeartbeats 8000000 in
set_option maxRecDepth 100000 in
theorem bailiwicklaw08_BitsSets.calls (k : Nat) (a0 : ByteArray) (a1 : Int) (a2 : Bool) (a3 : Int) (r : Bool) (w : World) (h : bailiwicklaw08_BitsSets.f k a0 a1 a2 a3 = some r) :
    Calls Try.prog 3 #[.string a0, .int .i64 a1, .bool a2, .int .i64 a3] w fun e w' => e = .returned (.bool r) ∧ Below w.heap.size w w' := by
  have HB := Aside0.mk (Below.refl w.heap.size w)
  have H : ((bailiwicklaw08_examples.f).bind fun t106 => (if t106 = true then (if 0 ≤ (mn (a0.size : Int) 2000) then (if (mn (a0.size : Int) 2000) ≤ (a0.size : Int) then ((bits_First.f (a0.extract 0 ((mn (a0.size : Int) 2000) : Int).toNat) a3).bind fun bt107 => ((Go.Proofs.Ytbneljnmhofjfaa.P.bailiwickref08_First.f k (a0.extract 0 ((mn (a0.size : Int) 2000) : Int).toNat) a3).bind fun bt109 => ((Go.Proofs.Ytbneljnmhofjfaa.P.bits_Has.f (a0.extract 0 ((mn (a0.size : Int) 2000) : Int).toNat) a1).bind fun t111 => ((Go.Proofs.Ytbneljnmhofjfaa.P.bailiwickref08_Has.f (a0.extract 0 ((mn (a0.size : Int) 2000) : Int).toNat) a1).bind fun t112 => (if (t111 == t112) = true then ((bits_With.f (a0.extract 0 ((mn (a0.size : Int) 2000) : Int).toNat) a1 a2).bind fun t113 => ((ref_With.f (a0.extract 0 ((mn (a0.size : Int) 2000) : Int).toNat) a1 a2).bind fun t114 => (if t113.toList = t114.toList then (if bt107.1 = bt109.1 then (if (bt107.2 == bt109.2) = true then ((bits_New.f (mn a3 3000)).bind fun t115 => ((ref_New.f (mn a3 3000)).bind fun t116 => (some (t115.toList == t116.toList)))) else (some false)) else (some false)) else (some false)))) else (some false)))))) else (none)) else (none)) else (some false))) = some r := h
  clear h
  replace H := Option.bind_eq_some_iff.mp H
  obtain ⟨t106, A50, H⟩ := H
  replace H : (if t106 = true then (if 0 ≤ (mn (a0.size : Int) 2000) then (if (mn (a0.size : Int) 2000) ≤ (a0.size : Int) then ((bits_First.f (a0.extract 0 ((mn (a0.size : Int) 2000) : Int).toNat) a3).bind fun bt107 => ((Go.Proofs.Ytbneljnmhofjfaa.P.bailiwickref08_First.f k (a0.extract 0 ((mn (a0.size : Int) 2000) : Int).toNat) a3).bind fun bt109 => ((Go.Proofs.Ytbneljnmhofjfaa.P.bits_Has.f (a0.extract 0 ((mn (a0.size : Int) 2000) : Int).toNat) a1).bind fun t111 => ((Go.Proofs.Ytbneljnmhofjfaa.P.bailiwickref08_Has.f (a0.extract 0 ((mn (a0.size : Int) 2000) : Int).toNat) a1).bind fun t112 => (if (t111 == t112) = true then ((bits_With.f (a0.extract 0 ((mn (a0.size : Int) 2000) : Int).toNat) a1 a2).bind fun t113 => ((ref_With.f (a0.extract 0 ((mn (a0.size : Int) 2000) : Int).toNat) a1 a2).bind fun t114 => (if t113.toList = t114.toList then (if bt107.1 = bt109.1 then (if (bt107.2 == bt109.2) = true then ((bits_New.f (mn a3 3000)).bind fun t115 => ((ref_New.f (mn a3 3000)).bind fun t116 => (some (t115.toList == t116.toList)))) else (some false)) else (some false)) else (some false)))) else (some false)))))) else (none)) else (none)) else (some false)) = some r := H
  have A5 := Aside0.mk A50
  clear A50
  by_cases c6 : t106 = true
  · subst c6
    have H1 : (if 0 ≤ (mn (a0.size : Int) 2000) then (if (mn (a0.size : Int) 2000) ≤ (a0.size : Int) then ((bits_First.f (a0.extract 0 ((mn (a0.size : Int) 2000) : Int).toNat) a3).bind fun bt107 => ((Go.Proofs.Ytbneljnmhofjfaa.P.bailiwickref08_First.f k (a0.extract 0 ((mn (a0.size : Int) 2000) : Int).toNat) a3).bind fun bt109 => ((Go.Proofs.Ytbneljnmhofjfaa.P.bits_Has.f (a0.extract 0 ((mn (a0.size : Int) 2000) : Int).toNat) a1).bind fun t111 => ((Go.Proofs.Ytbneljnmhofjfaa.P.bailiwickref08_Has.f (a0.extract 0 ((mn (a0.size : Int) 2000) : Int).toNat) a1).bind fun t112 => (if (t111 == t112) = true then ((bits_With.f (a0.extract 0 ((mn (a0.size : Int) 2000) : Int).toNat) a1 a2).bind fun t113 => ((ref_With.f (a0.extract 0 ((mn (a0.size : Int) 2000) : Int).toNat) a1 a2).bind fun t114 => (if t113.toList = t114.toList then (if bt107.1 = bt109.1 then (if (bt107.2 == bt109.2) = true then ((bits_New.f (mn a3 3000)).bind fun t115 => ((ref_New.f (mn a3 3000)).bind fun t116 => (some (t115.toList == t116.toList)))) else (some false)) else (some false)) else (some false)))) else (some false)))))) else (none)) else (none)) = some r := by first | (rw [if_pos rfl] at H; exact H) | (rw [if_pos trivial] at H; exact H)
    clear H
    have H := H1
    clear H1
    obtain ⟨ji7, hji7⟩ : ∃ j_ : Int, (mn (a0.size : Int) 2000) = j_ := ⟨_, rfl⟩
    replace H : (if 0 ≤ (ji7) then (if (ji7) ≤ (a0.size : Int) then ((bits_First.f (a0.extract 0 ((ji7) : Int).toNat) a3).bind fun bt107 => ((Go.Proofs.Ytbneljnmhofjfaa.P.bailiwickref08_First.f k (a0.extract 0 ((ji7) : Int).toNat) a3).bind fun bt109 => ((Go.Proofs.Ytbneljnmhofjfaa.P.bits_Has.f (a0.extract 0 ((ji7) : Int).toNat) a1).bind fun t111 => ((Go.Proofs.Ytbneljnmhofjfaa.P.bailiwickref08_Has.f (a0.extract 0 ((ji7) : Int).toNat) a1).bind fun t112 => (if (t111 == t112) = true then ((bits_With.f (a0.extract 0 ((ji7) : Int).toNat) a1 a2).bind fun t113 => ((ref_With.f (a0.extract 0 ((ji7) : Int).toNat) a1 a2).bind fun t114 => (if t113.toList = t114.toList then (if bt107.1 = bt109.1 then (if (bt107.2 == bt109.2) = true then ((bits_New.f (mn a3 3000)).bind fun t115 => ((ref_New.f (mn a3 3000)).bind fun t116 => (some (t115.toList == t116.toList)))) else (some false)) else (some false)) else (some false)))) else (some false)))))) else (none)) else (none)) = some r := by first | (rw [hji7] at H; exact H) | (simp only [hji7] at H ⊢; exact H)
    (try rw [hji7] at A5)
    (try (have hji7h : ji7 ≤ 2000 := by (rw [← hji7]; unfold mn; (repeat' split) <;> omega)))
    (try (have hji7g : ji7 ≤ 64 := by omega))
    (try (have hji7l : 0 ≤ ji7 := by (rw [← hji7]; unfold mn; (repeat' split) <;> omega)))
    (try (have hji7m : 0 ≤ ji7 := by omega))
    have hji7_ : (if 2000 < (a0.size : Int) then 2000 else (a0.size : Int)) = ji7 := hji7
    obtain ⟨bx7_a0, hbx7_a0⟩ : ∃ b_ : ByteArray, (a0.extract 0 (ji7 : Int).toNat) = b_ := ⟨_, rfl⟩
    have hbx7_a0z : bx7_a0.size ≤ 2000 := by rw [← hbx7_a0, ByteArray.size_extract]; omega
    simp only [hbx7_a0] at H
    by_cases c8 : 0 ≤ (ji7)
    · rw [if_pos c8] at H
      have c8b0 := eq_true c8
      have c8b1 : decide (0 ≤ (ji7)) = true := decide_eq_true c8
      clear c8
      by_cases c9 : (ji7) ≤ (a0.size : Int)
      · rw [if_pos c9] at H
        have c9b0 := eq_true c9
        have c9b1 : decide ((ji7) ≤ (a0.size : Int)) = true := decide_eq_true c9
        clear c9
        replace H := Option.bind_eq_some_iff.mp H
        obtain ⟨⟨t107, t108⟩, A100, H⟩ := H
        replace H : ((Go.Proofs.Ytbneljnmhofjfaa.P.bailiwickref08_First.f k bx7_a0 a3).bind fun bt109 => ((Go.Proofs.Ytbneljnmhofjfaa.P.bits_Has.f bx7_a0 a1).bind fun t111 => ((Go.Proofs.Ytbneljnmhofjfaa.P.bailiwickref08_Has.f bx7_a0 a1).bind fun t112 => (if (t111 == t112) = true then ((bits_With.f bx7_a0 a1 a2).bind fun t113 => ((ref_With.f bx7_a0 a1 a2).bind fun t114 => (if t113.toList = t114.toList then (if t107 = bt109.1 then (if (t108 == bt109.2) = true then ((bits_New.f (mn a3 3000)).bind fun t115 => ((ref_New.f (mn a3 3000)).bind fun t116 => (some (t115.toList == t116.toList)))) else (some false)) else (some false)) else (some false)))) else (some false))))) = some r := H
        have A10 := Aside0.mk A100
        clear A100
        replace H := Option.bind_eq_some_iff.mp H
        obtain ⟨⟨t109, t110⟩, A110, H⟩ := H
        replace H : ((Go.Proofs.Ytbneljnmhofjfaa.P.bits_Has.f bx7_a0 a1).bind fun t111 => ((Go.Proofs.Ytbneljnmhofjfaa.P.bailiwickref08_Has.f bx7_a0 a1).bind fun t112 => (if (t111 == t112) = true then ((bits_With.f bx7_a0 a1 a2).bind fun t113 => ((ref_With.f bx7_a0 a1 a2).bind fun t114 => (if t113.toList = t114.toList then (if t107 = t109 then (if (t108 == t110) = true then ((bits_New.f (mn a3 3000)).bind fun t115 => ((ref_New.f (mn a3 3000)).bind fun t116 => (some (t115.toList == t116.toList)))) else (some false)) else (some false)) else (some false)))) else (some false)))) = some r := H
        have A11 := Aside0.mk A110
        clear A110
        replace H := Option.bind_eq_some_iff.mp H
        obtain ⟨t111, A120, H⟩ := H
        replace H : ((Go.Proofs.Ytbneljnmhofjfaa.P.bailiwickref08_Has.f bx7_a0 a1).bind fun t112 => (if (t111 == t112) = true then ((bits_With.f bx7_a0 a1 a2).bind fun t113 => ((ref_With.f bx7_a0 a1 a2).bind fun t114 => (if t113.toList = t114.toList then (if t107 = t109 then (if (t108 == t110) = true then ((bits_New.f (mn a3 3000)).bind fun t115 => ((ref_New.f (mn a3 3000)).bind fun t116 => (some (t115.toList == t116.toList)))) else (some false)) else (some false)) else (some false)))) else (some false))) = some r := H
        have A12 := Aside0.mk A120
        clear A120
        replace H := Option.bind_eq_some_iff.mp H
        obtain ⟨t112, A130, H⟩ := H
        replace H : (if (t111 == t112) = true then ((bits_With.f bx7_a0 a1 a2).bind fun t113 => ((ref_With.f bx7_a0 a1 a2).bind fun t114 => (if t113.toList = t114.toList then (if t107 = t109 then (if (t108 == t110) = true then ((bits_New.f (mn a3 3000)).bind fun t115 => ((ref_New.f (mn a3 3000)).bind fun t116 => (some (t115.toList == t116.toList)))) else (some false)) else (some false)) else (some false)))) else (some false)) = some r := H
        have A13 := Aside0.mk A130
        clear A130
        by_cases c14 : (t111 == t112) = true
        · rw [if_pos c14] at H
          have c14b0 : (t111 == t112) = true := c14
          (try (have c14b1 : decide (t111 = t112) = true := by simpa using c14))
          (try (have c14b2 : (t111 == t112) = true := by simpa using c14))
          clear c14
          replace H := Option.bind_eq_some_iff.mp H
          obtain ⟨t113, A150, H⟩ := H
          replace H : ((ref_With.f bx7_a0 a1 a2).bind fun t114 => (if t113.toList = t114.toList then (if t107 = t109 then (if (t108 == t110) = true then ((bits_New.f (mn a3 3000)).bind fun t115 => ((ref_New.f (mn a3 3000)).bind fun t116 => (some (t115.toList == t116.toList)))) else (some false)) else (some false)) else (some false))) = some r := H
          have A15 := Aside0.mk A150
          clear A150
          replace H := Option.bind_eq_some_iff.mp H
          obtain ⟨t114, A160, H⟩ := H
          replace H : (if t113.toList = t114.toList then (if t107 = t109 then (if (t108 == t110) = true then ((bits_New.f (mn a3 3000)).bind fun t115 => ((ref_New.f (mn a3 3000)).bind fun t116 => (some (t115.toList == t116.toList)))) else (some false)) else (some false)) else (some false)) = some r := H
          have A16 := Aside0.mk A160
          clear A160
          by_cases c17 : t113.toList = t114.toList
          · rw [if_pos c17] at H
            have c17b0 : (t113.toList == t114.toList) = true := beq_iff_eq.mpr c17
            have c17b1 : (t113.toList != t114.toList) = false := bne_eq_false_iff_eq.mpr c17
            clear c17
            by_cases c18 : t107 = t109
            · rw [if_pos c18] at H
              have c18b0 : (t107 == t109) = true := beq_iff_eq.mpr c18
              have c18b1 : (t107 != t109) = false := bne_eq_false_iff_eq.mpr c18
              clear c18
              by_cases c19 : (t108 == t110) = true
              · rw [if_pos c19] at H
                have c19b0 : (t108 == t110) = true := c19
                (try (have c19b1 : decide (t108 = t110) = true := by simpa using c19))
                (try (have c19b2 : (t108 == t110) = true := by simpa using c19))
                clear c19
                obtain ⟨ji20, hji20⟩ : ∃ j_ : Int, (mn a3 3000) = j_ := ⟨_, rfl⟩
                replace H : ((bits_New.f (ji20)).bind fun t115 => ((ref_New.f (ji20)).bind fun t116 => (some (t115.toList == t116.toList)))) = some r := by first | (rw [hji20] at H; exact H) | (simp only [hji20] at H ⊢; exact H)
                (try rw [hji20] at A5)
                (try rw [hji20] at A10)
                (try rw [hji20] at A11)
                (try rw [hji20] at A12)
                (try rw [hji20] at A13)
                (try rw [hji20] at A15)
                (try rw [hji20] at A16)
                (try (have hji20h : ji20 ≤ 3000 := by (rw [← hji20]; unfold mn; (repeat' split) <;> omega)))
                (try (have hji20g : ji20 ≤ 64 := by omega))
                have hji20_ : (if 3000 < a3 then 3000 else a3) = ji20 := hji20
                replace H := Option.bind_eq_some_iff.mp H
                obtain ⟨t115, A210, H⟩ := H
                replace H : ((ref_New.f (ji20)).bind fun t116 => (some (t115.toList == t116.toList))) = some r := H
                have A21 := Aside0.mk A210
                clear A210
                replace H := Option.bind_eq_some_iff.mp H
                obtain ⟨t116, A220, H⟩ := H
                replace H : (some (t115.toList == t116.toList)) = some r := H
                have A22 := Aside0.mk A220
                clear A220
                obtain rfl := Option.some.inj H
                go_enter Try.func3, Try.ntmps3
                (try dsimp only [List.append])
                go_wp2_with (first | ((with_reducible refine gate_callee (f := 10) rfl ?_); refine goesL_ (some 14) rfl rfl Try.func10 (by kernel_rfl) rfl #[] rfl (by (try simp only [List.map_toArray, List.map_cons, List.map_nil]); first | done | rfl | (simp only [List.length_drop, List.length_take]; rfl)) ?_; (with_reducible refine (bailiwicklaw08_examples.calls  true _ A5.out).mono ?_); rintro e w23 ⟨rfl, hb⟩; refine ⟨_, rfl, ?_⟩; have n0_ := Aside0.mk (below_step (by repeat (first | (with_reducible first | exact HB.out | apply below_alloc | apply pw_below_drewN | apply below_drew1) | exact HB.out)) hb); clear HB; have HB := n0_; clear n0_; (try clear hb); (try clear hb2); (try clear hk); (try clear hi)) | ((with_reducible refine gate_callee (f := 11) rfl ?_); refine goesL_ (some 25) rfl rfl Try.func11 (by kernel_rfl) rfl #[.string bx7_a0, .int .i64 a3] rfl (by (try simp only [List.map_toArray, List.map_cons, List.map_nil]); first | done | (simp only [hji7]; rfl) | rfl | (simp only [List.length_drop, List.length_take]; rfl)) ?_; (with_reducible refine (bits_First.calls bx7_a0 a3 t107 t108 _ A10.out).mono ?_); rintro e w' ⟨rfl, ⟨nd, rfl⟩⟩; refine ⟨_, rfl, ?_⟩) | ((with_reducible refine gate_callee (f := 12) rfl ?_); refine goesL_ (some 31) rfl rfl Try.func12 (by kernel_rfl) rfl #[.string bx7_a0, .int .i64 a3] rfl (by (try simp only [List.map_toArray, List.map_cons, List.map_nil]); first | done | (simp only [hji7]; rfl) | rfl | (simp only [List.length_drop, List.length_take]; rfl)) ?_; (with_reducible refine (Go.Proofs.Ytbneljnmhofjfaa.P.bailiwickref08_First.calls k bx7_a0 a3 t109 t110 _ A11.out).mono ?_); rintro e w' ⟨rfl, ⟨nd, rfl⟩⟩; refine ⟨_, rfl, ?_⟩) | (go_at_call 13; (with_reducible refine (Go.Proofs.Ytbneljnmhofjfaa.P.bits_Has.calls bx7_a0 a1 t111 _ A12.out).mono ?_); rintro e w' ⟨rfl, ⟨nd, rfl⟩⟩) | (go_at_call 14; (with_reducible refine (Go.Proofs.Ytbneljnmhofjfaa.P.bailiwickref08_Has.calls bx7_a0 a1 t112 _ A13.out).mono ?_); rintro e w' ⟨rfl, ⟨nd, rfl⟩⟩) | (go_at_call 15; (with_reducible refine (bits_With.calls bx7_a0 a1 a2 t113 _ A15.out).mono ?_); rintro e w24 ⟨rfl, hb⟩; have n0_ := Aside0.mk (below_step (by repeat (first | (with_reducible first | exact HB.out | apply below_alloc | apply pw_below_drewN | apply below_drew1) | exact HB.out)) hb); clear HB; have HB := n0_; clear n0_; (try clear hb); (try clear hb2); (try clear hk); (try clear hi)) | (go_at_call 16; (with_reducible refine (ref_With.calls bx7_a0 a1 a2 t114 _ A16.out).mono ?_); rintro e w25 ⟨rfl, hb⟩; have n0_ := Aside0.mk (below_step (by repeat (first | (with_reducible first | exact HB.out | apply below_alloc | apply pw_below_drewN | apply below_drew1) | exact HB.out)) hb); clear HB; have HB := n0_; clear n0_; (try clear hb); (try clear hb2); (try clear hk); (try clear hi)) | (go_at_call 17; (with_reducible refine (bits_New.calls ji20 t115 _ A21.out).mono ?_); rintro e w26 ⟨rfl, hb⟩; have n0_ := Aside0.mk (below_step (by repeat (first | (with_reducible first | exact HB.out | apply below_alloc | apply pw_below_drewN | apply below_drew1) | exact HB.out)) hb); clear HB; have HB := n0_; clear n0_; (try clear hb); (try clear hb2); (try clear hk); (try clear hi)) | (go_at_call 18; (with_reducible refine (ref_New.calls ji20 t116 _ A22.out).mono ?_); rintro e w27 ⟨rfl, hb⟩; have n0_ := Aside0.mk (below_step (by repeat (first | (with_reducible first | exact HB.out | apply below_alloc | apply pw_below_drewN | apply below_drew1) | exact HB.out)) hb); clear HB; have HB := n0_; clear n0_; (try clear hb); (try clear hb2); (try clear hk); (try clear hi)))
                go_ret
                exact ⟨by first | rfl | (simp [errW_none, errW_some] <;> rfl) | (simp only [← hji7, ← hji20]; first | rfl | (simp [errW_none, errW_some] <;> rfl)) | (simp [*, errW_none, errW_some] <;> rfl), by repeat (first | (with_reducible first | exact HB.out | apply below_alloc | apply pw_below_drewN | apply below_drew1) | exact HB.out)⟩
              · rw [if_neg c19] at H
                have c19b0 : (t108 == t110) = false := by simpa using c19
                (try (have c19b1 : decide (t108 = t110) = false := by simpa using c19))
                (try (have c19b2 : (t108 == t110) = false := by simpa using c19))
                (try (have c19b3 : ¬ (t108 = t110) := by simpa using c19))
                clear c19
                obtain rfl := Option.some.inj H
                go_enter Try.func3, Try.ntmps3
                (try dsimp only [List.append])
                go_wp2_with (first | ((with_reducible refine gate_callee (f := 10) rfl ?_); refine goesL_ (some 14) rfl rfl Try.func10 (by kernel_rfl) rfl #[] rfl (by (try simp only [List.map_toArray, List.map_cons, List.map_nil]); first | done | rfl | (simp only [List.length_drop, List.length_take]; rfl)) ?_; (with_reducible refine (bailiwicklaw08_examples.calls  true _ A5.out).mono ?_); rintro e w28 ⟨rfl, hb⟩; refine ⟨_, rfl, ?_⟩; have n0_ := Aside0.mk (below_step (by repeat (first | (with_reducible first | exact HB.out | apply below_alloc | apply pw_below_drewN | apply below_drew1) | exact HB.out)) hb); clear HB; have HB := n0_; clear n0_; (try clear hb); (try clear hb2); (try clear hk); (try clear hi)) | ((with_reducible refine gate_callee (f := 11) rfl ?_); refine goesL_ (some 25) rfl rfl Try.func11 (by kernel_rfl) rfl #[.string bx7_a0, .int .i64 a3] rfl (by (try simp only [List.map_toArray, List.map_cons, List.map_nil]); first | done | (simp only [hji7]; rfl) | rfl | (simp only [List.length_drop, List.length_take]; rfl)) ?_; (with_reducible refine (bits_First.calls bx7_a0 a3 t107 t108 _ A10.out).mono ?_); rintro e w' ⟨rfl, ⟨nd, rfl⟩⟩; refine ⟨_, rfl, ?_⟩) | ((with_reducible refine gate_callee (f := 12) rfl ?_); refine goesL_ (some 31) rfl rfl Try.func12 (by kernel_rfl) rfl #[.string bx7_a0, .int .i64 a3] rfl (by (try simp only [List.map_toArray, List.map_cons, List.map_nil]); first | done | (simp only [hji7]; rfl) | rfl | (simp only [List.length_drop, List.length_take]; rfl)) ?_; (with_reducible refine (Go.Proofs.Ytbneljnmhofjfaa.P.bailiwickref08_First.calls k bx7_a0 a3 t109 t110 _ A11.out).mono ?_); rintro e w' ⟨rfl, ⟨nd, rfl⟩⟩; refine ⟨_, rfl, ?_⟩) | (go_at_call 13; (with_reducible refine (Go.Proofs.Ytbneljnmhofjfaa.P.bits_Has.calls bx7_a0 a1 t111 _ A12.out).mono ?_); rintro e w' ⟨rfl, ⟨nd, rfl⟩⟩) | (go_at_call 14; (with_reducible refine (Go.Proofs.Ytbneljnmhofjfaa.P.bailiwickref08_Has.calls bx7_a0 a1 t112 _ A13.out).mono ?_); rintro e w' ⟨rfl, ⟨nd, rfl⟩⟩) | (go_at_call 15; (with_reducible refine (bits_With.calls bx7_a0 a1 a2 t113 _ A15.out).mono ?_); rintro e w29 ⟨rfl, hb⟩; have n0_ := Aside0.mk (below_step (by repeat (first | (with_reducible first | exact HB.out | apply below_alloc | apply pw_below_drewN | apply below_drew1) | exact HB.out)) hb); clear HB; have HB := n0_; clear n0_; (try clear hb); (try clear hb2); (try clear hk); (try clear hi)) | (go_at_call 16; (with_reducible refine (ref_With.calls bx7_a0 a1 a2 t114 _ A16.out).mono ?_); rintro e w30 ⟨rfl, hb⟩; have n0_ := Aside0.mk (below_step (by repeat (first | (with_reducible first | exact HB.out | apply below_alloc | apply pw_below_drewN | apply below_drew1) | exact HB.out)) hb); clear HB; have HB := n0_; clear n0_; (try clear hb); (try clear hb2); (try clear hk); (try clear hi)))
                go_ret
                exact ⟨by first | rfl | (simp [errW_none, errW_some] <;> rfl) | (simp only [← hji7]; first | rfl | (simp [errW_none, errW_some] <;> rfl)) | (simp [*, errW_none, errW_some] <;> rfl), by repeat (first | (with_reducible first | exact HB.out | apply below_alloc | apply pw_below_drewN | apply below_drew1) | exact HB.out)⟩
            · rw [if_neg c18] at H
              have c18b0 : (t107 == t109) = false := beq_eq_false_iff_ne.mpr c18
              have c18b1 : (t107 != t109) = true := bne_iff_ne.mpr c18
              obtain rfl := Option.some.inj H
              go_enter Try.func3, Try.ntmps3
              (try dsimp only [List.append])
              go_wp2_with (first | ((with_reducible refine gate_callee (f := 10) rfl ?_); refine goesL_ (some 14) rfl rfl Try.func10 (by kernel_rfl) rfl #[] rfl (by (try simp only [List.map_toArray, List.map_cons, List.map_nil]); first | done | rfl | (simp only [List.length_drop, List.length_take]; rfl)) ?_; (with_reducible refine (bailiwicklaw08_examples.calls  true _ A5.out).mono ?_); rintro e w31 ⟨rfl, hb⟩; refine ⟨_, rfl, ?_⟩; have n0_ := Aside0.mk (below_step (by repeat (first | (with_reducible first | exact HB.out | apply below_alloc | apply pw_below_drewN | apply below_drew1) | exact HB.out)) hb); clear HB; have HB := n0_; clear n0_; (try clear hb); (try clear hb2); (try clear hk); (try clear hi)) | ((with_reducible refine gate_callee (f := 11) rfl ?_); refine goesL_ (some 25) rfl rfl Try.func11 (by kernel_rfl) rfl #[.string bx7_a0, .int .i64 a3] rfl (by (try simp only [List.map_toArray, List.map_cons, List.map_nil]); first | done | (simp only [hji7]; rfl) | rfl | (simp only [List.length_drop, List.length_take]; rfl)) ?_; (with_reducible refine (bits_First.calls bx7_a0 a3 t107 t108 _ A10.out).mono ?_); rintro e w' ⟨rfl, ⟨nd, rfl⟩⟩; refine ⟨_, rfl, ?_⟩) | ((with_reducible refine gate_callee (f := 12) rfl ?_); refine goesL_ (some 31) rfl rfl Try.func12 (by kernel_rfl) rfl #[.string bx7_a0, .int .i64 a3] rfl (by (try simp only [List.map_toArray, List.map_cons, List.map_nil]); first | done | (simp only [hji7]; rfl) | rfl | (simp only [List.length_drop, List.length_take]; rfl)) ?_; (with_reducible refine (Go.Proofs.Ytbneljnmhofjfaa.P.bailiwickref08_First.calls k bx7_a0 a3 t109 t110 _ A11.out).mono ?_); rintro e w' ⟨rfl, ⟨nd, rfl⟩⟩; refine ⟨_, rfl, ?_⟩) | (go_at_call 13; (with_reducible refine (Go.Proofs.Ytbneljnmhofjfaa.P.bits_Has.calls bx7_a0 a1 t111 _ A12.out).mono ?_); rintro e w' ⟨rfl, ⟨nd, rfl⟩⟩) | (go_at_call 14; (with_reducible refine (Go.Proofs.Ytbneljnmhofjfaa.P.bailiwickref08_Has.calls bx7_a0 a1 t112 _ A13.out).mono ?_); rintro e w' ⟨rfl, ⟨nd, rfl⟩⟩) | (go_at_call 15; (with_reducible refine (bits_With.calls bx7_a0 a1 a2 t113 _ A15.out).mono ?_); rintro e w32 ⟨rfl, hb⟩; have n0_ := Aside0.mk (below_step (by repeat (first | (with_reducible first | exact HB.out | apply below_alloc | apply pw_below_drewN | apply below_drew1) | exact HB.out)) hb); clear HB; have HB := n0_; clear n0_; (try clear hb); (try clear hb2); (try clear hk); (try clear hi)) | (go_at_call 16; (with_reducible refine (ref_With.calls bx7_a0 a1 a2 t114 _ A16.out).mono ?_); rintro e w33 ⟨rfl, hb⟩; have n0_ := Aside0.mk (below_step (by repeat (first | (with_reducible first | exact HB.out | apply below_alloc | apply pw_below_drewN | apply below_drew1) | exact HB.out)) hb); clear HB; have HB := n0_; clear n0_; (try clear hb); (try clear hb2); (try clear hk); (try clear hi)))
              go_ret
              exact ⟨by first | rfl | (simp [errW_none, errW_some] <;> rfl) | (simp only [← hji7]; first | rfl | (simp [errW_none, errW_some] <;> rfl)) | (simp [*, errW_none, errW_some] <;> rfl), by repeat (first | (with_reducible first | exact HB.out | apply below_alloc | apply pw_below_drewN | apply below_drew1) | exact HB.out)⟩
          · rw [if_neg c17] at H
            have c17b0 : (t113.toList == t114.toList) = false := beq_eq_false_iff_ne.mpr c17
            have c17b1 : (t113.toList != t114.toList) = true := bne_iff_ne.mpr c17
            obtain rfl := Option.some.inj H
            go_enter Try.func3, Try.ntmps3
            (try dsimp only [List.append])
            go_wp2_with (first | ((with_reducible refine gate_callee (f := 10) rfl ?_); refine goesL_ (some 14) rfl rfl Try.func10 (by kernel_rfl) rfl #[] rfl (by (try simp only [List.map_toArray, List.map_cons, List.map_nil]); first | done | rfl | (simp only [List.length_drop, List.length_take]; rfl)) ?_; (with_reducible refine (bailiwicklaw08_examples.calls  true _ A5.out).mono ?_); rintro e w34 ⟨rfl, hb⟩; refine ⟨_, rfl, ?_⟩; have n0_ := Aside0.mk (below_step (by repeat (first | (with_reducible first | exact HB.out | apply below_alloc | apply pw_below_drewN | apply below_drew1) | exact HB.out)) hb); clear HB; have HB := n0_; clear n0_; (try clear hb); (try clear hb2); (try clear hk); (try clear hi)) | ((with_reducible refine gate_callee (f := 11) rfl ?_); refine goesL_ (some 25) rfl rfl Try.func11 (by kernel_rfl) rfl #[.string bx7_a0, .int .i64 a3] rfl (by (try simp only [List.map_toArray, List.map_cons, List.map_nil]); first | done | (simp only [hji7]; rfl) | rfl | (simp only [List.length_drop, List.length_take]; rfl)) ?_; (with_reducible refine (bits_First.calls bx7_a0 a3 t107 t108 _ A10.out).mono ?_); rintro e w' ⟨rfl, ⟨nd, rfl⟩⟩; refine ⟨_, rfl, ?_⟩) | ((with_reducible refine gate_callee (f := 12) rfl ?_); refine goesL_ (some 31) rfl rfl Try.func12 (by kernel_rfl) rfl #[.string bx7_a0, .int .i64 a3] rfl (by (try simp only [List.map_toArray, List.map_cons, List.map_nil]); first | done | (simp only [hji7]; rfl) | rfl | (simp only [List.length_drop, List.length_take]; rfl)) ?_; (with_reducible refine (Go.Proofs.Ytbneljnmhofjfaa.P.bailiwickref08_First.calls k bx7_a0 a3 t109 t110 _ A11.out).mono ?_); rintro e w' ⟨rfl, ⟨nd, rfl⟩⟩; refine ⟨_, rfl, ?_⟩) | (go_at_call 13; (with_reducible refine (Go.Proofs.Ytbneljnmhofjfaa.P.bits_Has.calls bx7_a0 a1 t111 _ A12.out).mono ?_); rintro e w' ⟨rfl, ⟨nd, rfl⟩⟩) | (go_at_call 14; (with_reducible refine (Go.Proofs.Ytbneljnmhofjfaa.P.bailiwickref08_Has.calls bx7_a0 a1 t112 _ A13.out).mono ?_); rintro e w' ⟨rfl, ⟨nd, rfl⟩⟩) | (go_at_call 15; (with_reducible refine (bits_With.calls bx7_a0 a1 a2 t113 _ A15.out).mono ?_); rintro e w35 ⟨rfl, hb⟩; have n0_ := Aside0.mk (below_step (by repeat (first | (with_reducible first | exact HB.out | apply below_alloc | apply pw_below_drewN | apply below_drew1) | exact HB.out)) hb); clear HB; have HB := n0_; clear n0_; (try clear hb); (try clear hb2); (try clear hk); (try clear hi)) | (go_at_call 16; (with_reducible refine (ref_With.calls bx7_a0 a1 a2 t114 _ A16.out).mono ?_); rintro e w36 ⟨rfl, hb⟩; have n0_ := Aside0.mk (below_step (by repeat (first | (with_reducible first | exact HB.out | apply below_alloc | apply pw_below_drewN | apply below_drew1) | exact HB.out)) hb); clear HB; have HB := n0_; clear n0_; (try clear hb); (try clear hb2); (try clear hk); (try clear hi)))
            go_ret
            exact ⟨by first | rfl | (simp [errW_none, errW_some] <;> rfl) | (simp only [← hji7]; first | rfl | (simp [errW_none, errW_some] <;> rfl)) | (simp [*, errW_none, errW_some] <;> rfl), by repeat (first | (with_reducible first | exact HB.out | apply below_alloc | apply pw_below_drewN | apply below_drew1) | exact HB.out)⟩
        · rw [if_neg c14] at H
          have c14b0 : (t111 == t112) = false := by simpa using c14
          (try (have c14b1 : decide (t111 = t112) = false := by simpa using c14))
          (try (have c14b2 : (t111 == t112) = false := by simpa using c14))
          (try (have c14b3 : ¬ (t111 = t112) := by simpa using c14))
          clear c14
          obtain rfl := Option.some.inj H
          go_enter Try.func3, Try.ntmps3
          (try dsimp only [List.append])
          go_wp2_with (first | ((with_reducible refine gate_callee (f := 10) rfl ?_); refine goesL_ (some 14) rfl rfl Try.func10 (by kernel_rfl) rfl #[] rfl (by (try simp only [List.map_toArray, List.map_cons, List.map_nil]); first | done | rfl | (simp only [List.length_drop, List.length_take]; rfl)) ?_; (with_reducible refine (bailiwicklaw08_examples.calls  true _ A5.out).mono ?_); rintro e w37 ⟨rfl, hb⟩; refine ⟨_, rfl, ?_⟩; have n0_ := Aside0.mk (below_step (by repeat (first | (with_reducible first | exact HB.out | apply below_alloc | apply pw_below_drewN | apply below_drew1) | exact HB.out)) hb); clear HB; have HB := n0_; clear n0_; (try clear hb); (try clear hb2); (try clear hk); (try clear hi)) | ((with_reducible refine gate_callee (f := 11) rfl ?_); refine goesL_ (some 25) rfl rfl Try.func11 (by kernel_rfl) rfl #[.string bx7_a0, .int .i64 a3] rfl (by (try simp only [List.map_toArray, List.map_cons, List.map_nil]); first | done | (simp only [hji7]; rfl) | rfl | (simp only [List.length_drop, List.length_take]; rfl)) ?_; (with_reducible refine (bits_First.calls bx7_a0 a3 t107 t108 _ A10.out).mono ?_); rintro e w' ⟨rfl, ⟨nd, rfl⟩⟩; refine ⟨_, rfl, ?_⟩) | ((with_reducible refine gate_callee (f := 12) rfl ?_); refine goesL_ (some 31) rfl rfl Try.func12 (by kernel_rfl) rfl #[.string bx7_a0, .int .i64 a3] rfl (by (try simp only [List.map_toArray, List.map_cons, List.map_nil]); first | done | (simp only [hji7]; rfl) | rfl | (simp only [List.length_drop, List.length_take]; rfl)) ?_; (with_reducible refine (Go.Proofs.Ytbneljnmhofjfaa.P.bailiwickref08_First.calls k bx7_a0 a3 t109 t110 _ A11.out).mono ?_); rintro e w' ⟨rfl, ⟨nd, rfl⟩⟩; refine ⟨_, rfl, ?_⟩) | (go_at_call 13; (with_reducible refine (Go.Proofs.Ytbneljnmhofjfaa.P.bits_Has.calls bx7_a0 a1 t111 _ A12.out).mono ?_); rintro e w' ⟨rfl, ⟨nd, rfl⟩⟩) | (go_at_call 14; (with_reducible refine (Go.Proofs.Ytbneljnmhofjfaa.P.bailiwickref08_Has.calls bx7_a0 a1 t112 _ A13.out).mono ?_); rintro e w' ⟨rfl, ⟨nd, rfl⟩⟩))
          go_ret
          exact ⟨by first | rfl | (simp [errW_none, errW_some] <;> rfl) | (simp only [← hji7]; first | rfl | (simp [errW_none, errW_some] <;> rfl)) | (simp [*, errW_none, errW_some] <;> rfl), by repeat (first | (with_reducible first | exact HB.out | apply below_alloc | apply pw_below_drewN | apply below_drew1) | exact HB.out)⟩
      · rw [if_neg c9] at H
        exact absurd H (by simp)
    · rw [if_neg c8] at H
      exact absurd H (by simp)
  · replace c6 := Bool.eq_false_iff.mpr c6
    subst c6
    have H1 : (some false) = some r := by rw [if_neg (show ¬ (false = true) by decide)] at H; exact H
    clear H
    have H := H1
    clear H1
    obtain rfl := Option.some.inj H
    go_enter Try.func3, Try.ntmps3
    (try dsimp only [List.append])
    go_wp2_with (first | ((with_reducible refine gate_callee (f := 10) rfl ?_); refine goesL_ (some 14) rfl rfl Try.func10 (by kernel_rfl) rfl #[] rfl (by (try simp only [List.map_toArray, List.map_cons, List.map_nil]); first | done | rfl | (simp only [List.length_drop, List.length_take]; rfl)) ?_; (with_reducible refine (bailiwicklaw08_examples.calls  false _ A5.out).mono ?_); rintro e w38 ⟨rfl, hb⟩; refine ⟨_, rfl, ?_⟩; have n0_ := Aside0.mk (below_step (by repeat (first | (with_reducible first | exact HB.out | apply below_alloc | apply pw_below_drewN | apply below_drew1) | exact HB.out)) hb); clear HB; have HB := n0_; clear n0_; (try clear hb); (try clear hb2); (try clear hk); (try clear hi)))
    go_ret
    exact ⟨by first | rfl | (simp [errW_none, errW_some] <;> rfl) | (simp [*, errW_none, errW_some] <;> rfl), by repeat (first | (with_reducible first | exact HB.out | apply below_alloc | apply pw_below_drewN | apply below_drew1) | exact HB.out)⟩

/-- THE ONE PURE STATEMENT of bailiwicklaw08_BitsSets: yours. -/
def bailiwicklaw08_BitsSets.Pure : Prop := ∀ (a0 : ByteArray) (a1 : Int) (a2 : Bool) (a3 : Int), a0.size ≤ 140737488351232 → (Lit.int .i64 a1).wf = true → (Lit.int .i64 a3).wf = true → ∃ k, bailiwicklaw08_BitsSets.f k a0 a1 a2 a3 = some true
theorem bailiwicklaw08_BitsSets.walk (P : bailiwicklaw08_BitsSets.Pure) (a0 : ByteArray) (a1 : Int) (a2 : Bool) (a3 : Int) (w : World) (w0 : a0.size ≤ 140737488351232) (w1 : (Lit.int .i64 a1).wf = true) (w3 : (Lit.int .i64 a3).wf = true) :
    Calls Try.prog 3 #[.string a0, .int .i64 a1, .bool a2, .int .i64 a3] w fun e w' => e = .returned (.bool true) ∧ Below w.heap.size w w' := by
  obtain ⟨k, h⟩ := P a0 a1 a2 a3 w0 w1 w3
  refine (bailiwicklaw08_BitsSets.calls k a0 a1 a2 a3 true w h).mono ?_
  rintro e w' ⟨rfl, hd⟩
  exact ⟨rfl, hd⟩

/-! ### bailiwicklaw08_BitsFirst: function 4 -/
mutual
def bailiwicklaw08_BitsFirst.j0 : Nat → ByteArray → Bool → Int → Bool → Int → Option (Bool)
  | 0, _, _, _, _, _ => none
  | k + 1, x0, x5, x6, x7, x8 => bailiwicklaw08_BitsFirst.l0 k x0 x5 x6 x7 x8 0
def bailiwicklaw08_BitsFirst.l0 : Nat → ByteArray → Bool → Int → Bool → Int → Int → Option (Bool)
  | 0, _, _, _, _, _, _ => none
  | k + 1, x0, x5, x6, x7, x8, x9 => if x9 < x8 then ((Go.Proofs.Ytbneljnmhofjfaa.P.bits_Has.f x0 x9).bind fun t121 => (if t121 = true then (bailiwicklaw08_BitsFirst.l0 k x0 x5 x6 x7 x8 (wrap64 (x9 + 1))) else (some false))) else (if x5 = true then (if x7 = true then (some true) else (some (x6 == 0))) else (some false))
end
def bailiwicklaw08_BitsFirst.f (k : Nat) (a0 : ByteArray) (a1 : Int) : Option (Bool) := (bailiwicklaw08_examples.f).bind fun t117 => (if t117 = true then (if 0 ≤ (mn (a0.size : Int) 60) then (if (mn (a0.size : Int) 60) ≤ (a0.size : Int) then ((bits_First.f (a0.extract 0 ((mn (a0.size : Int) 60) : Int).toNat) (mn a1 600)).bind fun bt118 => (if bt118.2 = true then (if bt118.1 < 0 then (some false) else (if bt118.1 ≥ (mn (mn a1 600) (wrap64 (8 * ((a0.extract 0 ((mn (a0.size : Int) 60) : Int).toNat).size : Int)))) then (some false) else ((Go.Proofs.Ytbneljnmhofjfaa.P.bits_Has.f (a0.extract 0 ((mn (a0.size : Int) 60) : Int).toNat) bt118.1).bind fun t120 => (if t120 = true then (some false) else (bailiwicklaw08_BitsFirst.j0 k (a0.extract 0 ((mn (a0.size : Int) 60) : Int).toNat) t117 bt118.1 bt118.2 bt118.1))))) else (bailiwicklaw08_BitsFirst.j0 k (a0.extract 0 ((mn (a0.size : Int) 60) : Int).toNat) t117 bt118.1 bt118.2 (mn (mn a1 600) (wrap64 (8 * ((a0.extract 0 ((mn (a0.size : Int) 60) : Int).toNat).size : Int))))))) else (none)) else (none)) else (some false))
theorem bailiwicklaw08_BitsFirst.mono_l : ∀ k, (∀ y0 y1 y2 y3 y4, LeO (bailiwicklaw08_BitsFirst.j0 k y0 y1 y2 y3 y4) (bailiwicklaw08_BitsFirst.j0 (k + 1) y0 y1 y2 y3 y4)) ∧ (∀ y0 y1 y2 y3 y4 y5, LeO (bailiwicklaw08_BitsFirst.l0 k y0 y1 y2 y3 y4 y5) (bailiwicklaw08_BitsFirst.l0 (k + 1) y0 y1 y2 y3 y4 y5))
  | 0 => ⟨fun _ _ _ _ _ r h => by simp [bailiwicklaw08_BitsFirst.j0] at h, fun _ _ _ _ _ _ r h => by simp [bailiwicklaw08_BitsFirst.l0] at h⟩
  | k + 1 => by
    obtain ⟨ih0, ih1⟩ := bailiwicklaw08_BitsFirst.mono_l k
    refine ⟨?_, ?_⟩
    · intro y0 y1 y2 y3 y4
      unfold bailiwicklaw08_BitsFirst.j0
      repeat' first
      | (with_reducible exact ih0 _ _ _ _ _)
      | (with_reducible exact ih1 _ _ _ _ _ _)
      | (with_reducible exact LeO.refl _)
      | (with_reducible exact LeO.none _)
      | (with_reducible refine LeO.ite ?_ ?_)
      | (with_reducible refine LeO.bind ?_ (fun _ => ?_))
      | exact ih0 _ _ _ _ _
      | exact ih1 _ _ _ _ _ _
      | exact LeO.none _
      | refine LeO.ite ?_ ?_
      | refine LeO.bind ?_ (fun _ => ?_)
    · intro y0 y1 y2 y3 y4 y5
      unfold bailiwicklaw08_BitsFirst.l0
      repeat' first
      | (with_reducible exact ih0 _ _ _ _ _)
      | (with_reducible exact ih1 _ _ _ _ _ _)
      | (with_reducible exact LeO.refl _)
      | (with_reducible exact LeO.none _)
      | (with_reducible refine LeO.ite ?_ ?_)
      | (with_reducible refine LeO.bind ?_ (fun _ => ?_))
      | exact ih0 _ _ _ _ _
      | exact ih1 _ _ _ _ _ _
      | exact LeO.none _
      | refine LeO.ite ?_ ?_
      | refine LeO.bind ?_ (fun _ => ?_)
theorem bailiwicklaw08_BitsFirst.mono : ∀ a0 a1 k, LeO (bailiwicklaw08_BitsFirst.f k a0 a1) (bailiwicklaw08_BitsFirst.f (k + 1) a0 a1) := by
  intro a0 a1 k
  obtain ⟨ih0, ih1⟩ := bailiwicklaw08_BitsFirst.mono_l k
  unfold bailiwicklaw08_BitsFirst.f
  repeat' first
      | (with_reducible exact ih0 _ _ _ _ _)
      | (with_reducible exact ih1 _ _ _ _ _ _)
      | (with_reducible exact LeO.refl _)
      | (with_reducible exact LeO.none _)
      | (with_reducible refine LeO.ite ?_ ?_)
      | (with_reducible refine LeO.bind ?_ (fun _ => ?_))
      | exact ih0 _ _ _ _ _
      | exact ih1 _ _ _ _ _ _
      | exact LeO.none _
      | refine LeO.ite ?_ ?_
      | refine LeO.bind ?_ (fun _ => ?_)
set_option maxHeartbeats 8000000 in
set_option maxRecDepth 100000 in
theorem bailiwicklaw08_BitsFirst.calls (k : Nat) (a0 : ByteArray) (a1 : Int) (r : Bool) (w : World) (h : bailiwicklaw08_BitsFirst.f k a0 a1 = some r) :
    Calls Try.prog 4 #[.string a0, .int .i64 a1] w fun e w' => e = .returned (.bool r) ∧ Below w.heap.size w w' := by
  have HB := Aside0.mk (Below.refl w.heap.size w)
  have H : ((bailiwicklaw08_examples.f).bind fun t117 => (if t117 = true then (if 0 ≤ (mn (a0.size : Int) 60) then (if (mn (a0.size : Int) 60) ≤ (a0.size : Int) then ((bits_First.f (a0.extract 0 ((mn (a0.size : Int) 60) : Int).toNat) (mn a1 600)).bind fun bt118 => (if bt118.2 = true then (if bt118.1 < 0 then (some false) else (if bt118.1 ≥ (mn (mn a1 600) (wrap64 (8 * ((a0.extract 0 ((mn (a0.size : Int) 60) : Int).toNat).size : Int)))) then (some false) else ((Go.Proofs.Ytbneljnmhofjfaa.P.bits_Has.f (a0.extract 0 ((mn (a0.size : Int) 60) : Int).toNat) bt118.1).bind fun t120 => (if t120 = true then (some false) else (bailiwicklaw08_BitsFirst.j0 k (a0.extract 0 ((mn (a0.size : Int) 60) : Int).toNat) t117 bt118.1 bt118.2 bt118.1))))) else (bailiwicklaw08_BitsFirst.j0 k (a0.extract 0 ((mn (a0.size : Int) 60) : Int).toNat) t117 bt118.1 bt118.2 (mn (mn a1 600) (wrap64 (8 * ((a0.extract 0 ((mn (a0.size : Int) 60) : Int).toNat).size : Int))))))) else (none)) else (none)) else (some false))) = some r := h
  clear h
  replace H := Option.bind_eq_some_iff.mp H
  obtain ⟨t117, A30, H⟩ := H
  replace H : (if t117 = true then (if 0 ≤ (mn (a0.size : Int) 60) then (if (mn (a0.size : Int) 60) ≤ (a0.size : Int) then ((bits_First.f (a0.extract 0 ((mn (a0.size : Int) 60) : Int).toNat) (mn a1 600)).bind fun bt118 => (if bt118.2 = true then (if bt118.1 < 0 then (some false) else (if bt118.1 ≥ (mn (mn a1 600) (wrap64 (8 * ((a0.extract 0 ((mn (a0.size : Int) 60) : Int).toNat).size : Int)))) then (some false) else ((Go.Proofs.Ytbneljnmhofjfaa.P.bits_Has.f (a0.extract 0 ((mn (a0.size : Int) 60) : Int).toNat) bt118.1).bind fun t120 => (if t120 = true then (some false) else (bailiwicklaw08_BitsFirst.j0 k (a0.extract 0 ((mn (a0.size : Int) 60) : Int).toNat) t117 bt118.1 bt118.2 bt118.1))))) else (bailiwicklaw08_BitsFirst.j0 k (a0.extract 0 ((mn (a0.size : Int) 60) : Int).toNat) t117 bt118.1 bt118.2 (mn (mn a1 600) (wrap64 (8 * ((a0.extract 0 ((mn (a0.size : Int) 60) : Int).toNat).size : Int))))))) else (none)) else (none)) else (some false)) = some r := H
  have A3 := Aside0.mk A30
  clear A30
  by_cases c4 : t117 = true
  · subst c4
    have H1 : (if 0 ≤ (mn (a0.size : Int) 60) then (if (mn (a0.size : Int) 60) ≤ (a0.size : Int) then ((bits_First.f (a0.extract 0 ((mn (a0.size : Int) 60) : Int).toNat) (mn a1 600)).bind fun bt118 => (if bt118.2 = true then (if bt118.1 < 0 then (some false) else (if bt118.1 ≥ (mn (mn a1 600) (wrap64 (8 * ((a0.extract 0 ((mn (a0.size : Int) 60) : Int).toNat).size : Int)))) then (some false) else ((Go.Proofs.Ytbneljnmhofjfaa.P.bits_Has.f (a0.extract 0 ((mn (a0.size : Int) 60) : Int).toNat) bt118.1).bind fun t120 => (if t120 = true then (some false) else (bailiwicklaw08_BitsFirst.j0 k (a0.extract 0 ((mn (a0.size : Int) 60) : Int).toNat) true bt118.1 bt118.2 bt118.1))))) else (bailiwicklaw08_BitsFirst.j0 k (a0.extract 0 ((mn (a0.size : Int) 60) : Int).toNat) true bt118.1 bt118.2 (mn (mn a1 600) (wrap64 (8 * ((a0.extract 0 ((mn (a0.size : Int) 60) : Int).toNat).size : Int))))))) else (none)) else (none)) = some r := by first | (rw [if_pos rfl] at H; exact H) | (rw [if_pos trivial] at H; exact H)
    clear H
    have H := H1
    clear H1
    obtain ⟨ji5, hji5⟩ : ∃ j_ : Int, (mn (a0.size : Int) 60) = j_ := ⟨_, rfl⟩
    replace H : (if 0 ≤ (ji5) then (if (ji5) ≤ (a0.size : Int) then ((bits_First.f (a0.extract 0 ((ji5) : Int).toNat) (mn a1 600)).bind fun bt118 => (if bt118.2 = true then (if bt118.1 < 0 then (some false) else (if bt118.1 ≥ (mn (mn a1 600) (wrap64 (8 * ((a0.extract 0 ((ji5) : Int).toNat).size : Int)))) then (some false) else ((Go.Proofs.Ytbneljnmhofjfaa.P.bits_Has.f (a0.extract 0 ((ji5) : Int).toNat) bt118.1).bind fun t120 => (if t120 = true then (some false) else (bailiwicklaw08_BitsFirst.j0 k (a0.extract 0 ((ji5) : Int).toNat) true bt118.1 bt118.2 bt118.1))))) else (bailiwicklaw08_BitsFirst.j0 k (a0.extract 0 ((ji5) : Int).toNat) true bt118.1 bt118.2 (mn (mn a1 600) (wrap64 (8 * ((a0.extract 0 ((ji5) : Int).toNat).size : Int))))))) else (none)) else (none)) = some r := by first | (rw [hji5] at H; exact H) | (simp only [hji5] at H ⊢; exact H)
    (try rw [hji5] at A3)
    (try (have hji5h : ji5 ≤ 60 := by (rw [← hji5]; unfold mn; (repeat' split) <;> omega)))
    (try (have hji5g : ji5 ≤ 64 := by omega))
    (try (have hji5l : 0 ≤ ji5 := by (rw [← hji5]; unfold mn; (repeat' split) <;> omega)))
    (try (have hji5m : 0 ≤ ji5 := by omega))
    have hji5_ : (if 60 < (a0.size : Int) then 60 else (a0.size : Int)) = ji5 := hji5
    obtain ⟨bx5_a0, hbx5_a0⟩ : ∃ b_ : ByteArray, (a0.extract 0 (ji5 : Int).toNat) = b_ := ⟨_, rfl⟩
    have hbx5_a0z : bx5_a0.size ≤ 60 := by rw [← hbx5_a0, ByteArray.size_extract]; omega
    simp only [hbx5_a0] at H
    by_cases c6 : 0 ≤ (ji5)
    · rw [if_pos c6] at H
      have c6b0 := eq_true c6
      have c6b1 : decide (0 ≤ (ji5)) = true := decide_eq_true c6
      clear c6
      by_cases c7 : (ji5) ≤ (a0.size : Int)
      · rw [if_pos c7] at H
        have c7b0 := eq_true c7
        have c7b1 : decide ((ji5) ≤ (a0.size : Int)) = true := decide_eq_true c7
        clear c7
        obtain ⟨ji8, hji8⟩ : ∃ j_ : Int, (mn a1 600) = j_ := ⟨_, rfl⟩
        replace H : ((bits_First.f bx5_a0 (ji8)).bind fun bt118 => (if bt118.2 = true then (if bt118.1 < 0 then (some false) else (if bt118.1 ≥ (mn (ji8) (wrap64 (8 * (bx5_a0.size : Int)))) then (some false) else ((Go.Proofs.Ytbneljnmhofjfaa.P.bits_Has.f bx5_a0 bt118.1).bind fun t120 => (if t120 = true then (some false) else (bailiwicklaw08_BitsFirst.j0 k bx5_a0 true bt118.1 bt118.2 bt118.1))))) else (bailiwicklaw08_BitsFirst.j0 k bx5_a0 true bt118.1 bt118.2 (mn (ji8) (wrap64 (8 * (bx5_a0.size : Int))))))) = some r := by first | (rw [hji8] at H; exact H) | (simp only [hji8] at H ⊢; exact H)
        (try rw [hji8] at A3)
        (try (have hji8h : ji8 ≤ 600 := by (rw [← hji8]; unfold mn; (repeat' split) <;> omega)))
        (try (have hji8g : ji8 ≤ 64 := by omega))
        have hji8_ : (if 600 < a1 then 600 else a1) = ji8 := hji8
        replace H := Option.bind_eq_some_iff.mp H
        obtain ⟨⟨t118, t119⟩, A90, H⟩ := H
        replace H : (if t119 = true then (if t118 < 0 then (some false) else (if t118 ≥ (mn (ji8) (wrap64 (8 * (bx5_a0.size : Int)))) then (some false) else ((Go.Proofs.Ytbneljnmhofjfaa.P.bits_Has.f bx5_a0 t118).bind fun t120 => (if t120 = true then (some false) else (bailiwicklaw08_BitsFirst.j0 k bx5_a0 true t118 t119 t118))))) else (bailiwicklaw08_BitsFirst.j0 k bx5_a0 true t118 t119 (mn (ji8) (wrap64 (8 * (bx5_a0.size : Int)))))) = some r := H
        have A9 := Aside0.mk A90
        clear A90
        obtain ⟨ji10, hji10⟩ : ∃ j_ : Int, (mn (ji8) (wrap64 (8 * (bx5_a0.size : Int)))) = j_ := ⟨_, rfl⟩
        replace H : (if t119 = true then (if t118 < 0 then (some false) else (if t118 ≥ (ji10) then (some false) else ((Go.Proofs.Ytbneljnmhofjfaa.P.bits_Has.f bx5_a0 t118).bind fun t120 => (if t120 = true then (some false) else (bailiwicklaw08_BitsFirst.j0 k bx5_a0 true t118 t119 t118))))) else (bailiwicklaw08_BitsFirst.j0 k bx5_a0 true t118 t119 ji10)) = some r := by first | (rw [hji10] at H; exact H) | (simp only [hji10] at H ⊢; exact H)
        (try rw [hji10] at A3)
        (try rw [hji10] at A9)
        have hji10_ : (if (wrap64 (8 * (bx5_a0.size : Int))) < (ji8) then (wrap64 (8 * (bx5_a0.size : Int))) else (ji8)) = ji10 := hji10
        have hji10q : (if (8 * (bx5_a0.size : Int)) < (ji8) then (8 * (bx5_a0.size : Int)) else (ji8)) = ji10 := by have h_ := hji10_; rw [show wrap64 (8 * (bx5_a0.size : Int)) = (8 * (bx5_a0.size : Int)) by unfold wrap64; omega] at h_; exact h_
        have HC11 := Aside0.mk H
        clear H
        go_enter Try.func4, Try.ntmps4
        (try dsimp only [List.append])
        go_upto_if 31 with (first | ((with_reducible refine gate_callee (f := 10) rfl ?_); refine goesL_ (some 10) rfl rfl Try.func10 (by kernel_rfl) rfl #[] rfl (by (try simp only [List.map_toArray, List.map_cons, List.map_nil]); first | done | rfl | (simp only [List.length_drop, List.length_take]; rfl)) ?_; (with_reducible refine (bailiwicklaw08_examples.calls  true _ A3.out).mono ?_); rintro e w12 ⟨rfl, hb⟩; refine ⟨_, rfl, ?_⟩; have n0_ := Aside0.mk (below_step (by repeat (first | (with_reducible first | exact HB.out | apply below_alloc | apply pw_below_drewN | apply below_drew1) | exact HB.out)) hb); clear HB; have HB := n0_; clear n0_; (try clear hb); (try clear hb2); (try clear hk); (try clear hi)) | ((with_reducible refine gate_callee (f := 11) rfl ?_); refine goesL_ (some 23) rfl rfl Try.func11 (by kernel_rfl) rfl #[.string bx5_a0, .int .i64 ji8] rfl (by (try simp only [List.map_toArray, List.map_cons, List.map_nil]); first | done | (simp only [hji5, hji8]; rfl) | rfl | (simp only [List.length_drop, List.length_take]; rfl)) ?_; (with_reducible refine (bits_First.calls bx5_a0 ji8 t118 t119 _ A9.out).mono ?_); rintro e w' ⟨rfl, ⟨nd, rfl⟩⟩; refine ⟨_, rfl, ?_⟩))
        (try simp only [Act.put, List.setIfInBounds_toArray, List.set_cons_zero, List.set_cons_succ])
        go_cut [8] (fun v8 wc => ∃ (kq : Nat) (x8_10 : Int), v8 = .int .i64 x8_10 ∧ Aside0 (bailiwicklaw08_BitsFirst.j0 kq bx5_a0 true t118 t119 x8_10 = some r) ∧ Aside0 (kq ≤ k) ∧ Aside0 (Below w.heap.size w wc))
        case first =>
          have H := HC11.out
          clear HC11
          by_cases c13 : t119 = true
          · subst c13
            have H1 : (if t118 < 0 then (some false) else (if t118 ≥ (ji10) then (some false) else ((Go.Proofs.Ytbneljnmhofjfaa.P.bits_Has.f bx5_a0 t118).bind fun t120 => (if t120 = true then (some false) else (bailiwicklaw08_BitsFirst.j0 k bx5_a0 true t118 true t118))))) = some r := by first | (rw [if_pos rfl] at H; exact H) | (rw [if_pos trivial] at H; exact H)
            clear H
            have H := H1
            clear H1
            by_cases c14 : t118 < 0
            · rw [if_pos c14] at H
              have c14b0 : decide (t118 < 0) = true := decide_eq_true c14
              clear c14
              (first | rw [c14b0] | (simp only [i64_w, i32_w]; rw [c14b0]) | skip)
              obtain rfl := Option.some.inj H
              go_wp2
              go_ret
              exact ⟨by first | rfl | (simp [errW_none, errW_some] <;> rfl) | (simp only [← hji5, ← hji8, ← hji10]; first | rfl | (simp [errW_none, errW_some] <;> rfl)) | (simp [*, errW_none, errW_some] <;> rfl), by repeat (first | (with_reducible first | exact HB.out | apply below_alloc | apply pw_below_drewN | apply below_drew1) | exact HB.out)⟩
            · rw [if_neg c14] at H
              have c14b0 : decide (t118 < 0) = false := decide_eq_false c14
              clear c14
              (first | rw [c14b0] | (simp only [i64_w, i32_w]; rw [c14b0]) | skip)
              by_cases c15 : t118 ≥ (ji10)
              · rw [if_pos c15] at H
                have c15b0 : decide ((ji10) ≤ t118) = true := decide_eq_true c15
                clear c15
                obtain rfl := Option.some.inj H
                go_wp2
                go_ret
                exact ⟨by first | rfl | (simp [errW_none, errW_some] <;> rfl) | (simp only [← hji5, ← hji8, ← hji10]; first | rfl | (simp [errW_none, errW_some] <;> rfl)) | (simp [*, errW_none, errW_some] <;> rfl), by repeat (first | (with_reducible first | exact HB.out | apply below_alloc | apply pw_below_drewN | apply below_drew1) | exact HB.out)⟩
              · rw [if_neg c15] at H
                have c15b0 : decide ((ji10) ≤ t118) = false := decide_eq_false c15
                clear c15
                replace H := Option.bind_eq_some_iff.mp H
                obtain ⟨t120, A160, H⟩ := H
                replace H : (if t120 = true then (some false) else (bailiwicklaw08_BitsFirst.j0 k bx5_a0 true t118 true t118)) = some r := H
                have A16 := Aside0.mk A160
                clear A160
                by_cases c17 : t120 = true
                · subst c17
                  have H1 : (some false) = some r := by first | (rw [if_pos rfl] at H; exact H) | (rw [if_pos trivial] at H; exact H)
                  clear H
                  have H := H1
                  clear H1
                  obtain rfl := Option.some.inj H
                  go_wp2_with (first | (go_at_call 13; (with_reducible refine (Go.Proofs.Ytbneljnmhofjfaa.P.bits_Has.calls bx5_a0 t118 true _ A16.out).mono ?_); rintro e w' ⟨rfl, ⟨nd, rfl⟩⟩))
                  go_ret
                  exact ⟨by first | rfl | (simp [errW_none, errW_some] <;> rfl) | (simp only [← hji5, ← hji8, ← hji10]; first | rfl | (simp [errW_none, errW_some] <;> rfl)) | (simp [*, errW_none, errW_some] <;> rfl), by repeat (first | (with_reducible first | exact HB.out | apply below_alloc | apply pw_below_drewN | apply below_drew1) | exact HB.out)⟩
                · replace c17 := Bool.eq_false_iff.mpr c17
                  subst c17
                  have H1 : (bailiwicklaw08_BitsFirst.j0 k bx5_a0 true t118 true t118) = some r := by rw [if_neg (show ¬ (false = true) by decide)] at H; exact H
                  clear H
                  have H := H1
                  clear H1
                  have H' := Aside0.mk H
                  clear H
                  go_wp2_with (first | (go_at_call 13; (with_reducible refine (Go.Proofs.Ytbneljnmhofjfaa.P.bits_Has.calls bx5_a0 t118 false _ A16.out).mono ?_); rintro e w' ⟨rfl, ⟨nd, rfl⟩⟩))
                  go_meet
                  case rel => exact ⟨_, (t118), (by first | rfl | (simp; done) | (simp [*]; done)), H', ⟨by first | omega | exact Nat.le_refl _⟩, ⟨by repeat (first | (with_reducible first | exact HB.out | apply below_alloc | apply pw_below_drewN | apply below_drew1) | exact HB.out)⟩⟩
          · replace c13 := Bool.eq_false_iff.mpr c13
            subst c13
            have H1 : (bailiwicklaw08_BitsFirst.j0 k bx5_a0 true t118 false ji10) = some r := by rw [if_neg (show ¬ (false = true) by decide)] at H; exact H
            clear H
            have H := H1
            clear H1
            have H' := Aside0.mk H
            clear H
            go_wp2
            go_meet
            case rel => exact ⟨_, (ji10), (by first | rfl | (simp; done) | (simp only [← hji10] <;> (first | rfl | simp)) | (simp [*]; done)), H', ⟨by first | omega | exact Nat.le_refl _⟩, ⟨by repeat (first | (with_reducible first | exact HB.out | apply below_alloc | apply pw_below_drewN | apply below_drew1) | exact HB.out)⟩⟩
        case rest =>
          clear HC11
          try clear c1
          try clear p2
          try clear c4
          try clear c6
          try clear c6b0
          try clear c6b1
          try clear p6
          try clear c7
          try clear c7b0
          try clear c7b1
          try clear c10
          try clear c11
          try clear c13
          try clear c14
          try clear c14b0
          try clear c15
          try clear c15b0
          try clear c17
          obtain ⟨kq, x8_10, rfl, HA, HJ10, HB⟩ := hcut
          cases kq with
          | zero => exact absurd HA.out (by simp [bailiwicklaw08_BitsFirst.j0])
          | succ kj10 =>
            have H := HA.out
            clear HA
            simp only [bailiwicklaw08_BitsFirst.j0] at H
            have H' := Aside0.mk H
            clear H
            go_wp2
            go_loopg [9] kj10 (fun kq v9 w' => ∃ (x9_2 : Int), v9 = .int .i64 x9_2 ∧ Aside0 (bailiwicklaw08_BitsFirst.l0 kq bx5_a0 true t118 t119 x8_10 x9_2 = some r) ∧ Aside0 (kq ≤ kj10) ∧ Aside0 (Below w.heap.size w w'))
            case atStart => exact ⟨(0), (by first | rfl | (simp; done) | (simp [*]; done)), H', ⟨Nat.le_refl _⟩, ⟨by repeat (first | (with_reducible first | exact HB.out | apply below_alloc | apply pw_below_drewN | apply below_drew1) | exact HB.out)⟩⟩
            case round =>
              clear H'
              try clear c1
              try clear p2
              try clear c4
              try clear c6
              try clear c6b0
              try clear c6b1
              try clear p6
              try clear c7
              try clear c7b0
              try clear c7b1
              try clear c10
              try clear c11
              try clear c13
              try clear c14
              try clear c14b0
              try clear c15
              try clear c15b0
              try clear c17
              try clear p2
              try clear p6
              obtain ⟨x9_2, rfl, HA, HK2, HB⟩ := hrel
              cases gk with
              | zero => exact absurd HA.out (by simp [bailiwicklaw08_BitsFirst.l0])
              | succ k2 =>
                have H := HA.out
                clear HA
                simp only [bailiwicklaw08_BitsFirst.l0] at H
                by_cases c18 : x9_2 < x8_10
                · rw [if_pos c18] at H
                  have c18b0 : decide (x9_2 < x8_10) = true := decide_eq_true c18
                  clear c18
                  replace H := Option.bind_eq_some_iff.mp H
                  obtain ⟨t121, A190, H⟩ := H
                  replace H : (if t121 = true then (bailiwicklaw08_BitsFirst.l0 k2 bx5_a0 true t118 t119 x8_10 (wrap64 (x9_2 + 1))) else (some false)) = some r := H
                  have A19 := Aside0.mk A190
                  clear A190
                  by_cases c20 : t121 = true
                  · subst c20
                    have H1 : (bailiwicklaw08_BitsFirst.l0 k2 bx5_a0 true t118 t119 x8_10 (wrap64 (x9_2 + 1))) = some r := by first | (rw [if_pos rfl] at H; exact H) | (rw [if_pos trivial] at H; exact H)
                    clear H
                    have H := H1
                    clear H1
                    have H' := Aside0.mk H
                    clear H
                    go_wp2_with (first | ((with_reducible refine gate_callee (f := 13) rfl ?_); refine goesL_ (some 52) rfl rfl Try.func13 (by kernel_rfl) rfl #[.string bx5_a0, .int .i64 x9_2] rfl (by (try simp only [List.map_toArray, List.map_cons, List.map_nil]); first | done | (simp only [hji5]; rfl) | rfl | (simp only [List.length_drop, List.length_take]; rfl)) ?_; (with_reducible refine (Go.Proofs.Ytbneljnmhofjfaa.P.bits_Has.calls bx5_a0 x9_2 true _ A19.out).mono ?_); rintro e w' ⟨rfl, ⟨nd, rfl⟩⟩; refine ⟨_, rfl, ?_⟩))
                    go_roundg k2
                    case measure => have := HJ10.out; have := HK2.out; omega
                    case rel => exact ⟨(wrap64 (x9_2 + 1)), (by first | rfl | (simp; done) | (simp [*]; done)), H', ⟨by have := HJ10.out; have := HK2.out; omega⟩, ⟨by repeat (first | (with_reducible first | exact HB.out | apply below_alloc | apply pw_below_drewN | apply below_drew1) | exact HB.out)⟩⟩
                  · replace c20 := Bool.eq_false_iff.mpr c20
                    subst c20
                    have H1 : (some false) = some r := by rw [if_neg (show ¬ (false = true) by decide)] at H; exact H
                    clear H
                    have H := H1
                    clear H1
                    obtain rfl := Option.some.inj H
                    go_wp2_with (first | ((with_reducible refine gate_callee (f := 13) rfl ?_); refine goesL_ (some 52) rfl rfl Try.func13 (by kernel_rfl) rfl #[.string bx5_a0, .int .i64 x9_2] rfl (by (try simp only [List.map_toArray, List.map_cons, List.map_nil]); first | done | (simp only [hji5]; rfl) | rfl | (simp only [List.length_drop, List.length_take]; rfl)) ?_; (with_reducible refine (Go.Proofs.Ytbneljnmhofjfaa.P.bits_Has.calls bx5_a0 x9_2 false _ A19.out).mono ?_); rintro e w' ⟨rfl, ⟨nd, rfl⟩⟩; refine ⟨_, rfl, ?_⟩))
                    go_ret
                    exact ⟨by first | rfl | (simp [errW_none, errW_some] <;> rfl) | (simp only [← hji5, ← hji8, ← hji10]; first | rfl | (simp [errW_none, errW_some] <;> rfl)) | (simp [*, errW_none, errW_some] <;> rfl), by repeat (first | (with_reducible first | exact HB.out | apply below_alloc | apply pw_below_drewN | apply below_drew1) | exact HB.out)⟩
                · rw [if_neg c18] at H
                  have c18b0 : decide (x9_2 < x8_10) = false := decide_eq_false c18
                  clear c18
                  by_cases c21 : true = true
                  · clear c21
                    have H1 : (if t119 = true then (some true) else (some (t118 == 0))) = some r := by first | (rw [if_pos rfl] at H; exact H) | (rw [if_pos trivial] at H; exact H)
                    clear H
                    have H := H1
                    clear H1
                    by_cases c22 : t119 = true
                    · subst c22
                      have H1 : (some true) = some r := by first | (rw [if_pos rfl] at H; exact H) | (rw [if_pos trivial] at H; exact H)
                      clear H
                      have H := H1
                      clear H1
                      obtain rfl := Option.some.inj H
                      go_wp2
                      go_ret
                      exact ⟨by first | rfl | (simp [errW_none, errW_some] <;> rfl) | (simp only [← hji5, ← hji8, ← hji10]; first | rfl | (simp [errW_none, errW_some] <;> rfl)) | (simp [*, errW_none, errW_some] <;> rfl), by repeat (first | (with_reducible first | exact HB.out | apply below_alloc | apply pw_below_drewN | apply below_drew1) | exact HB.out)⟩
                    · replace c22 := Bool.eq_false_iff.mpr c22
                      subst c22
                      have H1 : (some (t118 == 0)) = some r := by rw [if_neg (show ¬ (false = true) by decide)] at H; exact H
                      clear H
                      have H := H1
                      clear H1
                      obtain rfl := Option.some.inj H
                      go_wp2
                      go_ret
                      exact ⟨by first | rfl | (simp [errW_none, errW_some] <;> rfl) | (simp only [← hji5, ← hji8, ← hji10]; first | rfl | (simp [errW_none, errW_some] <;> rfl)) | (simp [*, errW_none, errW_some] <;> rfl), by repeat (first | (with_reducible first | exact HB.out | apply below_alloc | apply pw_below_drewN | apply below_drew1) | exact HB.out)⟩
                  · exact absurd rfl c21
      · rw [if_neg c7] at H
        exact absurd H (by simp)
    · rw [if_neg c6] at H
      exact absurd H (by simp)
  · replace c4 := Bool.eq_false_iff.mpr c4
    subst c4
    have H1 : (some false) = some r := by rw [if_neg (show ¬ (false = true) by decide)] at H; exact H
    clear H
    have H := H1
    clear H1
    obtain rfl := Option.some.inj H
    go_enter Try.func4, Try.ntmps4
    (try dsimp only [List.append])
    go_wp2_with (first | ((with_reducible refine gate_callee (f := 10) rfl ?_); refine goesL_ (some 10) rfl rfl Try.func10 (by kernel_rfl) rfl #[] rfl (by (try simp only [List.map_toArray, List.map_cons, List.map_nil]); first | done | rfl | (simp only [List.length_drop, List.length_take]; rfl)) ?_; (with_reducible refine (bailiwicklaw08_examples.calls  false _ A3.out).mono ?_); rintro e w23 ⟨rfl, hb⟩; refine ⟨_, rfl, ?_⟩; have n0_ := Aside0.mk (below_step (by repeat (first | (with_reducible first | exact HB.out | apply below_alloc | apply pw_below_drewN | apply below_drew1) | exact HB.out)) hb); clear HB; have HB := n0_; clear n0_; (try clear hb); (try clear hb2); (try clear hk); (try clear hi)))
    go_ret
    exact ⟨by first | rfl | (simp [errW_none, errW_some] <;> rfl) | (simp [*, errW_none, errW_some] <;> rfl), by repeat (first | (with_reducible first | exact HB.out | apply below_alloc | apply pw_below_drewN | apply below_drew1) | exact HB.out)⟩

/-- THE ONE PURE STATEMENT of bailiwicklaw08_BitsFirst: yours. -/
def bailiwicklaw08_BitsFirst.Pure : Prop := ∀ (a0 : ByteArray) (a1 : Int), a0.size ≤ 140737488351232 → (Lit.int .i64 a1).wf = true → ∃ k, bailiwicklaw08_BitsFirst.f k a0 a1 = some true
theorem bailiwicklaw08_BitsFirst.walk (P : bailiwicklaw08_BitsFirst.Pure) (a0 : ByteArray) (a1 : Int) (w : World) (w0 : a0.size ≤ 140737488351232) (w1 : (Lit.int .i64 a1).wf = true) :
    Calls Try.prog 4 #[.string a0, .int .i64 a1] w fun e w' => e = .returned (.bool true) ∧ Below w.heap.size w w' := by
  obtain ⟨k, h⟩ := P a0 a1 w0 w1
  refine (bailiwicklaw08_BitsFirst.calls k a0 a1 true w h).mono ?_
  rintro e w' ⟨rfl, hd⟩
  exact ⟨rfl, hd⟩

-- NOT PRINTED: function 28 (bits_OnesCount8)

-- PROVED BY HAND: function 19 (bits_Count)

end Go.Proofs.Ytbneljnmhofjfaa.G
