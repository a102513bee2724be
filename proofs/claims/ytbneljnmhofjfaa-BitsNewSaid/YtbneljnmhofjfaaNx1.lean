-- Written by a program of this session (gp.py), which drives the print with some lines turned. Not trusted: Lean checks it.
import Derived.Test.YtbneljnmhofjfaaNx0
namespace Go.Proofs.Ytbneljnmhofjfaa.N
open Go.RowKit Go.Proofs.YtbneljnmhofjfaaW.PrintWords Go.Proofs.YtbneljnmhofjfaaW.PrintLast Go.Proofs.YtbneljnmhofjfaaW.PrintMore
attribute [local go_sem] max2_int min2_int max_two min_two max_three min_three max_four min_four G.emod_u8 G.emod_u16 G.emod_u32
set_option linter.unusedVariables false
set_option linter.unusedSimpArgs false

-- NOT PRINTED: function 25 (bits_TrailingZeros8)

-- PROVED BY HAND: function 11 (bits_First)

-- PROVED BY HAND: function 13 (bits_Has)

-- PROVED BY HAND: function 15 (bits_With)

-- NOT PRINTED: function 38 (bits_Mul32)

-- NOT PRINTED: function 39 (bits_Mul64)

-- NOT PRINTED: function 32 (bits_Mul)

-- NOT PRINTED: function 40 (stringslite_HasPrefix)

-- NOT PRINTED: function 33 (strings_HasPrefix)

-- NOT PRINTED: function 43 (abi_NoEscape)

-- NOT PRINTED: function 41 (strings_Builder_copyCheck)

-- NOT PRINTED: function 44 (bytealg_MakeNoZero)

-- NOT PRINTED: function 42 (strings_Builder_grow)

-- NOT PRINTED: function 34 (strings_Builder_Grow)

-- NOT PRINTED: function 35 (strings_Builder_WriteString)

-- NOT PRINTED: function 36 (strings_Builder_Len)

-- NOT PRINTED: function 37 (strings_Builder_String)

-- NOT PRINTED: function 27 (strings_Repeat)

-- PROVED BY HAND: function 17 (bits_New)

/-! ### bailiwicklaw08_examples: function 10 -/
def bailiwicklaw08_examples.f  : Option (Bool) := (Go.Proofs.Ytbneljnmhofjfaa.G.bits_New.f 9).bind fun t101 => ((Go.Proofs.Ytbneljnmhofjfaa.G.bits_With.f t101 8 true).bind fun t102 => ((Go.Proofs.Ytbneljnmhofjfaa.G.bits_First.f (⟨#[3]⟩ : ByteArray) 8).bind fun bt103 => (if t102.toList = ([0, 1] : List UInt8) then ((Go.Proofs.Ytbneljnmhofjfaa.P.bits_Has.f t102 8).bind fun t105 => (if t105 = true then (if bt103.1 = 2 then (some bt103.2) else (some false)) else (some false))) else (some false))))
set_option maxHeartbeats 8000000 in
set_option maxRecDepth 100000 in
theorem bailiwicklaw08_examples.calls  (r : Bool) (w : World) (h : bailiwicklaw08_examples.f  = some r) :
    Calls Try.prog 10 #[] w fun e w' => e = .returned (.bool r) ∧ Below w.heap.size w w' := by
  have HB := Aside0.mk (Below.refl w.heap.size w)
  have H : ((Go.Proofs.Ytbneljnmhofjfaa.G.bits_New.f 9).bind fun t101 => ((Go.Proofs.Ytbneljnmhofjfaa.G.bits_With.f t101 8 true).bind fun t102 => ((Go.Proofs.Ytbneljnmhofjfaa.G.bits_First.f (⟨#[3]⟩ : ByteArray) 8).bind fun bt103 => (if t102.toList = ([0, 1] : List UInt8) then ((Go.Proofs.Ytbneljnmhofjfaa.P.bits_Has.f t102 8).bind fun t105 => (if t105 = true then (if bt103.1 = 2 then (some bt103.2) else (some false)) else (some false))) else (some false))))) = some r := h
  clear h
  replace H := Option.bind_eq_some_iff.mp H
  obtain ⟨t101, A10, H⟩ := H
  replace H : ((Go.Proofs.Ytbneljnmhofjfaa.G.bits_With.f t101 8 true).bind fun t102 => ((Go.Proofs.Ytbneljnmhofjfaa.G.bits_First.f (⟨#[3]⟩ : ByteArray) 8).bind fun bt103 => (if t102.toList = ([0, 1] : List UInt8) then ((Go.Proofs.Ytbneljnmhofjfaa.P.bits_Has.f t102 8).bind fun t105 => (if t105 = true then (if bt103.1 = 2 then (some bt103.2) else (some false)) else (some false))) else (some false)))) = some r := H
  have A1 := Aside0.mk A10
  clear A10
  replace H := Option.bind_eq_some_iff.mp H
  obtain ⟨t102, A20, H⟩ := H
  replace H : ((Go.Proofs.Ytbneljnmhofjfaa.G.bits_First.f (⟨#[3]⟩ : ByteArray) 8).bind fun bt103 => (if t102.toList = ([0, 1] : List UInt8) then ((Go.Proofs.Ytbneljnmhofjfaa.P.bits_Has.f t102 8).bind fun t105 => (if t105 = true then (if bt103.1 = 2 then (some bt103.2) else (some false)) else (some false))) else (some false))) = some r := H
  have A2 := Aside0.mk A20
  clear A20
  replace H := Option.bind_eq_some_iff.mp H
  obtain ⟨⟨t103, t104⟩, A30, H⟩ := H
  replace H : (if t102.toList = ([0, 1] : List UInt8) then ((Go.Proofs.Ytbneljnmhofjfaa.P.bits_Has.f t102 8).bind fun t105 => (if t105 = true then (if t103 = 2 then (some t104) else (some false)) else (some false))) else (some false)) = some r := H
  have A3 := Aside0.mk A30
  clear A30
  by_cases c4 : t102.toList = ([0, 1] : List UInt8)
  · rw [if_pos c4] at H
    have c4b0 : (t102.toList == ([0, 1] : List UInt8)) = true := beq_iff_eq.mpr c4
    have c4b1 : (t102.toList != ([0, 1] : List UInt8)) = false := bne_eq_false_iff_eq.mpr c4
    clear c4
    replace H := Option.bind_eq_some_iff.mp H
    obtain ⟨t105, A50, H⟩ := H
    replace H : (if t105 = true then (if t103 = 2 then (some t104) else (some false)) else (some false)) = some r := H
    have A5 := Aside0.mk A50
    clear A50
    by_cases c6 : t105 = true
    · subst c6
      have H1 : (if t103 = 2 then (some t104) else (some false)) = some r := by first | (rw [if_pos rfl] at H; exact H) | (rw [if_pos trivial] at H; exact H)
      clear H
      have H := H1
      clear H1
      by_cases c7 : t103 = 2
      · rw [if_pos c7] at H
        have c7b0 : (t103 == 2) = true := beq_iff_eq.mpr c7
        have c7b1 : (t103 != 2) = false := bne_eq_false_iff_eq.mpr c7
        clear c7
        obtain rfl := Option.some.inj H
        go_enter Try.func10, Try.ntmps10
        go_wp2_with (first | ((with_reducible refine gate_callee (f := 17) rfl ?_); refine goesL_ (some 4) rfl rfl Try.func17 (by kernel_rfl) rfl #[.int .i64 9] rfl (by (try simp only [List.map_toArray, List.map_cons, List.map_nil]); first | done | rfl | (simp only [List.length_drop, List.length_take]; rfl)) ?_; (with_reducible refine (Go.Proofs.Ytbneljnmhofjfaa.G.bits_New.calls 9 t101 _ A1.out).mono ?_); rintro e w8 ⟨rfl, hb⟩; refine ⟨_, rfl, ?_⟩; have n0_ := Aside0.mk (below_step (by repeat (first | (with_reducible first | exact HB.out | apply below_alloc | apply pw_below_drewN | apply below_drew1) | exact HB.out)) hb); clear HB; have HB := n0_; clear n0_; (try clear hb); (try clear hb2); (try clear hk); (try clear hi)) | ((with_reducible refine gate_callee (f := 15) rfl ?_); refine goesL_ (some 5) rfl rfl Try.func15 (by kernel_rfl) rfl #[.string t101, .int .i64 8, .bool true] rfl (by (try simp only [List.map_toArray, List.map_cons, List.map_nil]); first | done | rfl | (simp only [List.length_drop, List.length_take]; rfl)) ?_; (with_reducible refine (Go.Proofs.Ytbneljnmhofjfaa.G.bits_With.calls t101 8 true t102 _ A2.out).mono ?_); rintro e w9 ⟨rfl, hb⟩; refine ⟨_, rfl, ?_⟩; have n0_ := Aside0.mk (below_step (by repeat (first | (with_reducible first | exact HB.out | apply below_alloc | apply pw_below_drewN | apply below_drew1) | exact HB.out)) hb); clear HB; have HB := n0_; clear n0_; (try clear hb); (try clear hb2); (try clear hk); (try clear hi)) | ((with_reducible refine gate_callee (f := 11) rfl ?_); refine goesL_ (some 7) rfl rfl Try.func11 (by kernel_rfl) rfl #[.string (⟨#[3]⟩ : ByteArray), .int .i64 8] rfl (by (try simp only [List.map_toArray, List.map_cons, List.map_nil]); first | done | rfl | (simp only [List.length_drop, List.length_take]; rfl)) ?_; (with_reducible refine (Go.Proofs.Ytbneljnmhofjfaa.G.bits_First.calls (⟨#[3]⟩ : ByteArray) 8 t103 t104 _ A3.out).mono ?_); rintro e w' ⟨rfl, ⟨nd, rfl⟩⟩; refine ⟨_, rfl, ?_⟩) | (go_at_call 13; (with_reducible refine (Go.Proofs.Ytbneljnmhofjfaa.P.bits_Has.calls t102 8 true _ A5.out).mono ?_); rintro e w' ⟨rfl, ⟨nd, rfl⟩⟩))
        go_ret
        exact ⟨by first | rfl | (simp [errW_none, errW_some] <;> rfl) | (simp [*, errW_none, errW_some] <;> rfl), by repeat (first | (with_reducible first | exact HB.out | apply below_alloc | apply pw_below_drewN | apply below_drew1) | exact HB.out)⟩
      · rw [if_neg c7] at H
        have c7b0 : (t103 == 2) = false := beq_eq_false_iff_ne.mpr c7
        have c7b1 : (t103 != 2) = true := bne_iff_ne.mpr c7
        obtain rfl := Option.some.inj H
        go_enter Try.func10, Try.ntmps10
        go_wp2_with (first | ((with_reducible refine gate_callee (f := 17) rfl ?_); refine goesL_ (some 4) rfl rfl Try.func17 (by kernel_rfl) rfl #[.int .i64 9] rfl (by (try simp only [List.map_toArray, List.map_cons, List.map_nil]); first | done | rfl | (simp only [List.length_drop, List.length_take]; rfl)) ?_; (with_reducible refine (Go.Proofs.Ytbneljnmhofjfaa.G.bits_New.calls 9 t101 _ A1.out).mono ?_); rintro e w10 ⟨rfl, hb⟩; refine ⟨_, rfl, ?_⟩; have n0_ := Aside0.mk (below_step (by repeat (first | (with_reducible first | exact HB.out | apply below_alloc | apply pw_below_drewN | apply below_drew1) | exact HB.out)) hb); clear HB; have HB := n0_; clear n0_; (try clear hb); (try clear hb2); (try clear hk); (try clear hi)) | ((with_reducible refine gate_callee (f := 15) rfl ?_); refine goesL_ (some 5) rfl rfl Try.func15 (by kernel_rfl) rfl #[.string t101, .int .i64 8, .bool true] rfl (by (try simp only [List.map_toArray, List.map_cons, List.map_nil]); first | done | rfl | (simp only [List.length_drop, List.length_take]; rfl)) ?_; (with_reducible refine (Go.Proofs.Ytbneljnmhofjfaa.G.bits_With.calls t101 8 true t102 _ A2.out).mono ?_); rintro e w11 ⟨rfl, hb⟩; refine ⟨_, rfl, ?_⟩; have n0_ := Aside0.mk (below_step (by repeat (first | (with_reducible first | exact HB.out | apply below_alloc | apply pw_below_drewN | apply below_drew1) | exact HB.out)) hb); clear HB; have HB := n0_; clear n0_; (try clear hb); (try clear hb2); (try clear hk); (try clear hi)) | ((with_reducible refine gate_callee (f := 11) rfl ?_); refine goesL_ (some 7) rfl rfl Try.func11 (by kernel_rfl) rfl #[.string (⟨#[3]⟩ : ByteArray), .int .i64 8] rfl (by (try simp only [List.map_toArray, List.map_cons, List.map_nil]); first | done | rfl | (simp only [List.length_drop, List.length_take]; rfl)) ?_; (with_reducible refine (Go.Proofs.Ytbneljnmhofjfaa.G.bits_First.calls (⟨#[3]⟩ : ByteArray) 8 t103 t104 _ A3.out).mono ?_); rintro e w' ⟨rfl, ⟨nd, rfl⟩⟩; refine ⟨_, rfl, ?_⟩) | (go_at_call 13; (with_reducible refine (Go.Proofs.Ytbneljnmhofjfaa.P.bits_Has.calls t102 8 true _ A5.out).mono ?_); rintro e w' ⟨rfl, ⟨nd, rfl⟩⟩))
        go_ret
        exact ⟨by first | rfl | (simp [errW_none, errW_some] <;> rfl) | (simp [*, errW_none, errW_some] <;> rfl), by repeat (first | (with_reducible first | exact HB.out | apply below_alloc | apply pw_below_drewN | apply below_drew1) | exact HB.out)⟩
    · replace c6 := Bool.eq_false_iff.mpr c6
      subst c6
      have H1 : (some false) = some r := by rw [if_neg (show ¬ (false = true) by decide)] at H; exact H
      clear H
      have H := H1
      clear H1
      obtain rfl := Option.some.inj H
      go_enter Try.func10, Try.ntmps10
      go_wp2_with (first | ((with_reducible refine gate_callee (f := 17) rfl ?_); refine goesL_ (some 4) rfl rfl Try.func17 (by kernel_rfl) rfl #[.int .i64 9] rfl (by (try simp only [List.map_toArray, List.map_cons, List.map_nil]); first | done | rfl | (simp only [List.length_drop, List.length_take]; rfl)) ?_; (with_reducible refine (Go.Proofs.Ytbneljnmhofjfaa.G.bits_New.calls 9 t101 _ A1.out).mono ?_); rintro e w12 ⟨rfl, hb⟩; refine ⟨_, rfl, ?_⟩; have n0_ := Aside0.mk (below_step (by repeat (first | (with_reducible first | exact HB.out | apply below_alloc | apply pw_below_drewN | apply below_drew1) | exact HB.out)) hb); clear HB; have HB := n0_; clear n0_; (try clear hb); (try clear hb2); (try clear hk); (try clear hi)) | ((with_reducible refine gate_callee (f := 15) rfl ?_); refine goesL_ (some 5) rfl rfl Try.func15 (by kernel_rfl) rfl #[.string t101, .int .i64 8, .bool true] rfl (by (try simp only [List.map_toArray, List.map_cons, List.map_nil]); first | done | rfl | (simp only [List.length_drop, List.length_take]; rfl)) ?_; (with_reducible refine (Go.Proofs.Ytbneljnmhofjfaa.G.bits_With.calls t101 8 true t102 _ A2.out).mono ?_); rintro e w13 ⟨rfl, hb⟩; refine ⟨_, rfl, ?_⟩; have n0_ := Aside0.mk (below_step (by repeat (first | (with_reducible first | exact HB.out | apply below_alloc | apply pw_below_drewN | apply below_drew1) | exact HB.out)) hb); clear HB; have HB := n0_; clear n0_; (try clear hb); (try clear hb2); (try clear hk); (try clear hi)) | ((with_reducible refine gate_callee (f := 11) rfl ?_); refine goesL_ (some 7) rfl rfl Try.func11 (by kernel_rfl) rfl #[.string (⟨#[3]⟩ : ByteArray), .int .i64 8] rfl (by (try simp only [List.map_toArray, List.map_cons, List.map_nil]); first | done | rfl | (simp only [List.length_drop, List.length_take]; rfl)) ?_; (with_reducible refine (Go.Proofs.Ytbneljnmhofjfaa.G.bits_First.calls (⟨#[3]⟩ : ByteArray) 8 t103 t104 _ A3.out).mono ?_); rintro e w' ⟨rfl, ⟨nd, rfl⟩⟩; refine ⟨_, rfl, ?_⟩) | (go_at_call 13; (with_reducible refine (Go.Proofs.Ytbneljnmhofjfaa.P.bits_Has.calls t102 8 false _ A5.out).mono ?_); rintro e w' ⟨rfl, ⟨nd, rfl⟩⟩))
      go_ret
      exact ⟨by first | rfl | (simp [errW_none, errW_some] <;> rfl) | (simp [*, errW_none, errW_some] <;> rfl), by repeat (first | (with_reducible first | exact HB.out | apply below_alloc | apply pw_below_drewN | apply below_drew1) | exact HB.out)⟩
  · rw [if_neg c4] at H
    have c4b0 : (t102.toList == ([0, 1] : List UInt8)) = false := beq_eq_false_iff_ne.mpr c4
    have c4b1 : (t102.toList != ([0, 1] : List UInt8)) = true := bne_iff_ne.mpr c4
    obtain rfl := Option.some.inj H
    go_enter Try.func10, Try.ntmps10
    go_wp2_with (first | ((with_reducible refine gate_callee (f := 17) rfl ?_); refine goesL_ (some 4) rfl rfl Try.func17 (by kernel_rfl) rfl #[.int .i64 9] rfl (by (try simp only [List.map_toArray, List.map_cons, List.map_nil]); first | done | rfl | (simp only [List.length_drop, List.length_take]; rfl)) ?_; (with_reducible refine (Go.Proofs.Ytbneljnmhofjfaa.G.bits_New.calls 9 t101 _ A1.out).mono ?_); rintro e w14 ⟨rfl, hb⟩; refine ⟨_, rfl, ?_⟩; have n0_ := Aside0.mk (below_step (by repeat (first | (with_reducible first | exact HB.out | apply below_alloc | apply pw_below_drewN | apply below_drew1) | exact HB.out)) hb); clear HB; have HB := n0_; clear n0_; (try clear hb); (try clear hb2); (try clear hk); (try clear hi)) | ((with_reducible refine gate_callee (f := 15) rfl ?_); refine goesL_ (some 5) rfl rfl Try.func15 (by kernel_rfl) rfl #[.string t101, .int .i64 8, .bool true] rfl (by (try simp only [List.map_toArray, List.map_cons, List.map_nil]); first | done | rfl | (simp only [List.length_drop, List.length_take]; rfl)) ?_; (with_reducible refine (Go.Proofs.Ytbneljnmhofjfaa.G.bits_With.calls t101 8 true t102 _ A2.out).mono ?_); rintro e w15 ⟨rfl, hb⟩; refine ⟨_, rfl, ?_⟩; have n0_ := Aside0.mk (below_step (by repeat (first | (with_reducible first | exact HB.out | apply below_alloc | apply pw_below_drewN | apply below_drew1) | exact HB.out)) hb); clear HB; have HB := n0_; clear n0_; (try clear hb); (try clear hb2); (try clear hk); (try clear hi)) | ((with_reducible refine gate_callee (f := 11) rfl ?_); refine goesL_ (some 7) rfl rfl Try.func11 (by kernel_rfl) rfl #[.string (⟨#[3]⟩ : ByteArray), .int .i64 8] rfl (by (try simp only [List.map_toArray, List.map_cons, List.map_nil]); first | done | rfl | (simp only [List.length_drop, List.length_take]; rfl)) ?_; (with_reducible refine (Go.Proofs.Ytbneljnmhofjfaa.G.bits_First.calls (⟨#[3]⟩ : ByteArray) 8 t103 t104 _ A3.out).mono ?_); rintro e w' ⟨rfl, ⟨nd, rfl⟩⟩; refine ⟨_, rfl, ?_⟩))
    go_ret
    exact ⟨by first | rfl | (simp [errW_none, errW_some] <;> rfl) | (simp [*, errW_none, errW_some] <;> rfl), by repeat (first | (with_reducible first | exact HB.out | apply below_alloc | apply pw_below_drewN | apply below_drew1) | exact HB.out)⟩

-- NOT PRINTED: function 28 (bits_OnesCount8)

-- PROVED BY HAND: function 19 (bits_Count)

/-! ### bailiwicklaw08_BitsNew: function 6 -/
def bailiwicklaw08_BitsNew.j0 : Nat → Int → Int → Bool → Option (Bool)
  | 0, _, _, _ => none
  | k + 1, x0, x1, x5 => (Go.Proofs.Ytbneljnmhofjfaa.G.bits_New.f (Int.tmod x0 100001)).bind fun t107 => (if x5 = true then (if (wrap64 (8 * (t107.size : Int))) ≥ (Int.tmod x0 100001) then (if (wrap64 (8 * (t107.size : Int))) < (wrap64 ((Int.tmod x0 100001) + 8)) then ((Go.Proofs.Ytbneljnmhofjfaa.G.bits_Count.f t107).bind fun t108 => (if t108 = 0 then ((Go.Proofs.Ytbneljnmhofjfaa.P.bits_Has.f t107 x1).bind fun t109 => (if t109 = true then (some false) else ((Go.Proofs.Ytbneljnmhofjfaa.G.bits_New.f (wrap64 ((wrap64 (-(Int.tmod x0 100001))) - 1))).bind fun t110 => (some (t110.toList == ([] : List UInt8)))))) else (some false))) else (some false)) else (some false)) else (some false))
def bailiwicklaw08_BitsNew.f (k : Nat) (a0 : Int) (a1 : Int) : Option (Bool) := (bailiwicklaw08_examples.f).bind fun t106 => (if t106 = true then (if a0 < 0 then (bailiwicklaw08_BitsNew.j0 k (wrap64 (-(wrap64 (a0 + 1)))) a1 t106) else (bailiwicklaw08_BitsNew.j0 k a0 a1 t106)) else (some false))
theorem bailiwicklaw08_BitsNew.mono_l : ∀ k, (∀ y0 y1 y2, LeO (bailiwicklaw08_BitsNew.j0 k y0 y1 y2) (bailiwicklaw08_BitsNew.j0 (k + 1) y0 y1 y2))
  | 0 => fun _ _ _ r h => by simp [bailiwicklaw08_BitsNew.j0] at h
  | k + 1 => by
    have ih0 := bailiwicklaw08_BitsNew.mono_l k
    · intro y0 y1 y2
      unfold bailiwicklaw08_BitsNew.j0
      repeat' first
      | (with_reducible exact ih0 _ _ _)
      | (with_reducible exact LeO.refl _)
      | (with_reducible exact LeO.none _)
      | (with_reducible refine LeO.ite ?_ ?_)
      | (with_reducible refine LeO.bind ?_ (fun _ => ?_))
      | exact ih0 _ _ _
      | exact LeO.none _
      | refine LeO.ite ?_ ?_
      | refine LeO.bind ?_ (fun _ => ?_)
theorem bailiwicklaw08_BitsNew.mono : ∀ a0 a1 k, LeO (bailiwicklaw08_BitsNew.f k a0 a1) (bailiwicklaw08_BitsNew.f (k + 1) a0 a1) := by
  intro a0 a1 k
  have ih0 := bailiwicklaw08_BitsNew.mono_l k
  unfold bailiwicklaw08_BitsNew.f
  repeat' first
      | (with_reducible exact ih0 _ _ _)
      | (with_reducible exact LeO.refl _)
      | (with_reducible exact LeO.none _)
      | (with_reducible refine LeO.ite ?_ ?_)
      | (with_reducible refine LeO.bind ?_ (fun _ => ?_))
      | exact ih0 _ _ _
      | exact LeO.none _
      | refine LeO.ite ?_ ?_
      | refine LeO.bind ?_ (fun _ => ?_)
set_option maxHeartbeats 8000000 in
set_option maxRecDepth 100000 in
theorem bailiwicklaw08_BitsNew.calls (k : Nat) (a0 : Int) (a1 : Int) (r : Bool) (w : World) (h : bailiwicklaw08_BitsNew.f k a0 a1 = some r) :
    Calls Try.prog 6 #[.int .i64 a0, .int .i64 a1] w fun e w' => e = .returned (.bool r) ∧ Below w.heap.size w w' := by
  have HB := Aside0.mk (Below.refl w.heap.size w)
  have H : ((bailiwicklaw08_examples.f).bind fun t106 => (if t106 = true then (if a0 < 0 then (bailiwicklaw08_BitsNew.j0 k (wrap64 (-(wrap64 (a0 + 1)))) a1 t106) else (bailiwicklaw08_BitsNew.j0 k a0 a1 t106)) else (some false))) = some r := h
  clear h
  replace H := Option.bind_eq_some_iff.mp H
  obtain ⟨t106, A30, H⟩ := H
  replace H : (if t106 = true then (if a0 < 0 then (bailiwicklaw08_BitsNew.j0 k (wrap64 (-(wrap64 (a0 + 1)))) a1 t106) else (bailiwicklaw08_BitsNew.j0 k a0 a1 t106)) else (some false)) = some r := H
  have A3 := Aside0.mk A30
  clear A30
  by_cases c4 : t106 = true
  · subst c4
    have H1 : (if a0 < 0 then (bailiwicklaw08_BitsNew.j0 k (wrap64 (-(wrap64 (a0 + 1)))) a1 true) else (bailiwicklaw08_BitsNew.j0 k a0 a1 true)) = some r := by first | (rw [if_pos rfl] at H; exact H) | (rw [if_pos trivial] at H; exact H)
    clear H
    have H := H1
    clear H1
    have HC5 := Aside0.mk H
    clear H
    go_enter Try.func6, Try.ntmps6
    go_upto_if 11 with (first | ((with_reducible refine gate_callee (f := 10) rfl ?_); refine goesL_ (some 7) rfl rfl Try.func10 (by kernel_rfl) rfl #[] rfl (by (try simp only [List.map_toArray, List.map_cons, List.map_nil]); first | done | rfl | (simp only [List.length_drop, List.length_take]; rfl)) ?_; (with_reducible refine (bailiwicklaw08_examples.calls  true _ A3.out).mono ?_); rintro e w6 ⟨rfl, hb⟩; refine ⟨_, rfl, ?_⟩; have n0_ := Aside0.mk (below_step (by repeat (first | (with_reducible first | exact HB.out | apply below_alloc | apply pw_below_drewN | apply below_drew1) | exact HB.out)) hb); clear HB; have HB := n0_; clear n0_; (try clear hb); (try clear hb2); (try clear hk); (try clear hi)))
    (try simp only [Act.put, List.setIfInBounds_toArray, List.set_cons_zero, List.set_cons_succ])
    go_cut [0] (fun v0 wc => ∃ (kq : Nat) (x0_4 : Int), v0 = .int .i64 x0_4 ∧ Aside0 (bailiwicklaw08_BitsNew.j0 kq x0_4 a1 true = some r) ∧ Aside0 (kq ≤ k) ∧ Aside0 (Below w.heap.size w wc))
    case first =>
      have H := HC5.out
      clear HC5
      by_cases c7 : a0 < 0
      · rw [if_pos c7] at H
        have c7b0 : decide (a0 < 0) = true := decide_eq_true c7
        clear c7
        (first | rw [c7b0] | (simp only [i64_w, i32_w]; rw [c7b0]) | skip)
        have H' := Aside0.mk H
        clear H
        go_wp2
        go_meet
        case rel => exact ⟨_, (wrap64 (-(wrap64 (a0 + 1)))), (by first | rfl | (simp; done) | (simp [*]; done)), H', ⟨by first | omega | exact Nat.le_refl _⟩, ⟨by repeat (first | (with_reducible first | exact HB.out | apply below_alloc | apply pw_below_drewN | apply below_drew1) | exact HB.out)⟩⟩
      · rw [if_neg c7] at H
        have c7b0 : decide (a0 < 0) = false := decide_eq_false c7
        clear c7
        (first | rw [c7b0] | (simp only [i64_w, i32_w]; rw [c7b0]) | skip)
        have H' := Aside0.mk H
        clear H
        go_wp2
        go_meet
        case rel => exact ⟨_, (a0), (by first | rfl | (simp; done) | (simp [*]; done)), H', ⟨by first | omega | exact Nat.le_refl _⟩, ⟨by repeat (first | (with_reducible first | exact HB.out | apply below_alloc | apply pw_below_drewN | apply below_drew1) | exact HB.out)⟩⟩
    case rest =>
      clear HC5
      try clear c1
      try clear p2
      try clear c4
      try clear c6
      try clear p6
      try clear c7
      try clear c7b0
      obtain ⟨kq, x0_4, rfl, HA, HJ4, HB⟩ := hcut
      cases kq with
      | zero => exact absurd HA.out (by simp [bailiwicklaw08_BitsNew.j0])
      | succ kj4 =>
        have H := HA.out
        clear HA
        simp only [bailiwicklaw08_BitsNew.j0] at H
        replace H := Option.bind_eq_some_iff.mp H
        obtain ⟨t107, A80, H⟩ := H
        replace H : (if true = true then (if (wrap64 (8 * (t107.size : Int))) ≥ (Int.tmod x0_4 100001) then (if (wrap64 (8 * (t107.size : Int))) < (wrap64 ((Int.tmod x0_4 100001) + 8)) then ((Go.Proofs.Ytbneljnmhofjfaa.G.bits_Count.f t107).bind fun t108 => (if t108 = 0 then ((Go.Proofs.Ytbneljnmhofjfaa.P.bits_Has.f t107 a1).bind fun t109 => (if t109 = true then (some false) else ((Go.Proofs.Ytbneljnmhofjfaa.G.bits_New.f (wrap64 ((wrap64 (-(Int.tmod x0_4 100001))) - 1))).bind fun t110 => (some (t110.toList == ([] : List UInt8)))))) else (some false))) else (some false)) else (some false)) else (some false)) = some r := H
        have A8 := Aside0.mk A80
        clear A80
        by_cases c9 : true = true
        · clear c9
          have H1 : (if (wrap64 (8 * (t107.size : Int))) ≥ (Int.tmod x0_4 100001) then (if (wrap64 (8 * (t107.size : Int))) < (wrap64 ((Int.tmod x0_4 100001) + 8)) then ((Go.Proofs.Ytbneljnmhofjfaa.G.bits_Count.f t107).bind fun t108 => (if t108 = 0 then ((Go.Proofs.Ytbneljnmhofjfaa.P.bits_Has.f t107 a1).bind fun t109 => (if t109 = true then (some false) else ((Go.Proofs.Ytbneljnmhofjfaa.G.bits_New.f (wrap64 ((wrap64 (-(Int.tmod x0_4 100001))) - 1))).bind fun t110 => (some (t110.toList == ([] : List UInt8)))))) else (some false))) else (some false)) else (some false)) = some r := by first | (rw [if_pos rfl] at H; exact H) | (rw [if_pos trivial] at H; exact H)
          clear H
          have H := H1
          clear H1
          by_cases c10 : (wrap64 (8 * (t107.size : Int))) ≥ (Int.tmod x0_4 100001)
          · rw [if_pos c10] at H
            have c10b0 : decide ((Int.tmod x0_4 100001) ≤ (wrap64 (8 * (t107.size : Int)))) = true := decide_eq_true c10
            clear c10
            by_cases c11 : (wrap64 (8 * (t107.size : Int))) < (wrap64 ((Int.tmod x0_4 100001) + 8))
            · rw [if_pos c11] at H
              have c11b0 : decide ((wrap64 (8 * (t107.size : Int))) < (wrap64 ((Int.tmod x0_4 100001) + 8))) = true := decide_eq_true c11
              clear c11
              replace H := Option.bind_eq_some_iff.mp H
              obtain ⟨t108, A120, H⟩ := H
              replace H : (if t108 = 0 then ((Go.Proofs.Ytbneljnmhofjfaa.P.bits_Has.f t107 a1).bind fun t109 => (if t109 = true then (some false) else ((Go.Proofs.Ytbneljnmhofjfaa.G.bits_New.f (wrap64 ((wrap64 (-(Int.tmod x0_4 100001))) - 1))).bind fun t110 => (some (t110.toList == ([] : List UInt8)))))) else (some false)) = some r := H
              have A12 := Aside0.mk A120
              clear A120
              by_cases c13 : t108 = 0
              · rw [if_pos c13] at H
                have c13b0 : (t108 == 0) = true := beq_iff_eq.mpr c13
                have c13b1 : (t108 != 0) = false := bne_eq_false_iff_eq.mpr c13
                clear c13
                replace H := Option.bind_eq_some_iff.mp H
                obtain ⟨t109, A140, H⟩ := H
                replace H : (if t109 = true then (some false) else ((Go.Proofs.Ytbneljnmhofjfaa.G.bits_New.f (wrap64 ((wrap64 (-(Int.tmod x0_4 100001))) - 1))).bind fun t110 => (some (t110.toList == ([] : List UInt8))))) = some r := H
                have A14 := Aside0.mk A140
                clear A140
                by_cases c15 : t109 = true
                · subst c15
                  have H1 : (some false) = some r := by first | (rw [if_pos rfl] at H; exact H) | (rw [if_pos trivial] at H; exact H)
                  clear H
                  have H := H1
                  clear H1
                  obtain rfl := Option.some.inj H
                  go_wp2_with (first | ((with_reducible refine gate_callee (f := 17) rfl ?_); refine goesL_ (some 18) rfl rfl Try.func17 (by kernel_rfl) rfl #[.int .i64 (Int.tmod x0_4 100001)] rfl (by (try simp only [List.map_toArray, List.map_cons, List.map_nil]); first | done | rfl | (simp only [List.length_drop, List.length_take]; rfl)) ?_; (with_reducible refine (Go.Proofs.Ytbneljnmhofjfaa.G.bits_New.calls (Int.tmod x0_4 100001) t107 _ A8.out).mono ?_); rintro e w16 ⟨rfl, hb⟩; refine ⟨_, rfl, ?_⟩; have n0_ := Aside0.mk (below_step (by repeat (first | (with_reducible first | exact HB.out | apply below_alloc | apply pw_below_drewN | apply below_drew1) | exact HB.out)) hb); clear HB; have HB := n0_; clear n0_; (try clear hb); (try clear hb2); (try clear hk); (try clear hi)) | (go_at_call 19; (with_reducible refine (Go.Proofs.Ytbneljnmhofjfaa.G.bits_Count.calls t107 t108 _ A12.out).mono ?_); rintro e w' ⟨rfl, ⟨nd, rfl⟩⟩) | (go_at_call 13; (with_reducible refine (Go.Proofs.Ytbneljnmhofjfaa.P.bits_Has.calls t107 a1 true _ A14.out).mono ?_); rintro e w' ⟨rfl, ⟨nd, rfl⟩⟩))
                  go_ret
                  exact ⟨by first | rfl | (simp [errW_none, errW_some] <;> rfl) | (simp [*, errW_none, errW_some] <;> rfl), by repeat (first | (with_reducible first | exact HB.out | apply below_alloc | apply pw_below_drewN | apply below_drew1) | exact HB.out)⟩
                · replace c15 := Bool.eq_false_iff.mpr c15
                  subst c15
                  have H1 : ((Go.Proofs.Ytbneljnmhofjfaa.G.bits_New.f (wrap64 ((wrap64 (-(Int.tmod x0_4 100001))) - 1))).bind fun t110 => (some (t110.toList == ([] : List UInt8)))) = some r := by rw [if_neg (show ¬ (false = true) by decide)] at H; exact H
                  clear H
                  have H := H1
                  clear H1
                  replace H := Option.bind_eq_some_iff.mp H
                  obtain ⟨t110, A170, H⟩ := H
                  replace H : (some (t110.toList == ([] : List UInt8))) = some r := H
                  have A17 := Aside0.mk A170
                  clear A170
                  obtain rfl := Option.some.inj H
                  go_wp2_with (first | ((with_reducible refine gate_callee (f := 17) rfl ?_); refine goesL_ (some 18) rfl rfl Try.func17 (by kernel_rfl) rfl #[.int .i64 (Int.tmod x0_4 100001)] rfl (by (try simp only [List.map_toArray, List.map_cons, List.map_nil]); first | done | rfl | (simp only [List.length_drop, List.length_take]; rfl)) ?_; (with_reducible refine (Go.Proofs.Ytbneljnmhofjfaa.G.bits_New.calls (Int.tmod x0_4 100001) t107 _ A8.out).mono ?_); rintro e w18 ⟨rfl, hb⟩; refine ⟨_, rfl, ?_⟩; have n0_ := Aside0.mk (below_step (by repeat (first | (with_reducible first | exact HB.out | apply below_alloc | apply pw_below_drewN | apply below_drew1) | exact HB.out)) hb); clear HB; have HB := n0_; clear n0_; (try clear hb); (try clear hb2); (try clear hk); (try clear hi)) | (go_at_call 19; (with_reducible refine (Go.Proofs.Ytbneljnmhofjfaa.G.bits_Count.calls t107 t108 _ A12.out).mono ?_); rintro e w' ⟨rfl, ⟨nd, rfl⟩⟩) | (go_at_call 13; (with_reducible refine (Go.Proofs.Ytbneljnmhofjfaa.P.bits_Has.calls t107 a1 false _ A14.out).mono ?_); rintro e w' ⟨rfl, ⟨nd, rfl⟩⟩) | (go_at_call 17; (with_reducible refine (Go.Proofs.Ytbneljnmhofjfaa.G.bits_New.calls (wrap64 ((wrap64 (-(Int.tmod x0_4 100001))) - 1)) t110 _ A17.out).mono ?_); rintro e w19 ⟨rfl, hb⟩; have n0_ := Aside0.mk (below_step (by repeat (first | (with_reducible first | exact HB.out | apply below_alloc | apply pw_below_drewN | apply below_drew1) | exact HB.out)) hb); clear HB; have HB := n0_; clear n0_; (try clear hb); (try clear hb2); (try clear hk); (try clear hi)))
                  go_ret
                  exact ⟨by first | rfl | (simp [errW_none, errW_some] <;> rfl) | (simp [*, errW_none, errW_some] <;> rfl), by repeat (first | (with_reducible first | exact HB.out | apply below_alloc | apply pw_below_drewN | apply below_drew1) | exact HB.out)⟩
              · rw [if_neg c13] at H
                have c13b0 : (t108 == 0) = false := beq_eq_false_iff_ne.mpr c13
                have c13b1 : (t108 != 0) = true := bne_iff_ne.mpr c13
                obtain rfl := Option.some.inj H
                go_wp2_with (first | ((with_reducible refine gate_callee (f := 17) rfl ?_); refine goesL_ (some 18) rfl rfl Try.func17 (by kernel_rfl) rfl #[.int .i64 (Int.tmod x0_4 100001)] rfl (by (try simp only [List.map_toArray, List.map_cons, List.map_nil]); first | done | rfl | (simp only [List.length_drop, List.length_take]; rfl)) ?_; (with_reducible refine (Go.Proofs.Ytbneljnmhofjfaa.G.bits_New.calls (Int.tmod x0_4 100001) t107 _ A8.out).mono ?_); rintro e w20 ⟨rfl, hb⟩; refine ⟨_, rfl, ?_⟩; have n0_ := Aside0.mk (below_step (by repeat (first | (with_reducible first | exact HB.out | apply below_alloc | apply pw_below_drewN | apply below_drew1) | exact HB.out)) hb); clear HB; have HB := n0_; clear n0_; (try clear hb); (try clear hb2); (try clear hk); (try clear hi)) | (go_at_call 19; (with_reducible refine (Go.Proofs.Ytbneljnmhofjfaa.G.bits_Count.calls t107 t108 _ A12.out).mono ?_); rintro e w' ⟨rfl, ⟨nd, rfl⟩⟩))
                go_ret
                exact ⟨by first | rfl | (simp [errW_none, errW_some] <;> rfl) | (simp [*, errW_none, errW_some] <;> rfl), by repeat (first | (with_reducible first | exact HB.out | apply below_alloc | apply pw_below_drewN | apply below_drew1) | exact HB.out)⟩
            · rw [if_neg c11] at H
              have c11b0 : decide ((wrap64 (8 * (t107.size : Int))) < (wrap64 ((Int.tmod x0_4 100001) + 8))) = false := decide_eq_false c11
              clear c11
              obtain rfl := Option.some.inj H
              go_wp2_with (first | ((with_reducible refine gate_callee (f := 17) rfl ?_); refine goesL_ (some 18) rfl rfl Try.func17 (by kernel_rfl) rfl #[.int .i64 (Int.tmod x0_4 100001)] rfl (by (try simp only [List.map_toArray, List.map_cons, List.map_nil]); first | done | rfl | (simp only [List.length_drop, List.length_take]; rfl)) ?_; (with_reducible refine (Go.Proofs.Ytbneljnmhofjfaa.G.bits_New.calls (Int.tmod x0_4 100001) t107 _ A8.out).mono ?_); rintro e w21 ⟨rfl, hb⟩; refine ⟨_, rfl, ?_⟩; have n0_ := Aside0.mk (below_step (by repeat (first | (with_reducible first | exact HB.out | apply below_alloc | apply pw_below_drewN | apply below_drew1) | exact HB.out)) hb); clear HB; have HB := n0_; clear n0_; (try clear hb); (try clear hb2); (try clear hk); (try clear hi)))
              go_ret
              exact ⟨by first | rfl | (simp [errW_none, errW_some] <;> rfl) | (simp [*, errW_none, errW_some] <;> rfl), by repeat (first | (with_reducible first | exact HB.out | apply below_alloc | apply pw_below_drewN | apply below_drew1) | exact HB.out)⟩
          · rw [if_neg c10] at H
            have c10b0 : decide ((Int.tmod x0_4 100001) ≤ (wrap64 (8 * (t107.size : Int)))) = false := decide_eq_false c10
            clear c10
            obtain rfl := Option.some.inj H
            go_wp2_with (first | ((with_reducible refine gate_callee (f := 17) rfl ?_); refine goesL_ (some 18) rfl rfl Try.func17 (by kernel_rfl) rfl #[.int .i64 (Int.tmod x0_4 100001)] rfl (by (try simp only [List.map_toArray, List.map_cons, List.map_nil]); first | done | rfl | (simp only [List.length_drop, List.length_take]; rfl)) ?_; (with_reducible refine (Go.Proofs.Ytbneljnmhofjfaa.G.bits_New.calls (Int.tmod x0_4 100001) t107 _ A8.out).mono ?_); rintro e w22 ⟨rfl, hb⟩; refine ⟨_, rfl, ?_⟩; have n0_ := Aside0.mk (below_step (by repeat (first | (with_reducible first | exact HB.out | apply below_alloc | apply pw_below_drewN | apply below_drew1) | exact HB.out)) hb); clear HB; have HB := n0_; clear n0_; (try clear hb); (try clear hb2); (try clear hk); (try clear hi)))
            go_ret
            exact ⟨by first | rfl | (simp [errW_none, errW_some] <;> rfl) | (simp [*, errW_none, errW_some] <;> rfl), by repeat (first | (with_reducible first | exact HB.out | apply below_alloc | apply pw_below_drewN | apply below_drew1) | exact HB.out)⟩
        · exact absurd rfl c9
  · replace c4 := Bool.eq_false_iff.mpr c4
    subst c4
    have H1 : (some false) = some r := by rw [if_neg (show ¬ (false = true) by decide)] at H; exact H
    clear H
    have H := H1
    clear H1
    obtain rfl := Option.some.inj H
    go_enter Try.func6, Try.ntmps6
    go_wp2_with (first | ((with_reducible refine gate_callee (f := 10) rfl ?_); refine goesL_ (some 7) rfl rfl Try.func10 (by kernel_rfl) rfl #[] rfl (by (try simp only [List.map_toArray, List.map_cons, List.map_nil]); first | done | rfl | (simp only [List.length_drop, List.length_take]; rfl)) ?_; (with_reducible refine (bailiwicklaw08_examples.calls  false _ A3.out).mono ?_); rintro e w24 ⟨rfl, hb⟩; refine ⟨_, rfl, ?_⟩; have n0_ := Aside0.mk (below_step (by repeat (first | (with_reducible first | exact HB.out | apply below_alloc | apply pw_below_drewN | apply below_drew1) | exact HB.out)) hb); clear HB; have HB := n0_; clear n0_; (try clear hb); (try clear hb2); (try clear hk); (try clear hi)))
    go_ret
    exact ⟨by first | rfl | (simp [errW_none, errW_some] <;> rfl) | (simp [*, errW_none, errW_some] <;> rfl), by repeat (first | (with_reducible first | exact HB.out | apply below_alloc | apply pw_below_drewN | apply below_drew1) | exact HB.out)⟩

/-- THE ONE PURE STATEMENT of bailiwicklaw08_BitsNew: yours. -/
def bailiwicklaw08_BitsNew.Pure : Prop := ∀ (a0 : Int) (a1 : Int), (Lit.int .i64 a0).wf = true → (Lit.int .i64 a1).wf = true → ∃ k, bailiwicklaw08_BitsNew.f k a0 a1 = some true
theorem bailiwicklaw08_BitsNew.walk (P : bailiwicklaw08_BitsNew.Pure) (a0 : Int) (a1 : Int) (w : World) (w0 : (Lit.int .i64 a0).wf = true) (w1 : (Lit.int .i64 a1).wf = true) :
    Calls Try.prog 6 #[.int .i64 a0, .int .i64 a1] w fun e w' => e = .returned (.bool true) ∧ Below w.heap.size w w' := by
  obtain ⟨k, h⟩ := P a0 a1 w0 w1
  refine (bailiwicklaw08_BitsNew.calls k a0 a1 true w h).mono ?_
  rintro e w' ⟨rfl, hd⟩
  exact ⟨rfl, hd⟩

end Go.Proofs.Ytbneljnmhofjfaa.N
