-- Written by a program of this session (gp.py), which drives the print with some lines turned. Not trusted: Lean checks it.
import Derived.Test.YtipfiodeakapdaaDoorTx0
namespace Go.Proofs.YtipfiodeakapdaaDoor.T
open Go.RowKit Go.Proofs.YtipfiodeakapdaaDoorW.PrintWords Go.Proofs.YtipfiodeakapdaaDoorW.PrintLast Go.Proofs.YtipfiodeakapdaaDoorW.PrintMore
attribute [local go_sem] max2_int min2_int max_two min_two max_three min_three max_four min_four P.emod_u8 P.emod_u16 P.emod_u32
set_option linter.unusedVariables false
set_option linter.unusedSimpArgs false

-- PROVED BY HAND: function 13 (label_Runes)

-- PROVED BY HAND: function 25 (label_plain)

-- PROVED BY HAND: function 15 (label_Right)

-- NOT PRINTED: function 31 (abi_NoEscape)

-- NOT PRINTED: function 28 (strings_Builder_copyCheck)

-- NOT PRINTED: function 32 (utf8_appendRuneNonASCII)

-- NOT PRINTED: function 29 (utf8_AppendRune)

-- NOT PRINTED: function 22 (strings_Builder_WriteRune)

-- NOT PRINTED: function 23 (strings_Builder_String)

-- PROVED BY HAND: function 11 (label_Fold)

-- NOT PRINTED: function 36 (utf8_RuneCountInString)

-- NOT PRINTED: function 40 (utf8_decodeRuneInStringSlow)

-- NOT PRINTED: function 37 (utf8_DecodeRuneInString)

-- NOT PRINTED: function 33 (strings_explode)

-- NOT PRINTED: function 45 (bytealg_IndexByteString)

-- NOT PRINTED: function 41 (stringslite_IndexByte)

-- NOT PRINTED: function 42 (bytealg_IndexString)

-- NOT PRINTED: function 43 (bytealg_Cutover)

-- NOT PRINTED: function 46 (bytealg_hashStr_string)

-- NOT PRINTED: function 44 (bytealg_IndexRabinKarp_string)

-- NOT PRINTED: function 39 (stringslite_Index)

-- NOT PRINTED: function 35 (strings_Index)

-- NOT PRINTED: function 38 (bytealg_CountString)

-- NOT PRINTED: function 34 (strings_Count)

-- NOT PRINTED: function 30 (strings_genSplit)

-- NOT PRINTED: function 27 (strings_Split)

-- PROVED BY HAND: function 18 (label_Parts)

-- PROVED BY HAND: function 20 (label_Match)

-- PROVED BY HAND: function 10 (bailiwicklaw02_examples)

-- PROVED BY HAND: function 24 (bailiwickref02_runes)

-- PROVED BY HAND: function 26 (bailiwickref02_letter)

-- PROVED BY HAND: function 16 (bailiwickref02_Right)

-- PROVED BY HAND: function 12 (bailiwickref02_Fold)

-- PROVED BY HAND: function 14 (bailiwickref02_Runes)

/-! ### bailiwicklaw02_LabelTells: function 3 -/
def bailiwicklaw02_LabelTells.f (k : Nat) (a0 : ByteArray) : Option (Bool) := (Go.Proofs.YtipfiodeakapdaaDoor.O.bailiwicklaw02_examples.f k).bind fun t101 => (if t101 = true then ((Go.Proofs.YtipfiodeakapdaaDoor.R.Fold.f a0).bind fun bt102 => ((Go.Proofs.YtipfiodeakapdaaDoor.R.RFold.f a0).bind fun bt104 => ((Go.Proofs.YtipfiodeakapdaaDoor.R.Runes.f a0).bind fun t106 => ((Go.Proofs.YtipfiodeakapdaaDoor.O.bailiwickref02_Runes.f a0).bind fun t107 => (if t106 = t107 then ((Go.Proofs.YtipfiodeakapdaaDoor.R.Right.f a0).bind fun t108 => ((Go.Proofs.YtipfiodeakapdaaDoor.O.bailiwickref02_Right.f k a0).bind fun t109 => (if (t108 == t109) = true then (if bt102.1.toList = bt104.1.toList then (some (bt102.2 == bt104.2)) else (some false)) else (some false)))) else (some false)))))) else (some false))
theorem bailiwicklaw02_LabelTells.mono : ∀ a0 k, LeO (bailiwicklaw02_LabelTells.f k a0) (bailiwicklaw02_LabelTells.f (k + 1) a0) := by
  intro a0 k
  unfold bailiwicklaw02_LabelTells.f
  repeat' first
      | (with_reducible exact Go.Proofs.YtipfiodeakapdaaDoor.O.bailiwicklaw02_examples.mono _)
      | (with_reducible exact Go.Proofs.YtipfiodeakapdaaDoor.O.bailiwickref02_Right.mono _ _)
      | (with_reducible exact LeO.refl _)
      | (with_reducible exact LeO.none _)
      | (with_reducible refine LeO.ite ?_ ?_)
      | (with_reducible refine LeO.bind ?_ (fun _ => ?_))
      | exact Go.Proofs.YtipfiodeakapdaaDoor.O.bailiwicklaw02_examples.mono _
      | exact Go.Proofs.YtipfiodeakapdaaDoor.O.bailiwickref02_Right.mono _ _
      | exact LeO.none _
      | refine LeO.ite ?_ ?_
      | refine LeO.bind ?_ (fun _ => ?_)
set_option maxHeartbeats 8000000 in
set_option maxRecDepth 100000 in
theorem bailiwicklaw02_LabelTells.calls (k : Nat) (a0 : ByteArray) (r : Bool) (w : World) (h : bailiwicklaw02_LabelTells.f k a0 = some r) :
    Calls Tryd.prog 3 #[.string a0] w fun e w' => e = .returned (.bool r) ∧ Below w.heap.size w w' := by
  have HB := Aside0.mk (Below.refl w.heap.size w)
  have H : ((Go.Proofs.YtipfiodeakapdaaDoor.O.bailiwicklaw02_examples.f k).bind fun t101 => (if t101 = true then ((Go.Proofs.YtipfiodeakapdaaDoor.R.Fold.f a0).bind fun bt102 => ((Go.Proofs.YtipfiodeakapdaaDoor.R.RFold.f a0).bind fun bt104 => ((Go.Proofs.YtipfiodeakapdaaDoor.R.Runes.f a0).bind fun t106 => ((Go.Proofs.YtipfiodeakapdaaDoor.O.bailiwickref02_Runes.f a0).bind fun t107 => (if t106 = t107 then ((Go.Proofs.YtipfiodeakapdaaDoor.R.Right.f a0).bind fun t108 => ((Go.Proofs.YtipfiodeakapdaaDoor.O.bailiwickref02_Right.f k a0).bind fun t109 => (if (t108 == t109) = true then (if bt102.1.toList = bt104.1.toList then (some (bt102.2 == bt104.2)) else (some false)) else (some false)))) else (some false)))))) else (some false))) = some r := h
  clear h
  replace H := Option.bind_eq_some_iff.mp H
  obtain ⟨t101, A20, H⟩ := H
  replace H : (if t101 = true then ((Go.Proofs.YtipfiodeakapdaaDoor.R.Fold.f a0).bind fun bt102 => ((Go.Proofs.YtipfiodeakapdaaDoor.R.RFold.f a0).bind fun bt104 => ((Go.Proofs.YtipfiodeakapdaaDoor.R.Runes.f a0).bind fun t106 => ((Go.Proofs.YtipfiodeakapdaaDoor.O.bailiwickref02_Runes.f a0).bind fun t107 => (if t106 = t107 then ((Go.Proofs.YtipfiodeakapdaaDoor.R.Right.f a0).bind fun t108 => ((Go.Proofs.YtipfiodeakapdaaDoor.O.bailiwickref02_Right.f k a0).bind fun t109 => (if (t108 == t109) = true then (if bt102.1.toList = bt104.1.toList then (some (bt102.2 == bt104.2)) else (some false)) else (some false)))) else (some false)))))) else (some false)) = some r := H
  have A2 := Aside0.mk A20
  clear A20
  by_cases c3 : t101 = true
  · subst c3
    have H1 : ((Go.Proofs.YtipfiodeakapdaaDoor.R.Fold.f a0).bind fun bt102 => ((Go.Proofs.YtipfiodeakapdaaDoor.R.RFold.f a0).bind fun bt104 => ((Go.Proofs.YtipfiodeakapdaaDoor.R.Runes.f a0).bind fun t106 => ((Go.Proofs.YtipfiodeakapdaaDoor.O.bailiwickref02_Runes.f a0).bind fun t107 => (if t106 = t107 then ((Go.Proofs.YtipfiodeakapdaaDoor.R.Right.f a0).bind fun t108 => ((Go.Proofs.YtipfiodeakapdaaDoor.O.bailiwickref02_Right.f k a0).bind fun t109 => (if (t108 == t109) = true then (if bt102.1.toList = bt104.1.toList then (some (bt102.2 == bt104.2)) else (some false)) else (some false)))) else (some false)))))) = some r := by rw [if_pos rfl] at H; exact H
    clear H
    have H := H1
    clear H1
    replace H := Option.bind_eq_some_iff.mp H
    obtain ⟨⟨t102, t103⟩, A40, H⟩ := H
    replace H : ((Go.Proofs.YtipfiodeakapdaaDoor.R.RFold.f a0).bind fun bt104 => ((Go.Proofs.YtipfiodeakapdaaDoor.R.Runes.f a0).bind fun t106 => ((Go.Proofs.YtipfiodeakapdaaDoor.O.bailiwickref02_Runes.f a0).bind fun t107 => (if t106 = t107 then ((Go.Proofs.YtipfiodeakapdaaDoor.R.Right.f a0).bind fun t108 => ((Go.Proofs.YtipfiodeakapdaaDoor.O.bailiwickref02_Right.f k a0).bind fun t109 => (if (t108 == t109) = true then (if t102.toList = bt104.1.toList then (some (t103 == bt104.2)) else (some false)) else (some false)))) else (some false))))) = some r := H
    have A4 := Aside0.mk A40
    clear A40
    replace H := Option.bind_eq_some_iff.mp H
    obtain ⟨⟨t104, t105⟩, A50, H⟩ := H
    replace H : ((Go.Proofs.YtipfiodeakapdaaDoor.R.Runes.f a0).bind fun t106 => ((Go.Proofs.YtipfiodeakapdaaDoor.O.bailiwickref02_Runes.f a0).bind fun t107 => (if t106 = t107 then ((Go.Proofs.YtipfiodeakapdaaDoor.R.Right.f a0).bind fun t108 => ((Go.Proofs.YtipfiodeakapdaaDoor.O.bailiwickref02_Right.f k a0).bind fun t109 => (if (t108 == t109) = true then (if t102.toList = t104.toList then (some (t103 == t105)) else (some false)) else (some false)))) else (some false)))) = some r := H
    have A5 := Aside0.mk A50
    clear A50
    replace H := Option.bind_eq_some_iff.mp H
    obtain ⟨t106, A60, H⟩ := H
    replace H : ((Go.Proofs.YtipfiodeakapdaaDoor.O.bailiwickref02_Runes.f a0).bind fun t107 => (if t106 = t107 then ((Go.Proofs.YtipfiodeakapdaaDoor.R.Right.f a0).bind fun t108 => ((Go.Proofs.YtipfiodeakapdaaDoor.O.bailiwickref02_Right.f k a0).bind fun t109 => (if (t108 == t109) = true then (if t102.toList = t104.toList then (some (t103 == t105)) else (some false)) else (some false)))) else (some false))) = some r := H
    have A6 := Aside0.mk A60
    clear A60
    replace H := Option.bind_eq_some_iff.mp H
    obtain ⟨t107, A70, H⟩ := H
    replace H : (if t106 = t107 then ((Go.Proofs.YtipfiodeakapdaaDoor.R.Right.f a0).bind fun t108 => ((Go.Proofs.YtipfiodeakapdaaDoor.O.bailiwickref02_Right.f k a0).bind fun t109 => (if (t108 == t109) = true then (if t102.toList = t104.toList then (some (t103 == t105)) else (some false)) else (some false)))) else (some false)) = some r := H
    have A7 := Aside0.mk A70
    clear A70
    by_cases c8 : t106 = t107
    · rw [if_pos c8] at H
      have c8b0 : (t106 == t107) = true := beq_iff_eq.mpr c8
      have c8b1 : (t106 != t107) = false := bne_eq_false_iff_eq.mpr c8
      clear c8
      replace H := Option.bind_eq_some_iff.mp H
      obtain ⟨t108, A90, H⟩ := H
      replace H : ((Go.Proofs.YtipfiodeakapdaaDoor.O.bailiwickref02_Right.f k a0).bind fun t109 => (if (t108 == t109) = true then (if t102.toList = t104.toList then (some (t103 == t105)) else (some false)) else (some false))) = some r := H
      have A9 := Aside0.mk A90
      clear A90
      replace H := Option.bind_eq_some_iff.mp H
      obtain ⟨t109, A100, H⟩ := H
      replace H : (if (t108 == t109) = true then (if t102.toList = t104.toList then (some (t103 == t105)) else (some false)) else (some false)) = some r := H
      have A10 := Aside0.mk A100
      clear A100
      by_cases c11 : (t108 == t109) = true
      · rw [if_pos c11] at H
        have c11b0 : (t108 == t109) = true := c11
        (try (have c11b1 : decide (t108 = t109) = true := by simpa using c11))
        (try (have c11b2 : (t108 == t109) = true := by simpa using c11))
        clear c11
        by_cases c12 : t102.toList = t104.toList
        · rw [if_pos c12] at H
          have c12b0 : (t102.toList == t104.toList) = true := beq_iff_eq.mpr c12
          have c12b1 : (t102.toList != t104.toList) = false := bne_eq_false_iff_eq.mpr c12
          clear c12
          obtain rfl := Option.some.inj H
          go_enter Tryd.func3, Tryd.ntmps3
          (try dsimp only [List.append])
          go_wp2_with (first | ((with_reducible refine gate_callee (f := 10) rfl ?_); refine goesL_ (some 8) rfl rfl Tryd.func10 (by kernel_rfl) rfl #[] rfl (by (try simp only [List.map_toArray, List.map_cons, List.map_nil]); first | done | rfl | (simp only [List.length_drop, List.length_take]; rfl)) ?_; (with_reducible refine (Go.Proofs.YtipfiodeakapdaaDoor.O.bailiwicklaw02_examples.calls k  true _ A2.out).mono ?_); rintro e w13 ⟨rfl, hb⟩; refine ⟨_, rfl, ?_⟩; have n0_ := Aside0.mk (below_step (by repeat (first | (with_reducible first | exact HB.out | apply below_alloc | apply pw_below_drewN | apply below_drew1) | exact HB.out)) hb); clear HB; have HB := n0_; clear n0_; (try clear hb); (try clear hb2); (try clear hk); (try clear hi)) | ((with_reducible refine gate_callee (f := 11) rfl ?_); refine goesL_ (some 13) rfl rfl Tryd.func11 (by kernel_rfl) rfl #[.string a0] rfl (by (try simp only [List.map_toArray, List.map_cons, List.map_nil]); first | done | rfl | (simp only [List.length_drop, List.length_take]; rfl)) ?_; (with_reducible refine (Go.Proofs.YtipfiodeakapdaaDoor.R.Fold.calls a0 t102 t103 _ A4.out).mono ?_); rintro e w14 ⟨rfl, hb⟩; refine ⟨_, rfl, ?_⟩; have n0_ := Aside0.mk (below_step (by repeat (first | (with_reducible first | exact HB.out | apply below_alloc | apply pw_below_drewN | apply below_drew1) | exact HB.out)) hb); clear HB; have HB := n0_; clear n0_; (try clear hb); (try clear hb2); (try clear hk); (try clear hi)) | ((with_reducible refine gate_callee (f := 12) rfl ?_); refine goesL_ (some 18) rfl rfl Tryd.func12 (by kernel_rfl) rfl #[.string a0] rfl (by (try simp only [List.map_toArray, List.map_cons, List.map_nil]); first | done | rfl | (simp only [List.length_drop, List.length_take]; rfl)) ?_; (with_reducible refine (Go.Proofs.YtipfiodeakapdaaDoor.R.RFold.calls a0 t104 t105 _ A5.out).mono ?_); rintro e w15 ⟨rfl, hb⟩; refine ⟨_, rfl, ?_⟩; have n0_ := Aside0.mk (below_step (by repeat (first | (with_reducible first | exact HB.out | apply below_alloc | apply pw_below_drewN | apply below_drew1) | exact HB.out)) hb); clear HB; have HB := n0_; clear n0_; (try clear hb); (try clear hb2); (try clear hk); (try clear hi)) | (go_at_call 13; (with_reducible refine (Go.Proofs.YtipfiodeakapdaaDoor.R.Runes.calls a0 t106 _ A6.out).mono ?_); rintro e w16 ⟨rfl, hb⟩; have n0_ := Aside0.mk (below_step (by repeat (first | (with_reducible first | exact HB.out | apply below_alloc | apply pw_below_drewN | apply below_drew1) | exact HB.out)) hb); clear HB; have HB := n0_; clear n0_; (try clear hb); (try clear hb2); (try clear hk); (try clear hi)) | (go_at_call 14; (with_reducible refine (Go.Proofs.YtipfiodeakapdaaDoor.O.bailiwickref02_Runes.calls a0 t107 _ A7.out).mono ?_); rintro e w17 ⟨rfl, hb⟩; have n0_ := Aside0.mk (below_step (by repeat (first | (with_reducible first | exact HB.out | apply below_alloc | apply pw_below_drewN | apply below_drew1) | exact HB.out)) hb); clear HB; have HB := n0_; clear n0_; (try clear hb); (try clear hb2); (try clear hk); (try clear hi)) | (go_at_call 15; (with_reducible refine (Go.Proofs.YtipfiodeakapdaaDoor.R.Right.calls a0 t108 _ A9.out).mono ?_); rintro e w18 ⟨rfl, hb⟩; have n0_ := Aside0.mk (below_step (by repeat (first | (with_reducible first | exact HB.out | apply below_alloc | apply pw_below_drewN | apply below_drew1) | exact HB.out)) hb); clear HB; have HB := n0_; clear n0_; (try clear hb); (try clear hb2); (try clear hk); (try clear hi)) | (go_at_call 16; (with_reducible refine (Go.Proofs.YtipfiodeakapdaaDoor.O.bailiwickref02_Right.calls k a0 t109 _ A10.out).mono ?_); rintro e w19 ⟨rfl, hb⟩; have n0_ := Aside0.mk (below_step (by repeat (first | (with_reducible first | exact HB.out | apply below_alloc | apply pw_below_drewN | apply below_drew1) | exact HB.out)) hb); clear HB; have HB := n0_; clear n0_; (try clear hb); (try clear hb2); (try clear hk); (try clear hi)))
          go_ret
          exact ⟨by first | rfl | (simp [errW_none, errW_some] <;> rfl) | (simp [*, errW_none, errW_some] <;> rfl), by repeat (first | (with_reducible first | exact HB.out | apply below_alloc | apply pw_below_drewN | apply below_drew1) | exact HB.out)⟩
        · rw [if_neg c12] at H
          have c12b0 : (t102.toList == t104.toList) = false := beq_eq_false_iff_ne.mpr c12
          have c12b1 : (t102.toList != t104.toList) = true := bne_iff_ne.mpr c12
          obtain rfl := Option.some.inj H
          go_enter Tryd.func3, Tryd.ntmps3
          (try dsimp only [List.append])
          go_wp2_with (first | ((with_reducible refine gate_callee (f := 10) rfl ?_); refine goesL_ (some 8) rfl rfl Tryd.func10 (by kernel_rfl) rfl #[] rfl (by (try simp only [List.map_toArray, List.map_cons, List.map_nil]); first | done | rfl | (simp only [List.length_drop, List.length_take]; rfl)) ?_; (with_reducible refine (Go.Proofs.YtipfiodeakapdaaDoor.O.bailiwicklaw02_examples.calls k  true _ A2.out).mono ?_); rintro e w20 ⟨rfl, hb⟩; refine ⟨_, rfl, ?_⟩; have n0_ := Aside0.mk (below_step (by repeat (first | (with_reducible first | exact HB.out | apply below_alloc | apply pw_below_drewN | apply below_drew1) | exact HB.out)) hb); clear HB; have HB := n0_; clear n0_; (try clear hb); (try clear hb2); (try clear hk); (try clear hi)) | ((with_reducible refine gate_callee (f := 11) rfl ?_); refine goesL_ (some 13) rfl rfl Tryd.func11 (by kernel_rfl) rfl #[.string a0] rfl (by (try simp only [List.map_toArray, List.map_cons, List.map_nil]); first | done | rfl | (simp only [List.length_drop, List.length_take]; rfl)) ?_; (with_reducible refine (Go.Proofs.YtipfiodeakapdaaDoor.R.Fold.calls a0 t102 t103 _ A4.out).mono ?_); rintro e w21 ⟨rfl, hb⟩; refine ⟨_, rfl, ?_⟩; have n0_ := Aside0.mk (below_step (by repeat (first | (with_reducible first | exact HB.out | apply below_alloc | apply pw_below_drewN | apply below_drew1) | exact HB.out)) hb); clear HB; have HB := n0_; clear n0_; (try clear hb); (try clear hb2); (try clear hk); (try clear hi)) | ((with_reducible refine gate_callee (f := 12) rfl ?_); refine goesL_ (some 18) rfl rfl Tryd.func12 (by kernel_rfl) rfl #[.string a0] rfl (by (try simp only [List.map_toArray, List.map_cons, List.map_nil]); first | done | rfl | (simp only [List.length_drop, List.length_take]; rfl)) ?_; (with_reducible refine (Go.Proofs.YtipfiodeakapdaaDoor.R.RFold.calls a0 t104 t105 _ A5.out).mono ?_); rintro e w22 ⟨rfl, hb⟩; refine ⟨_, rfl, ?_⟩; have n0_ := Aside0.mk (below_step (by repeat (first | (with_reducible first | exact HB.out | apply below_alloc | apply pw_below_drewN | apply below_drew1) | exact HB.out)) hb); clear HB; have HB := n0_; clear n0_; (try clear hb); (try clear hb2); (try clear hk); (try clear hi)) | (go_at_call 13; (with_reducible refine (Go.Proofs.YtipfiodeakapdaaDoor.R.Runes.calls a0 t106 _ A6.out).mono ?_); rintro e w23 ⟨rfl, hb⟩; have n0_ := Aside0.mk (below_step (by repeat (first | (with_reducible first | exact HB.out | apply below_alloc | apply pw_below_drewN | apply below_drew1) | exact HB.out)) hb); clear HB; have HB := n0_; clear n0_; (try clear hb); (try clear hb2); (try clear hk); (try clear hi)) | (go_at_call 14; (with_reducible refine (Go.Proofs.YtipfiodeakapdaaDoor.O.bailiwickref02_Runes.calls a0 t107 _ A7.out).mono ?_); rintro e w24 ⟨rfl, hb⟩; have n0_ := Aside0.mk (below_step (by repeat (first | (with_reducible first | exact HB.out | apply below_alloc | apply pw_below_drewN | apply below_drew1) | exact HB.out)) hb); clear HB; have HB := n0_; clear n0_; (try clear hb); (try clear hb2); (try clear hk); (try clear hi)) | (go_at_call 15; (with_reducible refine (Go.Proofs.YtipfiodeakapdaaDoor.R.Right.calls a0 t108 _ A9.out).mono ?_); rintro e w25 ⟨rfl, hb⟩; have n0_ := Aside0.mk (below_step (by repeat (first | (with_reducible first | exact HB.out | apply below_alloc | apply pw_below_drewN | apply below_drew1) | exact HB.out)) hb); clear HB; have HB := n0_; clear n0_; (try clear hb); (try clear hb2); (try clear hk); (try clear hi)) | (go_at_call 16; (with_reducible refine (Go.Proofs.YtipfiodeakapdaaDoor.O.bailiwickref02_Right.calls k a0 t109 _ A10.out).mono ?_); rintro e w26 ⟨rfl, hb⟩; have n0_ := Aside0.mk (below_step (by repeat (first | (with_reducible first | exact HB.out | apply below_alloc | apply pw_below_drewN | apply below_drew1) | exact HB.out)) hb); clear HB; have HB := n0_; clear n0_; (try clear hb); (try clear hb2); (try clear hk); (try clear hi)))
          go_ret
          exact ⟨by first | rfl | (simp [errW_none, errW_some] <;> rfl) | (simp [*, errW_none, errW_some] <;> rfl), by repeat (first | (with_reducible first | exact HB.out | apply below_alloc | apply pw_below_drewN | apply below_drew1) | exact HB.out)⟩
      · rw [if_neg c11] at H
        have c11b0 : (t108 == t109) = false := by simpa using c11
        (try (have c11b1 : decide (t108 = t109) = false := by simpa using c11))
        (try (have c11b2 : (t108 == t109) = false := by simpa using c11))
        (try (have c11b3 : ¬ (t108 = t109) := by simpa using c11))
        clear c11
        obtain rfl := Option.some.inj H
        go_enter Tryd.func3, Tryd.ntmps3
        (try dsimp only [List.append])
        go_wp2_with (first | ((with_reducible refine gate_callee (f := 10) rfl ?_); refine goesL_ (some 8) rfl rfl Tryd.func10 (by kernel_rfl) rfl #[] rfl (by (try simp only [List.map_toArray, List.map_cons, List.map_nil]); first | done | rfl | (simp only [List.length_drop, List.length_take]; rfl)) ?_; (with_reducible refine (Go.Proofs.YtipfiodeakapdaaDoor.O.bailiwicklaw02_examples.calls k  true _ A2.out).mono ?_); rintro e w27 ⟨rfl, hb⟩; refine ⟨_, rfl, ?_⟩; have n0_ := Aside0.mk (below_step (by repeat (first | (with_reducible first | exact HB.out | apply below_alloc | apply pw_below_drewN | apply below_drew1) | exact HB.out)) hb); clear HB; have HB := n0_; clear n0_; (try clear hb); (try clear hb2); (try clear hk); (try clear hi)) | ((with_reducible refine gate_callee (f := 11) rfl ?_); refine goesL_ (some 13) rfl rfl Tryd.func11 (by kernel_rfl) rfl #[.string a0] rfl (by (try simp only [List.map_toArray, List.map_cons, List.map_nil]); first | done | rfl | (simp only [List.length_drop, List.length_take]; rfl)) ?_; (with_reducible refine (Go.Proofs.YtipfiodeakapdaaDoor.R.Fold.calls a0 t102 t103 _ A4.out).mono ?_); rintro e w28 ⟨rfl, hb⟩; refine ⟨_, rfl, ?_⟩; have n0_ := Aside0.mk (below_step (by repeat (first | (with_reducible first | exact HB.out | apply below_alloc | apply pw_below_drewN | apply below_drew1) | exact HB.out)) hb); clear HB; have HB := n0_; clear n0_; (try clear hb); (try clear hb2); (try clear hk); (try clear hi)) | ((with_reducible refine gate_callee (f := 12) rfl ?_); refine goesL_ (some 18) rfl rfl Tryd.func12 (by kernel_rfl) rfl #[.string a0] rfl (by (try simp only [List.map_toArray, List.map_cons, List.map_nil]); first | done | rfl | (simp only [List.length_drop, List.length_take]; rfl)) ?_; (with_reducible refine (Go.Proofs.YtipfiodeakapdaaDoor.R.RFold.calls a0 t104 t105 _ A5.out).mono ?_); rintro e w29 ⟨rfl, hb⟩; refine ⟨_, rfl, ?_⟩; have n0_ := Aside0.mk (below_step (by repeat (first | (with_reducible first | exact HB.out | apply below_alloc | apply pw_below_drewN | apply below_drew1) | exact HB.out)) hb); clear HB; have HB := n0_; clear n0_; (try clear hb); (try clear hb2); (try clear hk); (try clear hi)) | (go_at_call 13; (with_reducible refine (Go.Proofs.YtipfiodeakapdaaDoor.R.Runes.calls a0 t106 _ A6.out).mono ?_); rintro e w30 ⟨rfl, hb⟩; have n0_ := Aside0.mk (below_step (by repeat (first | (with_reducible first | exact HB.out | apply below_alloc | apply pw_below_drewN | apply below_drew1) | exact HB.out)) hb); clear HB; have HB := n0_; clear n0_; (try clear hb); (try clear hb2); (try clear hk); (try clear hi)) | (go_at_call 14; (with_reducible refine (Go.Proofs.YtipfiodeakapdaaDoor.O.bailiwickref02_Runes.calls a0 t107 _ A7.out).mono ?_); rintro e w31 ⟨rfl, hb⟩; have n0_ := Aside0.mk (below_step (by repeat (first | (with_reducible first | exact HB.out | apply below_alloc | apply pw_below_drewN | apply below_drew1) | exact HB.out)) hb); clear HB; have HB := n0_; clear n0_; (try clear hb); (try clear hb2); (try clear hk); (try clear hi)) | (go_at_call 15; (with_reducible refine (Go.Proofs.YtipfiodeakapdaaDoor.R.Right.calls a0 t108 _ A9.out).mono ?_); rintro e w32 ⟨rfl, hb⟩; have n0_ := Aside0.mk (below_step (by repeat (first | (with_reducible first | exact HB.out | apply below_alloc | apply pw_below_drewN | apply below_drew1) | exact HB.out)) hb); clear HB; have HB := n0_; clear n0_; (try clear hb); (try clear hb2); (try clear hk); (try clear hi)) | (go_at_call 16; (with_reducible refine (Go.Proofs.YtipfiodeakapdaaDoor.O.bailiwickref02_Right.calls k a0 t109 _ A10.out).mono ?_); rintro e w33 ⟨rfl, hb⟩; have n0_ := Aside0.mk (below_step (by repeat (first | (with_reducible first | exact HB.out | apply below_alloc | apply pw_below_drewN | apply below_drew1) | exact HB.out)) hb); clear HB; have HB := n0_; clear n0_; (try clear hb); (try clear hb2); (try clear hk); (try clear hi)))
        go_ret
        exact ⟨by first | rfl | (simp [errW_none, errW_some] <;> rfl) | (simp [*, errW_none, errW_some] <;> rfl), by repeat (first | (with_reducible first | exact HB.out | apply below_alloc | apply pw_below_drewN | apply below_drew1) | exact HB.out)⟩
    · rw [if_neg c8] at H
      have c8b0 : (t106 == t107) = false := beq_eq_false_iff_ne.mpr c8
      have c8b1 : (t106 != t107) = true := bne_iff_ne.mpr c8
      obtain rfl := Option.some.inj H
      go_enter Tryd.func3, Tryd.ntmps3
      (try dsimp only [List.append])
      go_wp2_with (first | ((with_reducible refine gate_callee (f := 10) rfl ?_); refine goesL_ (some 8) rfl rfl Tryd.func10 (by kernel_rfl) rfl #[] rfl (by (try simp only [List.map_toArray, List.map_cons, List.map_nil]); first | done | rfl | (simp only [List.length_drop, List.length_take]; rfl)) ?_; (with_reducible refine (Go.Proofs.YtipfiodeakapdaaDoor.O.bailiwicklaw02_examples.calls k  true _ A2.out).mono ?_); rintro e w34 ⟨rfl, hb⟩; refine ⟨_, rfl, ?_⟩; have n0_ := Aside0.mk (below_step (by repeat (first | (with_reducible first | exact HB.out | apply below_alloc | apply pw_below_drewN | apply below_drew1) | exact HB.out)) hb); clear HB; have HB := n0_; clear n0_; (try clear hb); (try clear hb2); (try clear hk); (try clear hi)) | ((with_reducible refine gate_callee (f := 11) rfl ?_); refine goesL_ (some 13) rfl rfl Tryd.func11 (by kernel_rfl) rfl #[.string a0] rfl (by (try simp only [List.map_toArray, List.map_cons, List.map_nil]); first | done | rfl | (simp only [List.length_drop, List.length_take]; rfl)) ?_; (with_reducible refine (Go.Proofs.YtipfiodeakapdaaDoor.R.Fold.calls a0 t102 t103 _ A4.out).mono ?_); rintro e w35 ⟨rfl, hb⟩; refine ⟨_, rfl, ?_⟩; have n0_ := Aside0.mk (below_step (by repeat (first | (with_reducible first | exact HB.out | apply below_alloc | apply pw_below_drewN | apply below_drew1) | exact HB.out)) hb); clear HB; have HB := n0_; clear n0_; (try clear hb); (try clear hb2); (try clear hk); (try clear hi)) | ((with_reducible refine gate_callee (f := 12) rfl ?_); refine goesL_ (some 18) rfl rfl Tryd.func12 (by kernel_rfl) rfl #[.string a0] rfl (by (try simp only [List.map_toArray, List.map_cons, List.map_nil]); first | done | rfl | (simp only [List.length_drop, List.length_take]; rfl)) ?_; (with_reducible refine (Go.Proofs.YtipfiodeakapdaaDoor.R.RFold.calls a0 t104 t105 _ A5.out).mono ?_); rintro e w36 ⟨rfl, hb⟩; refine ⟨_, rfl, ?_⟩; have n0_ := Aside0.mk (below_step (by repeat (first | (with_reducible first | exact HB.out | apply below_alloc | apply pw_below_drewN | apply below_drew1) | exact HB.out)) hb); clear HB; have HB := n0_; clear n0_; (try clear hb); (try clear hb2); (try clear hk); (try clear hi)) | (go_at_call 13; (with_reducible refine (Go.Proofs.YtipfiodeakapdaaDoor.R.Runes.calls a0 t106 _ A6.out).mono ?_); rintro e w37 ⟨rfl, hb⟩; have n0_ := Aside0.mk (below_step (by repeat (first | (with_reducible first | exact HB.out | apply below_alloc | apply pw_below_drewN | apply below_drew1) | exact HB.out)) hb); clear HB; have HB := n0_; clear n0_; (try clear hb); (try clear hb2); (try clear hk); (try clear hi)) | (go_at_call 14; (with_reducible refine (Go.Proofs.YtipfiodeakapdaaDoor.O.bailiwickref02_Runes.calls a0 t107 _ A7.out).mono ?_); rintro e w38 ⟨rfl, hb⟩; have n0_ := Aside0.mk (below_step (by repeat (first | (with_reducible first | exact HB.out | apply below_alloc | apply pw_below_drewN | apply below_drew1) | exact HB.out)) hb); clear HB; have HB := n0_; clear n0_; (try clear hb); (try clear hb2); (try clear hk); (try clear hi)))
      go_ret
      exact ⟨by first | rfl | (simp [errW_none, errW_some] <;> rfl) | (simp [*, errW_none, errW_some] <;> rfl), by repeat (first | (with_reducible first | exact HB.out | apply below_alloc | apply pw_below_drewN | apply below_drew1) | exact HB.out)⟩
  · replace c3 := Bool.eq_false_iff.mpr c3
    subst c3
    have H1 : (some false) = some r := by rw [if_neg (show ¬ (false = true) by decide)] at H; exact H
    clear H
    have H := H1
    clear H1
    obtain rfl := Option.some.inj H
    go_enter Tryd.func3, Tryd.ntmps3
    (try dsimp only [List.append])
    go_wp2_with (first | ((with_reducible refine gate_callee (f := 10) rfl ?_); refine goesL_ (some 8) rfl rfl Tryd.func10 (by kernel_rfl) rfl #[] rfl (by (try simp only [List.map_toArray, List.map_cons, List.map_nil]); first | done | rfl | (simp only [List.length_drop, List.length_take]; rfl)) ?_; (with_reducible refine (Go.Proofs.YtipfiodeakapdaaDoor.O.bailiwicklaw02_examples.calls k  false _ A2.out).mono ?_); rintro e w39 ⟨rfl, hb⟩; refine ⟨_, rfl, ?_⟩; have n0_ := Aside0.mk (below_step (by repeat (first | (with_reducible first | exact HB.out | apply below_alloc | apply pw_below_drewN | apply below_drew1) | exact HB.out)) hb); clear HB; have HB := n0_; clear n0_; (try clear hb); (try clear hb2); (try clear hk); (try clear hi)))
    go_ret
    exact ⟨by first | rfl | (simp [errW_none, errW_some] <;> rfl) | (simp [*, errW_none, errW_some] <;> rfl), by repeat (first | (with_reducible first | exact HB.out | apply below_alloc | apply pw_below_drewN | apply below_drew1) | exact HB.out)⟩

/-- THE ONE PURE STATEMENT of bailiwicklaw02_LabelTells: yours. -/
def bailiwicklaw02_LabelTells.Pure : Prop := ∀ (a0 : ByteArray), a0.size ≤ 140737488351232 → ∃ k, bailiwicklaw02_LabelTells.f k a0 = some true
theorem bailiwicklaw02_LabelTells.walk (P : bailiwicklaw02_LabelTells.Pure) (a0 : ByteArray) (w : World) (w0 : a0.size ≤ 140737488351232) :
    Calls Tryd.prog 3 #[.string a0] w fun e w' => e = .returned (.bool true) ∧ Below w.heap.size w w' := by
  obtain ⟨k, h⟩ := P a0 w0
  refine (bailiwicklaw02_LabelTells.calls k a0 true w h).mono ?_
  rintro e w' ⟨rfl, hd⟩
  exact ⟨rfl, hd⟩

end Go.Proofs.YtipfiodeakapdaaDoor.T
