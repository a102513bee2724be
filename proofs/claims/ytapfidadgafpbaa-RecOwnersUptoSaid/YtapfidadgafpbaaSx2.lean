-- Written by a program of this session (gp.py), which drives the print with some lines turned. Not trusted: Lean checks it.
import Derived.Test.YtapfidadgafpbaaSx0
namespace Go.Proofs.Ytapfidadgafpbaa.S
open Go.RowKit Go.Proofs.YtapfidadgafpbaaW.PrintWords Go.Proofs.YtapfidadgafpbaaW.PrintLast Go.Proofs.YtapfidadgafpbaaW.PrintMore
attribute [local go_sem] max2_int min2_int max_two min_two max_three min_three max_four min_four P.emod_u8 P.emod_u16 P.emod_u32
set_option linter.unusedVariables false
set_option linter.unusedSimpArgs false

-- PROVED BY HAND: function 63 (num_Put)

-- PROVED BY HAND: function 55 (rec_writer_number)

-- PROVED BY HAND: function 53 (rec_writer_small)

-- PROVED BY HAND: function 54 (num_Text)

-- NOT PRINTED: function 32 (rec_write)

-- PROVED BY HAND: function 14 (rec_PutSlot)

-- PROVED BY HAND: function 19 (rec_PutCap)

/-! ### bailiwicklaw14_examples: function 9 -/
def bailiwicklaw14_examples.f  : Option (Bool) := (Go.Proofs.Ytapfidadgafpbaa.G.xPutSlot.f 1 5 2 7).bind fun bt101 => ((Go.Proofs.Ytapfidadgafpbaa.G.xPutCap.f 0 0 0 0 0 0 0 0 0 false).bind fun bt103 => (if bt101.1.toList = ([0, 0, 5, 2, 0, 0, 0, 0, 0, 0, 0, 7] : List UInt8) then (if bt101.2 = 0 then (some (bt103.2 == 1)) else (some false)) else (some false)))
set_option maxHeartbeats 8000000 in
set_option maxRecDepth 100000 in
theorem bailiwicklaw14_examples.calls  (r : Bool) (w : World) (h : bailiwicklaw14_examples.f  = some r) :
    Calls Try.prog 9 #[] w fun e w' => e = .returned (.bool r) ∧ Below w.heap.size w w' := by
  have hu26 := Try.underlying26
  have hu23 := Try.underlying23
  have HB := Aside0.mk (Below.refl w.heap.size w)
  have H : ((Go.Proofs.Ytapfidadgafpbaa.G.xPutSlot.f 1 5 2 7).bind fun bt101 => ((Go.Proofs.Ytapfidadgafpbaa.G.xPutCap.f 0 0 0 0 0 0 0 0 0 false).bind fun bt103 => (if bt101.1.toList = ([0, 0, 5, 2, 0, 0, 0, 0, 0, 0, 0, 7] : List UInt8) then (if bt101.2 = 0 then (some (bt103.2 == 1)) else (some false)) else (some false)))) = some r := h
  clear h
  replace H := Option.bind_eq_some_iff.mp H
  obtain ⟨⟨t101, t102⟩, A10, H⟩ := H
  replace H : ((Go.Proofs.Ytapfidadgafpbaa.G.xPutCap.f 0 0 0 0 0 0 0 0 0 false).bind fun bt103 => (if t101.toList = ([0, 0, 5, 2, 0, 0, 0, 0, 0, 0, 0, 7] : List UInt8) then (if t102 = 0 then (some (bt103.2 == 1)) else (some false)) else (some false))) = some r := H
  have A1 := Aside0.mk A10
  clear A10
  replace H := Option.bind_eq_some_iff.mp H
  obtain ⟨⟨t103, t104⟩, A20, H⟩ := H
  replace H : (if t101.toList = ([0, 0, 5, 2, 0, 0, 0, 0, 0, 0, 0, 7] : List UInt8) then (if t102 = 0 then (some (t104 == 1)) else (some false)) else (some false)) = some r := H
  have A2 := Aside0.mk A20
  clear A20
  by_cases c3 : t101.toList = ([0, 0, 5, 2, 0, 0, 0, 0, 0, 0, 0, 7] : List UInt8)
  · rw [if_pos c3] at H
    have c3b0 : (t101.toList == ([0, 0, 5, 2, 0, 0, 0, 0, 0, 0, 0, 7] : List UInt8)) = true := beq_iff_eq.mpr c3
    have c3b1 : (t101.toList != ([0, 0, 5, 2, 0, 0, 0, 0, 0, 0, 0, 7] : List UInt8)) = false := bne_eq_false_iff_eq.mpr c3
    clear c3
    by_cases c4 : t102 = 0
    · rw [if_pos c4] at H
      have c4b0 : (t102 == 0) = true := beq_iff_eq.mpr c4
      have c4b1 : (t102 != 0) = false := bne_eq_false_iff_eq.mpr c4
      clear c4
      obtain rfl := Option.some.inj H
      simp only [Option.some.injEq, Prod.mk.injEq] at H
      obtain ⟨rfl⟩ := H
      go_enter Try.func9, Try.ntmps9
      go_wp2_with (first | ((with_reducible refine gate_callee (f := 14) rfl ?_); refine goesL_ (some 7) rfl rfl Try.func14 (by kernel_rfl) rfl #[.agg #[.int .i64 1, .int .i64 5, .int .i64 2, .int .u64 7]] rfl (by (try simp only [List.map_toArray, List.map_cons, List.map_nil]); first | done | rfl | (simp only [List.length_drop, List.length_take]; rfl)) ?_; (with_reducible refine (Go.Proofs.Ytapfidadgafpbaa.G.xPutSlot.calls 1 5 2 7 t101 t102 _ A1.out).mono ?_); rintro e w5 ⟨rfl, hb⟩; refine ⟨_, rfl, ?_⟩; have n0_ := Aside0.mk (below_step (by repeat (first | (with_reducible first | exact HB.out | apply below_alloc | apply pw_below_drewN | apply below_drew1) | exact HB.out)) hb); clear HB; have HB := n0_; clear n0_; (try clear hb); (try clear hb2); (try clear hk); (try clear hi)) | ((with_reducible refine gate_callee (f := 19) rfl ?_); refine goesL_ (some 12) rfl rfl Try.func19 (by kernel_rfl) rfl #[.agg #[.int .i64 0, .int .i64 0, .int .i64 0, .int .i64 0, .int .i64 0, .int .i64 0, .int .i64 0, .int .i64 0, .int .i64 0, .bool false]] rfl (by (try simp only [List.map_toArray, List.map_cons, List.map_nil]); first | done | rfl | (simp only [List.length_drop, List.length_take]; rfl)) ?_; (with_reducible refine (Go.Proofs.Ytapfidadgafpbaa.G.xPutCap.calls 0 0 0 0 0 0 0 0 0 false t103 t104 _ A2.out).mono ?_); rintro e w6 ⟨rfl, hb⟩; refine ⟨_, rfl, ?_⟩; have n0_ := Aside0.mk (below_step (by repeat (first | (with_reducible first | exact HB.out | apply below_alloc | apply pw_below_drewN | apply below_drew1) | exact HB.out)) hb); clear HB; have HB := n0_; clear n0_; (try clear hb); (try clear hb2); (try clear hk); (try clear hi)))
      go_ret
      exact ⟨by first | rfl | (simp [errW_none, errW_some] <;> rfl) | (simp [*, errW_none, errW_some] <;> rfl), by repeat (first | (with_reducible first | exact HB.out | apply below_alloc | apply pw_below_drewN | apply below_drew1) | exact HB.out)⟩
    · rw [if_neg c4] at H
      have c4b0 : (t102 == 0) = false := beq_eq_false_iff_ne.mpr c4
      have c4b1 : (t102 != 0) = true := bne_iff_ne.mpr c4
      obtain rfl := Option.some.inj H
      simp only [Option.some.injEq, Prod.mk.injEq] at H
      obtain ⟨rfl⟩ := H
      go_enter Try.func9, Try.ntmps9
      go_wp2_with (first | ((with_reducible refine gate_callee (f := 14) rfl ?_); refine goesL_ (some 7) rfl rfl Try.func14 (by kernel_rfl) rfl #[.agg #[.int .i64 1, .int .i64 5, .int .i64 2, .int .u64 7]] rfl (by (try simp only [List.map_toArray, List.map_cons, List.map_nil]); first | done | rfl | (simp only [List.length_drop, List.length_take]; rfl)) ?_; (with_reducible refine (Go.Proofs.Ytapfidadgafpbaa.G.xPutSlot.calls 1 5 2 7 t101 t102 _ A1.out).mono ?_); rintro e w7 ⟨rfl, hb⟩; refine ⟨_, rfl, ?_⟩; have n0_ := Aside0.mk (below_step (by repeat (first | (with_reducible first | exact HB.out | apply below_alloc | apply pw_below_drewN | apply below_drew1) | exact HB.out)) hb); clear HB; have HB := n0_; clear n0_; (try clear hb); (try clear hb2); (try clear hk); (try clear hi)) | ((with_reducible refine gate_callee (f := 19) rfl ?_); refine goesL_ (some 12) rfl rfl Try.func19 (by kernel_rfl) rfl #[.agg #[.int .i64 0, .int .i64 0, .int .i64 0, .int .i64 0, .int .i64 0, .int .i64 0, .int .i64 0, .int .i64 0, .int .i64 0, .bool false]] rfl (by (try simp only [List.map_toArray, List.map_cons, List.map_nil]); first | done | rfl | (simp only [List.length_drop, List.length_take]; rfl)) ?_; (with_reducible refine (Go.Proofs.Ytapfidadgafpbaa.G.xPutCap.calls 0 0 0 0 0 0 0 0 0 false t103 t104 _ A2.out).mono ?_); rintro e w8 ⟨rfl, hb⟩; refine ⟨_, rfl, ?_⟩; have n0_ := Aside0.mk (below_step (by repeat (first | (with_reducible first | exact HB.out | apply below_alloc | apply pw_below_drewN | apply below_drew1) | exact HB.out)) hb); clear HB; have HB := n0_; clear n0_; (try clear hb); (try clear hb2); (try clear hk); (try clear hi)))
      go_ret
      exact ⟨by first | rfl | (simp [errW_none, errW_some] <;> rfl) | (simp [*, errW_none, errW_some] <;> rfl), by repeat (first | (with_reducible first | exact HB.out | apply below_alloc | apply pw_below_drewN | apply below_drew1) | exact HB.out)⟩
  · rw [if_neg c3] at H
    have c3b0 : (t101.toList == ([0, 0, 5, 2, 0, 0, 0, 0, 0, 0, 0, 7] : List UInt8)) = false := beq_eq_false_iff_ne.mpr c3
    have c3b1 : (t101.toList != ([0, 0, 5, 2, 0, 0, 0, 0, 0, 0, 0, 7] : List UInt8)) = true := bne_iff_ne.mpr c3
    obtain rfl := Option.some.inj H
    simp only [Option.some.injEq, Prod.mk.injEq] at H
    obtain ⟨rfl⟩ := H
    go_enter Try.func9, Try.ntmps9
    go_wp2_with (first | ((with_reducible refine gate_callee (f := 14) rfl ?_); refine goesL_ (some 7) rfl rfl Try.func14 (by kernel_rfl) rfl #[.agg #[.int .i64 1, .int .i64 5, .int .i64 2, .int .u64 7]] rfl (by (try simp only [List.map_toArray, List.map_cons, List.map_nil]); first | done | rfl | (simp only [List.length_drop, List.length_take]; rfl)) ?_; (with_reducible refine (Go.Proofs.Ytapfidadgafpbaa.G.xPutSlot.calls 1 5 2 7 t101 t102 _ A1.out).mono ?_); rintro e w9 ⟨rfl, hb⟩; refine ⟨_, rfl, ?_⟩; have n0_ := Aside0.mk (below_step (by repeat (first | (with_reducible first | exact HB.out | apply below_alloc | apply pw_below_drewN | apply below_drew1) | exact HB.out)) hb); clear HB; have HB := n0_; clear n0_; (try clear hb); (try clear hb2); (try clear hk); (try clear hi)) | ((with_reducible refine gate_callee (f := 19) rfl ?_); refine goesL_ (some 12) rfl rfl Try.func19 (by kernel_rfl) rfl #[.agg #[.int .i64 0, .int .i64 0, .int .i64 0, .int .i64 0, .int .i64 0, .int .i64 0, .int .i64 0, .int .i64 0, .int .i64 0, .bool false]] rfl (by (try simp only [List.map_toArray, List.map_cons, List.map_nil]); first | done | rfl | (simp only [List.length_drop, List.length_take]; rfl)) ?_; (with_reducible refine (Go.Proofs.Ytapfidadgafpbaa.G.xPutCap.calls 0 0 0 0 0 0 0 0 0 false t103 t104 _ A2.out).mono ?_); rintro e w10 ⟨rfl, hb⟩; refine ⟨_, rfl, ?_⟩; have n0_ := Aside0.mk (below_step (by repeat (first | (with_reducible first | exact HB.out | apply below_alloc | apply pw_below_drewN | apply below_drew1) | exact HB.out)) hb); clear HB; have HB := n0_; clear n0_; (try clear hb); (try clear hb2); (try clear hk); (try clear hi)))
    go_ret
    exact ⟨by first | rfl | (simp [errW_none, errW_some] <;> rfl) | (simp [*, errW_none, errW_some] <;> rfl), by repeat (first | (with_reducible first | exact HB.out | apply below_alloc | apply pw_below_drewN | apply below_drew1) | exact HB.out)⟩

-- PROVED BY HAND: function 56 (rec_in)

-- PROVED BY HAND: function 34 (rec_slotRecord_right)

-- PROVED BY HAND: function 13 (rec_SlotRight)

-- PROVED BY HAND: function 42 (bailiwickref14_in)

-- PROVED BY HAND: function 18 (bailiwickref14_SlotRight)

-- PROVED BY HAND: function 35 (bailiwickref01_Put)

-- PROVED BY HAND: function 36 (bailiwickref14_put)

-- PROVED BY HAND: function 15 (bailiwickref14_PutSlot)

-- PROVED BY HAND: function 58 (num_Take)

-- NOT PRINTED: function 38 (rec_reader_number)

-- NOT PRINTED: function 37 (rec_reader_small)

-- NOT PRINTED: function 39 (rec_again)

-- PROVED BY HAND: function 16 (rec_TakeSlot)

-- PROVED BY HAND: function 40 (bailiwickref01_Take)

-- PROVED BY HAND: function 41 (bailiwickref14_take)

-- PROVED BY HAND: function 17 (bailiwickref14_TakeSlot)

end Go.Proofs.Ytapfidadgafpbaa.S
