-- Written by a program of this session (gp.py), which drives the print with some lines turned. Not trusted: Lean checks it.
import Derived.Test.YtapfidadgafpbaaOx0
namespace Go.Proofs.Ytapfidadgafpbaa.O
open Go.RowKit Go.Proofs.YtapfidadgafpbaaW.PrintWords Go.Proofs.YtapfidadgafpbaaW.PrintLast Go.Proofs.YtapfidadgafpbaaW.PrintMore
attribute [local go_sem] max2_int min2_int max_two min_two max_three min_three max_four min_four P.emod_u8 P.emod_u16 P.emod_u32
set_option linter.unusedVariables false
set_option linter.unusedSimpArgs false

-- PROVED BY HAND: function 63 (num_Put)

-- PROVED BY HAND: function 55 (rec_writer_number)

-- PROVED BY HAND: function 53 (rec_writer_small)

-- PROVED BY HAND: function 54 (num_Text)

-- NOT PRINTED: function 32 (rec_write)

-- NOT PRINTED: function 14 (rec_PutSlot)

-- NOT PRINTED: function 19 (rec_PutCap)

-- NOT PRINTED: function 9 (bailiwicklaw14_examples)

-- NOT PRINTED: function 11 (rec_PutOwner)

-- PROVED BY HAND: function 42 (bailiwickref14_in)

-- PROVED BY HAND: function 65 (bailiwickref02_runes)

-- PROVED BY HAND: function 66 (bailiwickref02_letter)

/-! ### bailiwickref02_Right: function 60 -/
mutual
def bailiwickref02_Right.j0 : Nat → List Int → Bool → Option (Bool)
  | 0, _, _ => none
  | k + 1, x3, x20 => if x20 = true then (some false) else (bailiwickref02_Right.l0 k x3 0)
def bailiwickref02_Right.l0 : Nat → List Int → Int → Option (Bool)
  | 0, _, _ => none
  | k + 1, x3, x4 => if x4 < (x3.length : Int) then (if 0 ≤ x4 then (if (rd x3 x4) = 45 then (if x4 = 0 then (some false) else (if x4 = (wrap64 ((x3.length : Int) - 1)) then (some false) else (if x4 > 0 then (if (rd x3 x4) = 46 then (if 0 ≤ (wrap64 (x4 - 1)) then (if (wrap64 (x4 - 1)) < (x3.length : Int) then (if (rd x3 (wrap64 (x4 - 1))) = 46 then (some false) else (bailiwickref02_Right.l0 k x3 (wrap64 (x4 + 1)))) else (none)) else (none)) else (bailiwickref02_Right.l0 k x3 (wrap64 (x4 + 1)))) else (bailiwickref02_Right.l0 k x3 (wrap64 (x4 + 1)))))) else (if ((rd x3 x4) = 46) then (if (rd x3 x4) = 46 then (if x4 = 0 then (some false) else (if x4 = (wrap64 ((x3.length : Int) - 1)) then (some false) else (if x4 > 0 then (if 0 ≤ (wrap64 (x4 - 1)) then (if (wrap64 (x4 - 1)) < (x3.length : Int) then (if (rd x3 (wrap64 (x4 - 1))) = 46 then (some false) else (bailiwickref02_Right.l0 k x3 (wrap64 (x4 + 1)))) else (none)) else (none)) else (bailiwickref02_Right.l0 k x3 (wrap64 (x4 + 1)))))) else (if x4 > 0 then (bailiwickref02_Right.l0 k x3 (wrap64 (x4 + 1))) else (bailiwickref02_Right.l0 k x3 (wrap64 (x4 + 1))))) else ((Go.Proofs.Ytapfidadgafpbaa.P.bailiwickref02_letter.f (rd x3 x4)).bind fun t113 => (if t113 = true then (if (rd x3 x4) = 46 then (if x4 = 0 then (some false) else (if x4 = (wrap64 ((x3.length : Int) - 1)) then (some false) else (if x4 > 0 then (if 0 ≤ (wrap64 (x4 - 1)) then (if (wrap64 (x4 - 1)) < (x3.length : Int) then (if (rd x3 (wrap64 (x4 - 1))) = 46 then (some false) else (bailiwickref02_Right.l0 k x3 (wrap64 (x4 + 1)))) else (none)) else (none)) else (bailiwickref02_Right.l0 k x3 (wrap64 (x4 + 1)))))) else (if x4 > 0 then (bailiwickref02_Right.l0 k x3 (wrap64 (x4 + 1))) else (bailiwickref02_Right.l0 k x3 (wrap64 (x4 + 1))))) else (some false))))) else (none)) else (some true)
end
def bailiwickref02_Right.f (k : Nat) (a0 : ByteArray) : Option (Bool) := (Go.Proofs.Ytapfidadgafpbaa.R.runes.f a0).bind fun t102 => (if (t102.length : Int) < 1 then (bailiwickref02_Right.j0 k t102 true) else (if (t102.length : Int) > 16 then (bailiwickref02_Right.j0 k t102 true) else (bailiwickref02_Right.j0 k t102 (decide ((a0.size : Int) > 32)))))
theorem bailiwickref02_Right.mono_l : ∀ k, (∀ y0 y1, LeO (bailiwickref02_Right.j0 k y0 y1) (bailiwickref02_Right.j0 (k + 1) y0 y1)) ∧ (∀ y0 y1, LeO (bailiwickref02_Right.l0 k y0 y1) (bailiwickref02_Right.l0 (k + 1) y0 y1))
  | 0 => ⟨fun _ _ r h => by simp [bailiwickref02_Right.j0] at h, fun _ _ r h => by simp [bailiwickref02_Right.l0] at h⟩
  | k + 1 => by
    obtain ⟨ih0, ih1⟩ := bailiwickref02_Right.mono_l k
    refine ⟨?_, ?_⟩
    · intro y0 y1
      unfold bailiwickref02_Right.j0
      repeat' first
      | (with_reducible exact ih0 _ _)
      | (with_reducible exact ih1 _ _)
      | (with_reducible exact LeO.refl _)
      | (with_reducible exact LeO.none _)
      | (with_reducible refine LeO.ite ?_ ?_)
      | (with_reducible refine LeO.bind ?_ (fun _ => ?_))
      | exact ih0 _ _
      | exact ih1 _ _
      | exact LeO.none _
      | refine LeO.ite ?_ ?_
      | refine LeO.bind ?_ (fun _ => ?_)
    · intro y0 y1
      unfold bailiwickref02_Right.l0
      repeat' first
      | (with_reducible exact ih0 _ _)
      | (with_reducible exact ih1 _ _)
      | (with_reducible exact LeO.refl _)
      | (with_reducible exact LeO.none _)
      | (with_reducible refine LeO.ite ?_ ?_)
      | (with_reducible refine LeO.bind ?_ (fun _ => ?_))
      | exact ih0 _ _
      | exact ih1 _ _
      | exact LeO.none _
      | refine LeO.ite ?_ ?_
      | refine LeO.bind ?_ (fun _ => ?_)
theorem bailiwickref02_Right.mono : ∀ a0 k, LeO (bailiwickref02_Right.f k a0) (bailiwickref02_Right.f (k + 1) a0) := by
  intro a0 k
  obtain ⟨ih0, ih1⟩ := bailiwickref02_Right.mono_l k
  unfold bailiwickref02_Right.f
  repeat' first
      | (with_reducible exact ih0 _ _)
      | (with_reducible exact ih1 _ _)
      | (with_reducible exact LeO.refl _)
      | (with_reducible exact LeO.none _)
      | (with_reducible refine LeO.ite ?_ ?_)
      | (with_reducible refine LeO.bind ?_ (fun _ => ?_))
      | exact ih0 _ _
      | exact ih1 _ _
      | exact LeO.none _
      | refine LeO.ite ?_ ?_
      | refine LeO.bind ?_ (fun _ => ?_)
set_option maxHeartbeats 8000000 in
set_option maxRecDepth 100000 in
theorem bailiwickref02_Right.calls (k : Nat) (a0 : ByteArray) (r : Bool) (w : World) (h : bailiwickref02_Right.f k a0 = some r) :
    Calls Try.prog 60 #[.string a0] w fun e w' => e = .returned (.bool r) ∧ Below w.heap.size w w' := by
  have HB := Aside0.mk (Below.refl w.heap.size w)
  have H : ((Go.Proofs.Ytapfidadgafpbaa.R.runes.f a0).bind fun t102 => (if (t102.length : Int) < 1 then (bailiwickref02_Right.j0 k t102 true) else (if (t102.length : Int) > 16 then (bailiwickref02_Right.j0 k t102 true) else (bailiwickref02_Right.j0 k t102 (decide ((a0.size : Int) > 32)))))) = some r := h
  clear h
  replace H := Option.bind_eq_some_iff.mp H
  obtain ⟨t102, A20, H⟩ := H
  replace H : (if (t102.length : Int) < 1 then (bailiwickref02_Right.j0 k t102 true) else (if (t102.length : Int) > 16 then (bailiwickref02_Right.j0 k t102 true) else (bailiwickref02_Right.j0 k t102 (decide ((a0.size : Int) > 32))))) = some r := H
  have A2 := Aside0.mk A20
  clear A20
  have HC3 := Aside0.mk H
  clear H
  go_enter Try.func60, Try.ntmps60
  go_upto_region 2 with (first | ((with_reducible refine gate_callee (f := 65) rfl ?_); refine goesL_ (some 7) rfl rfl Try.func65 (by kernel_rfl) rfl #[.string a0] rfl (by (try simp only [List.map_toArray, List.map_cons, List.map_nil]); first | done | rfl | (simp only [List.length_drop, List.length_take]; rfl)) ?_; (with_reducible refine (Go.Proofs.Ytapfidadgafpbaa.R.runes.calls a0 t102 _ A2.out).mono ?_); rintro e w4 ⟨v103, rfl, ho0, hb⟩; refine ⟨_, rfl, ?_⟩; have n0_ := Aside0.mk (Kd.R_lower ho0 (below_size (by repeat (first | (with_reducible first | exact HB.out | apply below_alloc | apply pw_below_drewN | apply below_drew1) | exact HB.out)))); have n1_ := Aside0.mk (below_step (by repeat (first | (with_reducible first | exact HB.out | apply below_alloc | apply pw_below_drewN | apply below_drew1) | exact HB.out)) hb); clear HB; have HO104 := n0_; have HB := n1_; clear n0_ n1_; (try clear hb); (try clear hb2); (try clear hk); (try clear hi); (try clear ho0)))
  (try simp only [Act.put, List.setIfInBounds_toArray, List.set_cons_zero, List.set_cons_succ])
  go_cut [20] (fun v20 wc => ∃ (kq : Nat) (x20_2 : Bool), v20 = .bool x20_2 ∧ Aside0 (bailiwickref02_Right.j0 kq t102 x20_2 = some r) ∧ Aside0 (kq ≤ k) ∧ Aside0 (Kd.R (Kd.int .i64) 3 wc w.heap.size (fun _ => True) v103 t102) ∧ Aside0 (Below w.heap.size w wc))
  case first =>
    have H := HC3.out
    clear HC3
    by_cases c5 : (t102.length : Int) < 1
    · rw [if_pos c5] at H
      have c5b0 : decide ((t102.length : Int) < 1) = true := decide_eq_true c5
      have c5b1 : decide (t102.length < 1) = true := decide_eq_true (by omega)
      clear c5
      (first | rw [c5b0] | (simp only [i64_w, i32_w]; rw [c5b0]) | skip)
      have H' := Aside0.mk H
      clear H
      obtain ⟨Ao6, co6, eo6⟩ := Kd.R_slice HO104.out
      subst eo6
      go_wp2
      go_meet
      case rel => exact ⟨_, (true), (by first | rfl | (simp; done) | (simp [*]; done)), H', ⟨by first | omega | exact Nat.le_refl _⟩, ⟨by (with_reducible repeat (first | apply Kd.R_alloc | apply Kd.R_drewN | apply Kd.R_drew)); exact HO104.out⟩, ⟨by repeat (first | (with_reducible first | exact HB.out | apply below_alloc | apply pw_below_drewN | apply below_drew1) | exact HB.out)⟩⟩
    · rw [if_neg c5] at H
      have c5b0 : decide ((t102.length : Int) < 1) = false := decide_eq_false c5
      have c5b1 : decide (t102.length < 1) = false := decide_eq_false (by omega)
      clear c5
      (first | rw [c5b0] | (simp only [i64_w, i32_w]; rw [c5b0]) | skip)
      by_cases c7 : (t102.length : Int) > 16
      · rw [if_pos c7] at H
        have c7b0 : decide (16 < (t102.length : Int)) = true := decide_eq_true c7
        have c7b1 : decide (16 < t102.length) = true := decide_eq_true (by omega)
        clear c7
        have H' := Aside0.mk H
        clear H
        obtain ⟨Ao8, co8, eo8⟩ := Kd.R_slice HO104.out
        subst eo8
        go_wp2
        go_meet
        case rel => exact ⟨_, (true), (by first | rfl | (simp; done) | (simp [*]; done)), H', ⟨by first | omega | exact Nat.le_refl _⟩, ⟨by (with_reducible repeat (first | apply Kd.R_alloc | apply Kd.R_drewN | apply Kd.R_drew)); exact HO104.out⟩, ⟨by repeat (first | (with_reducible first | exact HB.out | apply below_alloc | apply pw_below_drewN | apply below_drew1) | exact HB.out)⟩⟩
      · rw [if_neg c7] at H
        have c7b0 : decide (16 < (t102.length : Int)) = false := decide_eq_false c7
        have c7b1 : decide (16 < t102.length) = false := decide_eq_false (by omega)
        clear c7
        have H' := Aside0.mk H
        clear H
        obtain ⟨Ao9, co9, eo9⟩ := Kd.R_slice HO104.out
        subst eo9
        go_wp2
        go_meet
        case rel => exact ⟨_, (decide ((a0.size : Int) > 32)), (by first | rfl | (simp; done) | (simp [*]; done)), H', ⟨by first | omega | exact Nat.le_refl _⟩, ⟨by (with_reducible repeat (first | apply Kd.R_alloc | apply Kd.R_drewN | apply Kd.R_drew)); exact HO104.out⟩, ⟨by repeat (first | (with_reducible first | exact HB.out | apply below_alloc | apply pw_below_drewN | apply below_drew1) | exact HB.out)⟩⟩
  case rest =>
    clear HC3
    try clear p2
    try clear c5
    try clear c5b0
    try clear c5b1
    try clear c6
    try clear c7
    try clear c7b0
    try clear c7b1
    obtain ⟨kq, x20_2, rfl, HA, HJ2, HO_3, HB⟩ := hcut
    cases kq with
    | zero => exact absurd HA.out (by simp [bailiwickref02_Right.j0])
    | succ kj2 =>
      have H := HA.out
      clear HA
      simp only [bailiwickref02_Right.j0] at H
      by_cases c10 : x20_2 = true
      · subst c10
        have H1 : (some false) = some r := by rw [if_pos rfl] at H; exact H
        clear H
        have H := H1
        clear H1
        obtain rfl := Option.some.inj H
        go_wp2
        go_ret
        exact ⟨by first | rfl | (simp [errW_none, errW_some] <;> rfl) | (simp [*, errW_none, errW_some] <;> rfl), by repeat (first | (with_reducible first | exact HB.out | apply below_alloc | apply pw_below_drewN | apply below_drew1) | exact HB.out)⟩
      · replace c10 := Bool.eq_false_iff.mpr c10
        subst c10
        have H1 : (bailiwickref02_Right.l0 kj2 t102 0) = some r := by rw [if_neg (show ¬ (false = true) by decide)] at H; exact H
        clear H
        have H := H1
        clear H1
        have H' := Aside0.mk H
        clear H
        go_wp2
        go_loopg [4] kj2 (fun kq v4 w' => ∃ (x4_2 : Int), v4 = .int .i64 x4_2 ∧ Aside0 (bailiwickref02_Right.l0 kq t102 x4_2 = some r) ∧ Aside0 (kq ≤ kj2) ∧ Aside0 (Kd.R (Kd.int .i64) 3 w' w.heap.size (fun _ => True) v103 t102) ∧ Aside0 (Below w.heap.size w w'))
        case atStart => exact ⟨(0), (by first | rfl | (simp; done) | (simp [*]; done)), H', ⟨Nat.le_refl _⟩, ⟨by (with_reducible repeat (first | apply Kd.R_alloc | apply Kd.R_drewN | apply Kd.R_drew)); exact HO_3.out⟩, ⟨by repeat (first | (with_reducible first | exact HB.out | apply below_alloc | apply pw_below_drewN | apply below_drew1) | exact HB.out)⟩⟩
        case round =>
          clear H'
          try clear c1
          try clear p2
          try clear c5
          try clear c5b0
          try clear c5b1
          try clear c6
          try clear c7
          try clear c7b0
          try clear c7b1
          try clear c10
          try clear p2
          obtain ⟨x4_2, rfl, HA, HK2, HO_3, HB⟩ := hrel
          cases gk with
          | zero => exact absurd HA.out (by simp [bailiwickref02_Right.l0])
          | succ k2 =>
            have H := HA.out
            clear HA
            simp only [bailiwickref02_Right.l0] at H
            by_cases c11 : x4_2 < (t102.length : Int)
            · rw [if_pos c11] at H
              have c11b0 : decide (x4_2 < (t102.length : Int)) = true := decide_eq_true c11
              clear c11
              by_cases c12 : 0 ≤ x4_2
              · rw [if_pos c12] at H
                have c12b0 : decide (0 ≤ x4_2) = true := decide_eq_true c12
                clear c12
                by_cases c13 : (rd t102 x4_2) = 45
                · rw [if_pos c13] at H
                  have c13b0 : ((rd t102 x4_2) == 45) = true := beq_iff_eq.mpr c13
                  have c13b1 : ((rd t102 x4_2) != 45) = false := bne_eq_false_iff_eq.mpr c13
                  clear c13
                  by_cases c14 : x4_2 = 0
                  · rw [if_pos c14] at H
                    have c14b0 : (x4_2 == 0) = true := beq_iff_eq.mpr c14
                    have c14b1 : (x4_2 != 0) = false := bne_eq_false_iff_eq.mpr c14
                    clear c14
                    obtain rfl := Option.some.inj H
                    obtain ⟨Ao15, co15, eo15⟩ := Kd.R_slice HO_3.out
                    subst eo15
                    have p105 : 0 ≤ (x4_2 : Int) := of_decide_eq_true (by first | (with_reducible assumption) | assumption)
                    have q105 : x4_2 < (t102.length : Int) := of_decide_eq_true (by first | (with_reducible assumption) | assumption)
                    obtain ⟨ad105, e105, hx105_0⟩ := Kd.at_int (Kd.R_reads' HO_3.out).2.2 x4_2 p105 q105
                    cases e105
                    replace p105 := eq_true p105
                    replace q105 := eq_true q105
                    go_wp2
                    go_ret
                    exact ⟨by first | rfl | (simp [errW_none, errW_some] <;> rfl) | (simp [*, errW_none, errW_some] <;> rfl), by repeat (first | (with_reducible first | exact HB.out | apply below_alloc | apply pw_below_drewN | apply below_drew1) | exact HB.out)⟩
                  · rw [if_neg c14] at H
                    have c14b0 : (x4_2 == 0) = false := beq_eq_false_iff_ne.mpr c14
                    have c14b1 : (x4_2 != 0) = true := bne_iff_ne.mpr c14
                    by_cases c16 : x4_2 = (wrap64 ((t102.length : Int) - 1))
                    · rw [if_pos c16] at H
                      have c16b0 : (x4_2 == (wrap64 ((t102.length : Int) - 1))) = true := beq_iff_eq.mpr c16
                      have c16b1 : (x4_2 != (wrap64 ((t102.length : Int) - 1))) = false := bne_eq_false_iff_eq.mpr c16
                      clear c16
                      obtain rfl := Option.some.inj H
                      obtain ⟨Ao17, co17, eo17⟩ := Kd.R_slice HO_3.out
                      subst eo17
                      have p105 : 0 ≤ (x4_2 : Int) := of_decide_eq_true (by first | (with_reducible assumption) | assumption)
                      have q105 : x4_2 < (t102.length : Int) := of_decide_eq_true (by first | (with_reducible assumption) | assumption)
                      obtain ⟨ad105, e105, hx105_0⟩ := Kd.at_int (Kd.R_reads' HO_3.out).2.2 x4_2 p105 q105
                      cases e105
                      replace p105 := eq_true p105
                      replace q105 := eq_true q105
                      go_wp2
                      go_ret
                      exact ⟨by first | rfl | (simp [errW_none, errW_some] <;> rfl) | (simp [*, errW_none, errW_some] <;> rfl), by repeat (first | (with_reducible first | exact HB.out | apply below_alloc | apply pw_below_drewN | apply below_drew1) | exact HB.out)⟩
                    · rw [if_neg c16] at H
                      have c16b0 : (x4_2 == (wrap64 ((t102.length : Int) - 1))) = false := beq_eq_false_iff_ne.mpr c16
                      have c16b1 : (x4_2 != (wrap64 ((t102.length : Int) - 1))) = true := bne_iff_ne.mpr c16
                      by_cases c18 : x4_2 > 0
                      · rw [if_pos c18] at H
                        have c18b0 : decide (0 < x4_2) = true := decide_eq_true c18
                        clear c18
                        by_cases c19 : (rd t102 x4_2) = 46
                        · rw [if_pos c19] at H
                          have c19b0 : ((rd t102 x4_2) == 46) = true := beq_iff_eq.mpr c19
                          have c19b1 : ((rd t102 x4_2) != 46) = false := bne_eq_false_iff_eq.mpr c19
                          clear c19
                          obtain ⟨ji20, hji20⟩ : ∃ j_ : Int, (wrap64 (x4_2 - 1)) = j_ := ⟨_, rfl⟩
                          replace H : (if 0 ≤ (ji20) then (if (ji20) < (t102.length : Int) then (if (rd t102 (ji20)) = 46 then (some false) else (bailiwickref02_Right.l0 k2 t102 (wrap64 (x4_2 + 1)))) else (none)) else (none)) = some r := by first | (rw [hji20] at H; exact H) | (simp only [hji20] at H ⊢; exact H)
                          have hji20w : (IntKind.i64.wrap (x4_2 - 1)) = ji20 := (i64_w _).trans hji20
                          by_cases c21 : 0 ≤ (ji20)
                          · rw [if_pos c21] at H
                            have c21b0 : decide (0 ≤ (ji20)) = true := decide_eq_true c21
                            clear c21
                            by_cases c22 : (ji20) < (t102.length : Int)
                            · rw [if_pos c22] at H
                              have c22b0 : decide ((ji20) < (t102.length : Int)) = true := decide_eq_true c22
                              clear c22
                              by_cases c23 : (rd t102 (ji20)) = 46
                              · rw [if_pos c23] at H
                                have c23b0 : ((rd t102 (ji20)) == 46) = true := beq_iff_eq.mpr c23
                                have c23b1 : ((rd t102 (ji20)) != 46) = false := bne_eq_false_iff_eq.mpr c23
                                clear c23
                                obtain rfl := Option.some.inj H
                                obtain ⟨Ao24, co24, eo24⟩ := Kd.R_slice HO_3.out
                                subst eo24
                                have p105 : 0 ≤ (x4_2 : Int) := of_decide_eq_true (by first | (with_reducible assumption) | assumption)
                                have q105 : x4_2 < (t102.length : Int) := of_decide_eq_true (by first | (with_reducible assumption) | assumption)
                                obtain ⟨ad105, e105, hx105_0⟩ := Kd.at_int (Kd.R_reads' HO_3.out).2.2 x4_2 p105 q105
                                cases e105
                                replace p105 := eq_true p105
                                replace q105 := eq_true q105
                                have p106 : 0 ≤ (x4_2 : Int) := of_decide_eq_true (by first | (with_reducible assumption) | assumption)
                                have q106 : x4_2 < (t102.length : Int) := of_decide_eq_true (by first | (with_reducible assumption) | assumption)
                                obtain ⟨ad106, e106, hx106_0⟩ := Kd.at_int (Kd.R_reads' HO_3.out).2.2 x4_2 p106 q106
                                obtain rfl : ad105 = ad106 := (by injection e106)
                                replace p106 := eq_true p106
                                replace q106 := eq_true q106
                                have p107 : 0 ≤ ((ji20) : Int) := of_decide_eq_true (by first | (with_reducible assumption) | assumption)
                                have q107 : (ji20) < (t102.length : Int) := of_decide_eq_true (by first | (with_reducible assumption) | assumption)
                                obtain ⟨ad107, e107, hx107_0⟩ := Kd.at_int (Kd.R_reads' HO_3.out).2.2 (ji20) p107 q107
                                obtain rfl : ad105 = ad107 := (by injection e107)
                                replace p107 := eq_true p107
                                replace q107 := eq_true q107
                                go_wp2
                                go_ret
                                exact ⟨by first | rfl | (simp [errW_none, errW_some] <;> rfl) | (simp only [← hji20]; first | rfl | (simp [errW_none, errW_some] <;> rfl)) | (simp [*, errW_none, errW_some] <;> rfl), by repeat (first | (with_reducible first | exact HB.out | apply below_alloc | apply pw_below_drewN | apply below_drew1) | exact HB.out)⟩
                              · rw [if_neg c23] at H
                                have c23b0 : ((rd t102 (ji20)) == 46) = false := beq_eq_false_iff_ne.mpr c23
                                have c23b1 : ((rd t102 (ji20)) != 46) = true := bne_iff_ne.mpr c23
                                have H' := Aside0.mk H
                                clear H
                                obtain ⟨Ao25, co25, eo25⟩ := Kd.R_slice HO_3.out
                                subst eo25
                                have p105 : 0 ≤ (x4_2 : Int) := of_decide_eq_true (by first | (with_reducible assumption) | assumption)
                                have q105 : x4_2 < (t102.length : Int) := of_decide_eq_true (by first | (with_reducible assumption) | assumption)
                                obtain ⟨ad105, e105, hx105_0⟩ := Kd.at_int (Kd.R_reads' HO_3.out).2.2 x4_2 p105 q105
                                cases e105
                                replace p105 := eq_true p105
                                replace q105 := eq_true q105
                                have p106 : 0 ≤ (x4_2 : Int) := of_decide_eq_true (by first | (with_reducible assumption) | assumption)
                                have q106 : x4_2 < (t102.length : Int) := of_decide_eq_true (by first | (with_reducible assumption) | assumption)
                                obtain ⟨ad106, e106, hx106_0⟩ := Kd.at_int (Kd.R_reads' HO_3.out).2.2 x4_2 p106 q106
                                obtain rfl : ad105 = ad106 := (by injection e106)
                                replace p106 := eq_true p106
                                replace q106 := eq_true q106
                                have p107 : 0 ≤ ((ji20) : Int) := of_decide_eq_true (by first | (with_reducible assumption) | assumption)
                                have q107 : (ji20) < (t102.length : Int) := of_decide_eq_true (by first | (with_reducible assumption) | assumption)
                                obtain ⟨ad107, e107, hx107_0⟩ := Kd.at_int (Kd.R_reads' HO_3.out).2.2 (ji20) p107 q107
                                obtain rfl : ad105 = ad107 := (by injection e107)
                                replace p107 := eq_true p107
                                replace q107 := eq_true q107
                                go_wp2
                                go_roundg k2
                                case measure => have := HJ2.out; have := HK2.out; omega
                                case rel => exact ⟨(wrap64 (x4_2 + 1)), (by first | rfl | (simp; done) | (simp [*]; done)), H', ⟨by have := HJ2.out; have := HK2.out; omega⟩, ⟨by (with_reducible repeat (first | apply Kd.R_alloc | apply Kd.R_drewN | apply Kd.R_drew)); exact HO_3.out⟩, ⟨by repeat (first | (with_reducible first | exact HB.out | apply below_alloc | apply pw_below_drewN | apply below_drew1) | exact HB.out)⟩⟩
                            · rw [if_neg c22] at H
                              exact absurd H (by simp)
                          · rw [if_neg c21] at H
                            exact absurd H (by simp)
                        · rw [if_neg c19] at H
                          have c19b0 : ((rd t102 x4_2) == 46) = false := beq_eq_false_iff_ne.mpr c19
                          have c19b1 : ((rd t102 x4_2) != 46) = true := bne_iff_ne.mpr c19
                          have H' := Aside0.mk H
                          clear H
                          obtain ⟨Ao26, co26, eo26⟩ := Kd.R_slice HO_3.out
                          subst eo26
                          have p105 : 0 ≤ (x4_2 : Int) := of_decide_eq_true (by first | (with_reducible assumption) | assumption)
                          have q105 : x4_2 < (t102.length : Int) := of_decide_eq_true (by first | (with_reducible assumption) | assumption)
                          obtain ⟨ad105, e105, hx105_0⟩ := Kd.at_int (Kd.R_reads' HO_3.out).2.2 x4_2 p105 q105
                          cases e105
                          replace p105 := eq_true p105
                          replace q105 := eq_true q105
                          have p106 : 0 ≤ (x4_2 : Int) := of_decide_eq_true (by first | (with_reducible assumption) | assumption)
                          have q106 : x4_2 < (t102.length : Int) := of_decide_eq_true (by first | (with_reducible assumption) | assumption)
                          obtain ⟨ad106, e106, hx106_0⟩ := Kd.at_int (Kd.R_reads' HO_3.out).2.2 x4_2 p106 q106
                          obtain rfl : ad105 = ad106 := (by injection e106)
                          replace p106 := eq_true p106
                          replace q106 := eq_true q106
                          go_wp2
                          go_roundg k2
                          case measure => have := HJ2.out; have := HK2.out; omega
                          case rel => exact ⟨(wrap64 (x4_2 + 1)), (by first | rfl | (simp; done) | (simp [*]; done)), H', ⟨by have := HJ2.out; have := HK2.out; omega⟩, ⟨by (with_reducible repeat (first | apply Kd.R_alloc | apply Kd.R_drewN | apply Kd.R_drew)); exact HO_3.out⟩, ⟨by repeat (first | (with_reducible first | exact HB.out | apply below_alloc | apply pw_below_drewN | apply below_drew1) | exact HB.out)⟩⟩
                      · exact absurd (show x4_2 = 0 by have h_ := of_decide_eq_true c12b0; omega) (by simpa using c14b0)
                · rw [if_neg c13] at H
                  have c13b0 : ((rd t102 x4_2) == 45) = false := beq_eq_false_iff_ne.mpr c13
                  have c13b1 : ((rd t102 x4_2) != 45) = true := bne_iff_ne.mpr c13
                  by_cases c28 : ((rd t102 x4_2) = 46)
                  · rw [if_pos c28] at H
                    have c28b0 : ((rd t102 x4_2) == 46) = true := beq_iff_eq.mpr c28
                    have c28b1 : ((rd t102 x4_2) != 46) = false := bne_eq_false_iff_eq.mpr c28
                    clear c28
                    by_cases c29 : (rd t102 x4_2) = 46
                    · rw [if_pos c29] at H
                      have c29b0 : ((rd t102 x4_2) == 46) = true := beq_iff_eq.mpr c29
                      have c29b1 : ((rd t102 x4_2) != 46) = false := bne_eq_false_iff_eq.mpr c29
                      clear c29
                      by_cases c30 : x4_2 = 0
                      · rw [if_pos c30] at H
                        have c30b0 : (x4_2 == 0) = true := beq_iff_eq.mpr c30
                        have c30b1 : (x4_2 != 0) = false := bne_eq_false_iff_eq.mpr c30
                        clear c30
                        obtain rfl := Option.some.inj H
                        obtain ⟨Ao31, co31, eo31⟩ := Kd.R_slice HO_3.out
                        subst eo31
                        have p105 : 0 ≤ (x4_2 : Int) := of_decide_eq_true (by first | (with_reducible assumption) | assumption)
                        have q105 : x4_2 < (t102.length : Int) := of_decide_eq_true (by first | (with_reducible assumption) | assumption)
                        obtain ⟨ad105, e105, hx105_0⟩ := Kd.at_int (Kd.R_reads' HO_3.out).2.2 x4_2 p105 q105
                        cases e105
                        replace p105 := eq_true p105
                        replace q105 := eq_true q105
                        have p108 : 0 ≤ (x4_2 : Int) := of_decide_eq_true (by first | (with_reducible assumption) | assumption)
                        have q108 : x4_2 < (t102.length : Int) := of_decide_eq_true (by first | (with_reducible assumption) | assumption)
                        obtain ⟨ad108, e108, hx108_0⟩ := Kd.at_int (Kd.R_reads' HO_3.out).2.2 x4_2 p108 q108
                        obtain rfl : ad105 = ad108 := (by injection e108)
                        replace p108 := eq_true p108
                        replace q108 := eq_true q108
                        go_wp2
                        go_ret
                        exact ⟨by first | rfl | (simp [errW_none, errW_some] <;> rfl) | (simp [*, errW_none, errW_some] <;> rfl), by repeat (first | (with_reducible first | exact HB.out | apply below_alloc | apply pw_below_drewN | apply below_drew1) | exact HB.out)⟩
                      · rw [if_neg c30] at H
                        have c30b0 : (x4_2 == 0) = false := beq_eq_false_iff_ne.mpr c30
                        have c30b1 : (x4_2 != 0) = true := bne_iff_ne.mpr c30
                        by_cases c32 : x4_2 = (wrap64 ((t102.length : Int) - 1))
                        · rw [if_pos c32] at H
                          have c32b0 : (x4_2 == (wrap64 ((t102.length : Int) - 1))) = true := beq_iff_eq.mpr c32
                          have c32b1 : (x4_2 != (wrap64 ((t102.length : Int) - 1))) = false := bne_eq_false_iff_eq.mpr c32
                          clear c32
                          obtain rfl := Option.some.inj H
                          obtain ⟨Ao33, co33, eo33⟩ := Kd.R_slice HO_3.out
                          subst eo33
                          have p105 : 0 ≤ (x4_2 : Int) := of_decide_eq_true (by first | (with_reducible assumption) | assumption)
                          have q105 : x4_2 < (t102.length : Int) := of_decide_eq_true (by first | (with_reducible assumption) | assumption)
                          obtain ⟨ad105, e105, hx105_0⟩ := Kd.at_int (Kd.R_reads' HO_3.out).2.2 x4_2 p105 q105
                          cases e105
                          replace p105 := eq_true p105
                          replace q105 := eq_true q105
                          have p108 : 0 ≤ (x4_2 : Int) := of_decide_eq_true (by first | (with_reducible assumption) | assumption)
                          have q108 : x4_2 < (t102.length : Int) := of_decide_eq_true (by first | (with_reducible assumption) | assumption)
                          obtain ⟨ad108, e108, hx108_0⟩ := Kd.at_int (Kd.R_reads' HO_3.out).2.2 x4_2 p108 q108
                          obtain rfl : ad105 = ad108 := (by injection e108)
                          replace p108 := eq_true p108
                          replace q108 := eq_true q108
                          go_wp2
                          go_ret
                          exact ⟨by first | rfl | (simp [errW_none, errW_some] <;> rfl) | (simp [*, errW_none, errW_some] <;> rfl), by repeat (first | (with_reducible first | exact HB.out | apply below_alloc | apply pw_below_drewN | apply below_drew1) | exact HB.out)⟩
                        · rw [if_neg c32] at H
                          have c32b0 : (x4_2 == (wrap64 ((t102.length : Int) - 1))) = false := beq_eq_false_iff_ne.mpr c32
                          have c32b1 : (x4_2 != (wrap64 ((t102.length : Int) - 1))) = true := bne_iff_ne.mpr c32
                          by_cases c34 : x4_2 > 0
                          · rw [if_pos c34] at H
                            have c34b0 : decide (0 < x4_2) = true := decide_eq_true c34
                            clear c34
                            obtain ⟨ji35, hji35⟩ : ∃ j_ : Int, (wrap64 (x4_2 - 1)) = j_ := ⟨_, rfl⟩
                            replace H : (if 0 ≤ (ji35) then (if (ji35) < (t102.length : Int) then (if (rd t102 (ji35)) = 46 then (some false) else (bailiwickref02_Right.l0 k2 t102 (wrap64 (x4_2 + 1)))) else (none)) else (none)) = some r := by first | (rw [hji35] at H; exact H) | (simp only [hji35] at H ⊢; exact H)
                            have hji35w : (IntKind.i64.wrap (x4_2 - 1)) = ji35 := (i64_w _).trans hji35
                            by_cases c36 : 0 ≤ (ji35)
                            · rw [if_pos c36] at H
                              have c36b0 : decide (0 ≤ (ji35)) = true := decide_eq_true c36
                              clear c36
                              by_cases c37 : (ji35) < (t102.length : Int)
                              · rw [if_pos c37] at H
                                have c37b0 : decide ((ji35) < (t102.length : Int)) = true := decide_eq_true c37
                                clear c37
                                by_cases c38 : (rd t102 (ji35)) = 46
                                · rw [if_pos c38] at H
                                  have c38b0 : ((rd t102 (ji35)) == 46) = true := beq_iff_eq.mpr c38
                                  have c38b1 : ((rd t102 (ji35)) != 46) = false := bne_eq_false_iff_eq.mpr c38
                                  clear c38
                                  obtain rfl := Option.some.inj H
                                  obtain ⟨Ao39, co39, eo39⟩ := Kd.R_slice HO_3.out
                                  subst eo39
                                  have p105 : 0 ≤ (x4_2 : Int) := of_decide_eq_true (by first | (with_reducible assumption) | assumption)
                                  have q105 : x4_2 < (t102.length : Int) := of_decide_eq_true (by first | (with_reducible assumption) | assumption)
                                  obtain ⟨ad105, e105, hx105_0⟩ := Kd.at_int (Kd.R_reads' HO_3.out).2.2 x4_2 p105 q105
                                  cases e105
                                  replace p105 := eq_true p105
                                  replace q105 := eq_true q105
                                  have p108 : 0 ≤ (x4_2 : Int) := of_decide_eq_true (by first | (with_reducible assumption) | assumption)
                                  have q108 : x4_2 < (t102.length : Int) := of_decide_eq_true (by first | (with_reducible assumption) | assumption)
                                  obtain ⟨ad108, e108, hx108_0⟩ := Kd.at_int (Kd.R_reads' HO_3.out).2.2 x4_2 p108 q108
                                  obtain rfl : ad105 = ad108 := (by injection e108)
                                  replace p108 := eq_true p108
                                  replace q108 := eq_true q108
                                  have p109 : 0 ≤ (x4_2 : Int) := of_decide_eq_true (by first | (with_reducible assumption) | assumption)
                                  have q109 : x4_2 < (t102.length : Int) := of_decide_eq_true (by first | (with_reducible assumption) | assumption)
                                  obtain ⟨ad109, e109, hx109_0⟩ := Kd.at_int (Kd.R_reads' HO_3.out).2.2 x4_2 p109 q109
                                  obtain rfl : ad105 = ad109 := (by injection e109)
                                  replace p109 := eq_true p109
                                  replace q109 := eq_true q109
                                  have p110 : 0 ≤ ((ji35) : Int) := of_decide_eq_true (by first | (with_reducible assumption) | assumption)
                                  have q110 : (ji35) < (t102.length : Int) := of_decide_eq_true (by first | (with_reducible assumption) | assumption)
                                  obtain ⟨ad110, e110, hx110_0⟩ := Kd.at_int (Kd.R_reads' HO_3.out).2.2 (ji35) p110 q110
                                  obtain rfl : ad105 = ad110 := (by injection e110)
                                  replace p110 := eq_true p110
                                  replace q110 := eq_true q110
                                  go_wp2
                                  go_ret
                                  exact ⟨by first | rfl | (simp [errW_none, errW_some] <;> rfl) | (simp only [← hji35]; first | rfl | (simp [errW_none, errW_some] <;> rfl)) | (simp [*, errW_none, errW_some] <;> rfl), by repeat (first | (with_reducible first | exact HB.out | apply below_alloc | apply pw_below_drewN | apply below_drew1) | exact HB.out)⟩
                                · rw [if_neg c38] at H
                                  have c38b0 : ((rd t102 (ji35)) == 46) = false := beq_eq_false_iff_ne.mpr c38
                                  have c38b1 : ((rd t102 (ji35)) != 46) = true := bne_iff_ne.mpr c38
                                  have H' := Aside0.mk H
                                  clear H
                                  obtain ⟨Ao40, co40, eo40⟩ := Kd.R_slice HO_3.out
                                  subst eo40
                                  have p105 : 0 ≤ (x4_2 : Int) := of_decide_eq_true (by first | (with_reducible assumption) | assumption)
                                  have q105 : x4_2 < (t102.length : Int) := of_decide_eq_true (by first | (with_reducible assumption) | assumption)
                                  obtain ⟨ad105, e105, hx105_0⟩ := Kd.at_int (Kd.R_reads' HO_3.out).2.2 x4_2 p105 q105
                                  cases e105
                                  replace p105 := eq_true p105
                                  replace q105 := eq_true q105
                                  have p108 : 0 ≤ (x4_2 : Int) := of_decide_eq_true (by first | (with_reducible assumption) | assumption)
                                  have q108 : x4_2 < (t102.length : Int) := of_decide_eq_true (by first | (with_reducible assumption) | assumption)
                                  obtain ⟨ad108, e108, hx108_0⟩ := Kd.at_int (Kd.R_reads' HO_3.out).2.2 x4_2 p108 q108
                                  obtain rfl : ad105 = ad108 := (by injection e108)
                                  replace p108 := eq_true p108
                                  replace q108 := eq_true q108
                                  have p109 : 0 ≤ (x4_2 : Int) := of_decide_eq_true (by first | (with_reducible assumption) | assumption)
                                  have q109 : x4_2 < (t102.length : Int) := of_decide_eq_true (by first | (with_reducible assumption) | assumption)
                                  obtain ⟨ad109, e109, hx109_0⟩ := Kd.at_int (Kd.R_reads' HO_3.out).2.2 x4_2 p109 q109
                                  obtain rfl : ad105 = ad109 := (by injection e109)
                                  replace p109 := eq_true p109
                                  replace q109 := eq_true q109
                                  have p110 : 0 ≤ ((ji35) : Int) := of_decide_eq_true (by first | (with_reducible assumption) | assumption)
                                  have q110 : (ji35) < (t102.length : Int) := of_decide_eq_true (by first | (with_reducible assumption) | assumption)
                                  obtain ⟨ad110, e110, hx110_0⟩ := Kd.at_int (Kd.R_reads' HO_3.out).2.2 (ji35) p110 q110
                                  obtain rfl : ad105 = ad110 := (by injection e110)
                                  replace p110 := eq_true p110
                                  replace q110 := eq_true q110
                                  go_wp2
                                  go_roundg k2
                                  case measure => have := HJ2.out; have := HK2.out; omega
                                  case rel => exact ⟨(wrap64 (x4_2 + 1)), (by first | rfl | (simp; done) | (simp [*]; done)), H', ⟨by have := HJ2.out; have := HK2.out; omega⟩, ⟨by (with_reducible repeat (first | apply Kd.R_alloc | apply Kd.R_drewN | apply Kd.R_drew)); exact HO_3.out⟩, ⟨by repeat (first | (with_reducible first | exact HB.out | apply below_alloc | apply pw_below_drewN | apply below_drew1) | exact HB.out)⟩⟩
                              · rw [if_neg c37] at H
                                exact absurd H (by simp)
                            · rw [if_neg c36] at H
                              exact absurd H (by simp)
                          · exact absurd (show x4_2 = 0 by have h_ := of_decide_eq_true c12b0; omega) (by simpa using c30b0)
                    · exact absurd (beq_iff_eq.1 c28b0) c29
                  · rw [if_neg c28] at H
                    have c28b0 : ((rd t102 x4_2) == 46) = false := beq_eq_false_iff_ne.mpr c28
                    have c28b1 : ((rd t102 x4_2) != 46) = true := bne_iff_ne.mpr c28
                    replace H := Option.bind_eq_some_iff.mp H
                    obtain ⟨t113, A450, H⟩ := H
                    replace H : (if t113 = true then (if (rd t102 x4_2) = 46 then (if x4_2 = 0 then (some false) else (if x4_2 = (wrap64 ((t102.length : Int) - 1)) then (some false) else (if x4_2 > 0 then (if 0 ≤ (wrap64 (x4_2 - 1)) then (if (wrap64 (x4_2 - 1)) < (t102.length : Int) then (if (rd t102 (wrap64 (x4_2 - 1))) = 46 then (some false) else (bailiwickref02_Right.l0 k2 t102 (wrap64 (x4_2 + 1)))) else (none)) else (none)) else (bailiwickref02_Right.l0 k2 t102 (wrap64 (x4_2 + 1)))))) else (if x4_2 > 0 then (bailiwickref02_Right.l0 k2 t102 (wrap64 (x4_2 + 1))) else (bailiwickref02_Right.l0 k2 t102 (wrap64 (x4_2 + 1))))) else (some false)) = some r := H
                    have A45 := Aside0.mk A450
                    clear A450
                    by_cases c46 : t113 = true
                    · subst c46
                      have H1 : (if (rd t102 x4_2) = 46 then (if x4_2 = 0 then (some false) else (if x4_2 = (wrap64 ((t102.length : Int) - 1)) then (some false) else (if x4_2 > 0 then (if 0 ≤ (wrap64 (x4_2 - 1)) then (if (wrap64 (x4_2 - 1)) < (t102.length : Int) then (if (rd t102 (wrap64 (x4_2 - 1))) = 46 then (some false) else (bailiwickref02_Right.l0 k2 t102 (wrap64 (x4_2 + 1)))) else (none)) else (none)) else (bailiwickref02_Right.l0 k2 t102 (wrap64 (x4_2 + 1)))))) else (if x4_2 > 0 then (bailiwickref02_Right.l0 k2 t102 (wrap64 (x4_2 + 1))) else (bailiwickref02_Right.l0 k2 t102 (wrap64 (x4_2 + 1))))) = some r := by rw [if_pos rfl] at H; exact H
                      clear H
                      have H := H1
                      clear H1
                      by_cases c47 : (rd t102 x4_2) = 46
                      · exact absurd c47 (beq_eq_false_iff_ne.1 c28b0)
                      · rw [if_neg c47] at H
                        have c47b0 : ((rd t102 x4_2) == 46) = false := beq_eq_false_iff_ne.mpr c47
                        have c47b1 : ((rd t102 x4_2) != 46) = true := bne_iff_ne.mpr c47
                        by_cases c60 : x4_2 > 0
                        · rw [if_pos c60] at H
                          have c60b0 : decide (0 < x4_2) = true := decide_eq_true c60
                          clear c60
                          have H' := Aside0.mk H
                          clear H
                          obtain ⟨Ao61, co61, eo61⟩ := Kd.R_slice HO_3.out
                          subst eo61
                          have p105 : 0 ≤ (x4_2 : Int) := of_decide_eq_true (by first | (with_reducible assumption) | assumption)
                          have q105 : x4_2 < (t102.length : Int) := of_decide_eq_true (by first | (with_reducible assumption) | assumption)
                          obtain ⟨ad105, e105, hx105_0⟩ := Kd.at_int (Kd.R_reads' HO_3.out).2.2 x4_2 p105 q105
                          cases e105
                          replace p105 := eq_true p105
                          replace q105 := eq_true q105
                          have p108 : 0 ≤ (x4_2 : Int) := of_decide_eq_true (by first | (with_reducible assumption) | assumption)
                          have q108 : x4_2 < (t102.length : Int) := of_decide_eq_true (by first | (with_reducible assumption) | assumption)
                          obtain ⟨ad108, e108, hx108_0⟩ := Kd.at_int (Kd.R_reads' HO_3.out).2.2 x4_2 p108 q108
                          obtain rfl : ad105 = ad108 := (by injection e108)
                          replace p108 := eq_true p108
                          replace q108 := eq_true q108
                          have p112 : 0 ≤ (x4_2 : Int) := of_decide_eq_true (by first | (with_reducible assumption) | assumption)
                          have q112 : x4_2 < (t102.length : Int) := of_decide_eq_true (by first | (with_reducible assumption) | assumption)
                          obtain ⟨ad112, e112, hx112_0⟩ := Kd.at_int (Kd.R_reads' HO_3.out).2.2 x4_2 p112 q112
                          obtain rfl : ad105 = ad112 := (by injection e112)
                          replace p112 := eq_true p112
                          replace q112 := eq_true q112
                          go_wp2_with (first | (go_at_call 66; (with_reducible refine (Go.Proofs.Ytapfidadgafpbaa.P.bailiwickref02_letter.calls (rd t102 x4_2) true _ A45.out).mono ?_); rintro e w' ⟨rfl, ⟨nd, rfl⟩⟩; have p116 : 0 ≤ (x4_2 : Int) := of_decide_eq_true (by first | (with_reducible assumption) | assumption); have q116 : x4_2 < (t102.length : Int) := of_decide_eq_true (by first | (with_reducible assumption) | assumption); obtain ⟨ad116, e116, hx116_0⟩ := Kd.at_int (Kd.R_reads' HO_3.out).2.2 x4_2 p116 q116; obtain rfl : ad105 = ad116 := (by injection e116); replace p116 := eq_true p116; replace q116 := eq_true q116))
                          go_roundg k2
                          case measure => have := HJ2.out; have := HK2.out; omega
                          case rel => exact ⟨(wrap64 (x4_2 + 1)), (by first | rfl | (simp; done) | (simp [*]; done)), H', ⟨by have := HJ2.out; have := HK2.out; omega⟩, ⟨by (with_reducible repeat (first | apply Kd.R_alloc | apply Kd.R_drewN | apply Kd.R_drew)); exact HO_3.out⟩, ⟨by repeat (first | (with_reducible first | exact HB.out | apply below_alloc | apply pw_below_drewN | apply below_drew1) | exact HB.out)⟩⟩
                        · rw [if_neg c60] at H
                          have c60b0 : decide (0 < x4_2) = false := decide_eq_false c60
                          clear c60
                          have H' := Aside0.mk H
                          clear H
                          obtain ⟨Ao62, co62, eo62⟩ := Kd.R_slice HO_3.out
                          subst eo62
                          have p105 : 0 ≤ (x4_2 : Int) := of_decide_eq_true (by first | (with_reducible assumption) | assumption)
                          have q105 : x4_2 < (t102.length : Int) := of_decide_eq_true (by first | (with_reducible assumption) | assumption)
                          obtain ⟨ad105, e105, hx105_0⟩ := Kd.at_int (Kd.R_reads' HO_3.out).2.2 x4_2 p105 q105
                          cases e105
                          replace p105 := eq_true p105
                          replace q105 := eq_true q105
                          have p108 : 0 ≤ (x4_2 : Int) := of_decide_eq_true (by first | (with_reducible assumption) | assumption)
                          have q108 : x4_2 < (t102.length : Int) := of_decide_eq_true (by first | (with_reducible assumption) | assumption)
                          obtain ⟨ad108, e108, hx108_0⟩ := Kd.at_int (Kd.R_reads' HO_3.out).2.2 x4_2 p108 q108
                          obtain rfl : ad105 = ad108 := (by injection e108)
                          replace p108 := eq_true p108
                          replace q108 := eq_true q108
                          have p112 : 0 ≤ (x4_2 : Int) := of_decide_eq_true (by first | (with_reducible assumption) | assumption)
                          have q112 : x4_2 < (t102.length : Int) := of_decide_eq_true (by first | (with_reducible assumption) | assumption)
                          obtain ⟨ad112, e112, hx112_0⟩ := Kd.at_int (Kd.R_reads' HO_3.out).2.2 x4_2 p112 q112
                          obtain rfl : ad105 = ad112 := (by injection e112)
                          replace p112 := eq_true p112
                          replace q112 := eq_true q112
                          go_wp2_with (first | (go_at_call 66; (with_reducible refine (Go.Proofs.Ytapfidadgafpbaa.P.bailiwickref02_letter.calls (rd t102 x4_2) true _ A45.out).mono ?_); rintro e w' ⟨rfl, ⟨nd, rfl⟩⟩))
                          go_roundg k2
                          case measure => have := HJ2.out; have := HK2.out; omega
                          case rel => exact ⟨(wrap64 (x4_2 + 1)), (by first | rfl | (simp; done) | (simp [*]; done)), H', ⟨by have := HJ2.out; have := HK2.out; omega⟩, ⟨by (with_reducible repeat (first | apply Kd.R_alloc | apply Kd.R_drewN | apply Kd.R_drew)); exact HO_3.out⟩, ⟨by repeat (first | (with_reducible first | exact HB.out | apply below_alloc | apply pw_below_drewN | apply below_drew1) | exact HB.out)⟩⟩
                    · replace c46 := Bool.eq_false_iff.mpr c46
                      subst c46
                      have H1 : (some false) = some r := by rw [if_neg (show ¬ (false = true) by decide)] at H; exact H
                      clear H
                      have H := H1
                      clear H1
                      obtain rfl := Option.some.inj H
                      obtain ⟨Ao63, co63, eo63⟩ := Kd.R_slice HO_3.out
                      subst eo63
                      have p105 : 0 ≤ (x4_2 : Int) := of_decide_eq_true (by first | (with_reducible assumption) | assumption)
                      have q105 : x4_2 < (t102.length : Int) := of_decide_eq_true (by first | (with_reducible assumption) | assumption)
                      obtain ⟨ad105, e105, hx105_0⟩ := Kd.at_int (Kd.R_reads' HO_3.out).2.2 x4_2 p105 q105
                      cases e105
                      replace p105 := eq_true p105
                      replace q105 := eq_true q105
                      have p108 : 0 ≤ (x4_2 : Int) := of_decide_eq_true (by first | (with_reducible assumption) | assumption)
                      have q108 : x4_2 < (t102.length : Int) := of_decide_eq_true (by first | (with_reducible assumption) | assumption)
                      obtain ⟨ad108, e108, hx108_0⟩ := Kd.at_int (Kd.R_reads' HO_3.out).2.2 x4_2 p108 q108
                      obtain rfl : ad105 = ad108 := (by injection e108)
                      replace p108 := eq_true p108
                      replace q108 := eq_true q108
                      have p112 : 0 ≤ (x4_2 : Int) := of_decide_eq_true (by first | (with_reducible assumption) | assumption)
                      have q112 : x4_2 < (t102.length : Int) := of_decide_eq_true (by first | (with_reducible assumption) | assumption)
                      obtain ⟨ad112, e112, hx112_0⟩ := Kd.at_int (Kd.R_reads' HO_3.out).2.2 x4_2 p112 q112
                      obtain rfl : ad105 = ad112 := (by injection e112)
                      replace p112 := eq_true p112
                      replace q112 := eq_true q112
                      go_wp2_with (first | (go_at_call 66; (with_reducible refine (Go.Proofs.Ytapfidadgafpbaa.P.bailiwickref02_letter.calls (rd t102 x4_2) false _ A45.out).mono ?_); rintro e w' ⟨rfl, ⟨nd, rfl⟩⟩))
                      go_ret
                      exact ⟨by first | rfl | (simp [errW_none, errW_some] <;> rfl) | (simp [*, errW_none, errW_some] <;> rfl), by repeat (first | (with_reducible first | exact HB.out | apply below_alloc | apply pw_below_drewN | apply below_drew1) | exact HB.out)⟩
              · rw [if_neg c12] at H
                exact absurd H (by simp)
            · rw [if_neg c11] at H
              have c11b0 : decide (x4_2 < (t102.length : Int)) = false := decide_eq_false c11
              clear c11
              obtain rfl := Option.some.inj H
              obtain ⟨Ao64, co64, eo64⟩ := Kd.R_slice HO_3.out
              subst eo64
              go_wp2
              go_ret
              exact ⟨by first | rfl | (simp [errW_none, errW_some] <;> rfl) | (simp [*, errW_none, errW_some] <;> rfl), by repeat (first | (with_reducible first | exact HB.out | apply below_alloc | apply pw_below_drewN | apply below_drew1) | exact HB.out)⟩

-- NOT PRINTED: function 48 (bailiwickref02_Fold)

-- NOT PRINTED: function 28 (bailiwickref14_OwnerRight)

-- PROVED BY HAND: function 35 (bailiwickref01_Put)

-- PROVED BY HAND: function 36 (bailiwickref14_put)

-- PROVED BY HAND: function 44 (bailiwickref01_Text)

-- NOT PRINTED: function 24 (bailiwickref14_PutOwner)

-- PROVED BY HAND: function 58 (num_Take)

-- NOT PRINTED: function 38 (rec_reader_number)

end Go.Proofs.Ytapfidadgafpbaa.O
