-- Written by a program of this session (gp.py), which drives the print with some lines turned. Not trusted: Lean checks it.
import Derived.Test.YtipfiodeakapdaaDoorOx0
namespace Go.Proofs.YtipfiodeakapdaaDoor.O
open Go.RowKit Go.Proofs.YtipfiodeakapdaaDoorW.PrintWords Go.Proofs.YtipfiodeakapdaaDoorW.PrintLast Go.Proofs.YtipfiodeakapdaaDoorW.PrintMore
attribute [local go_sem] max2_int min2_int max_two min_two max_three min_three max_four min_four P.emod_u8 P.emod_u16 P.emod_u32
set_option linter.unusedVariables false
set_option linter.unusedSimpArgs false

/-! ### bailiwickref02_Right: function 16 -/
mutual
def bailiwickref02_Right.j0 : Nat → List Int → Bool → Option (Bool)
  | 0, _, _ => none
  | k + 1, x3, x20 => if x20 = true then (some false) else (bailiwickref02_Right.l0 k x3 0)
def bailiwickref02_Right.l0 : Nat → List Int → Int → Option (Bool)
  | 0, _, _ => none
  | k + 1, x3, x4 => if x4 < (x3.length : Int) then (if 0 ≤ x4 then (if (rd x3 x4) = 45 then (if x4 = 0 then (some false) else (if x4 = (wrap64 ((x3.length : Int) - 1)) then (some false) else (if x4 > 0 then (if (rd x3 x4) = 46 then (if 0 ≤ (wrap64 (x4 - 1)) then (if (wrap64 (x4 - 1)) < (x3.length : Int) then (if (rd x3 (wrap64 (x4 - 1))) = 46 then (some false) else (bailiwickref02_Right.l0 k x3 (wrap64 (x4 + 1)))) else (none)) else (none)) else (bailiwickref02_Right.l0 k x3 (wrap64 (x4 + 1)))) else (bailiwickref02_Right.l0 k x3 (wrap64 (x4 + 1)))))) else (if ((rd x3 x4) = 46) then (if (rd x3 x4) = 46 then (if x4 = 0 then (some false) else (if x4 = (wrap64 ((x3.length : Int) - 1)) then (some false) else (if x4 > 0 then (if 0 ≤ (wrap64 (x4 - 1)) then (if (wrap64 (x4 - 1)) < (x3.length : Int) then (if (rd x3 (wrap64 (x4 - 1))) = 46 then (some false) else (bailiwickref02_Right.l0 k x3 (wrap64 (x4 + 1)))) else (none)) else (none)) else (bailiwickref02_Right.l0 k x3 (wrap64 (x4 + 1)))))) else (if x4 > 0 then (bailiwickref02_Right.l0 k x3 (wrap64 (x4 + 1))) else (bailiwickref02_Right.l0 k x3 (wrap64 (x4 + 1))))) else ((Go.Proofs.YtipfiodeakapdaaDoor.P.bailiwickref02_letter.f (rd x3 x4)).bind fun t133 => (if t133 = true then (if (rd x3 x4) = 46 then (if x4 = 0 then (some false) else (if x4 = (wrap64 ((x3.length : Int) - 1)) then (some false) else (if x4 > 0 then (if 0 ≤ (wrap64 (x4 - 1)) then (if (wrap64 (x4 - 1)) < (x3.length : Int) then (if (rd x3 (wrap64 (x4 - 1))) = 46 then (some false) else (bailiwickref02_Right.l0 k x3 (wrap64 (x4 + 1)))) else (none)) else (none)) else (bailiwickref02_Right.l0 k x3 (wrap64 (x4 + 1)))))) else (if x4 > 0 then (bailiwickref02_Right.l0 k x3 (wrap64 (x4 + 1))) else (bailiwickref02_Right.l0 k x3 (wrap64 (x4 + 1))))) else (some false))))) else (none)) else (some true)
end
def bailiwickref02_Right.f (k : Nat) (a0 : ByteArray) : Option (Bool) := (Go.Proofs.YtipfiodeakapdaaDoor.R.runes.f a0).bind fun t122 => (if (t122.length : Int) < 1 then (bailiwickref02_Right.j0 k t122 true) else (if (t122.length : Int) > 16 then (bailiwickref02_Right.j0 k t122 true) else (bailiwickref02_Right.j0 k t122 (decide ((a0.size : Int) > 32)))))
theorem bailiwickref02_Right.mono_l : ∀ k, (∀ y0 y1, LeO (bailiwickref02_Right.j0 k y0 y1) (bailiwickref02_Right.j0 (k + 1) y0 y1)) ∧ (∀ y0 y1, LeO (bailiwickref02_Right.l0 k y0 y1) (bailiwickref02_Right.l0 (k + 1) y0 y1))
  | 0 => ⟨fun _ _ r h => by simp [bailiwickref02_Right.j0] at h, fun _ _ r h => by simp [bailiwickref02_Right.l0] at h⟩
  | k + 1 => by
    obtain ⟨ih0, ih1⟩ := bailiwickref02_Right.mono_l k
    refine ⟨?_, ?_⟩
    · intro y0 y1
      unfold bailiwickref02_Right.j0
      repeat' first
      | (with_reducible exact ih0 _ _)
      | (with_reducible exact ih1 _ _)
      | (with_reducible exact LeO.refl _)
      | (with_reducible exact LeO.none _)
      | (with_reducible refine LeO.ite ?_ ?_)
      | (with_reducible refine LeO.bind ?_ (fun _ => ?_))
      | exact ih0 _ _
      | exact ih1 _ _
      | exact LeO.none _
      | refine LeO.ite ?_ ?_
      | refine LeO.bind ?_ (fun _ => ?_)
    · intro y0 y1
      unfold bailiwickref02_Right.l0
      repeat' first
      | (with_reducible exact ih0 _ _)
      | (with_reducible exact ih1 _ _)
      | (with_reducible exact LeO.refl _)
      | (with_reducible exact LeO.none _)
      | (with_reducible refine LeO.ite ?_ ?_)
      | (with_reducible refine LeO.bind ?_ (fun _ => ?_))
      | exact ih0 _ _
      | exact ih1 _ _
      | exact LeO.none _
      | refine LeO.ite ?_ ?_
      | refine LeO.bind ?_ (fun _ => ?_)
theorem bailiwickref02_Right.mono : ∀ a0 k, LeO (bailiwickref02_Right.f k a0) (bailiwickref02_Right.f (k + 1) a0) := by
  intro a0 k
  obtain ⟨ih0, ih1⟩ := bailiwickref02_Right.mono_l k
  unfold bailiwickref02_Right.f
  repeat' first
      | (with_reducible exact ih0 _ _)
      | (with_reducible exact ih1 _ _)
      | (with_reducible exact LeO.refl _)
      | (with_reducible exact LeO.none _)
      | (with_reducible refine LeO.ite ?_ ?_)
      | (with_reducible refine LeO.bind ?_ (fun _ => ?_))
      | exact ih0 _ _
      | exact ih1 _ _
      | exact LeO.none _
      | refine LeO.ite ?_ ?_
      | refine LeO.bind ?_ (fun _ => ?_)
set_option maxHeartbeats 8000000 in
set_option maxRecDepth 100000 in
theorem bailiwickref02_Right.calls (k : Nat) (a0 : ByteArray) (r : Bool) (w : World) (h : bailiwickref02_Right.f k a0 = some r) :
    Calls Tryd.prog 16 #[.string a0] w fun e w' => e = .returned (.bool r) ∧ Below w.heap.size w w' := by
  have HB := Aside0.mk (Below.refl w.heap.size w)
  have H : ((Go.Proofs.YtipfiodeakapdaaDoor.R.runes.f a0).bind fun t122 => (if (t122.length : Int) < 1 then (bailiwickref02_Right.j0 k t122 true) else (if (t122.length : Int) > 16 then (bailiwickref02_Right.j0 k t122 true) else (bailiwickref02_Right.j0 k t122 (decide ((a0.size : Int) > 32)))))) = some r := h
  clear h
  replace H := Option.bind_eq_some_iff.mp H
  obtain ⟨t122, A20, H⟩ := H
  replace H : (if (t122.length : Int) < 1 then (bailiwickref02_Right.j0 k t122 true) else (if (t122.length : Int) > 16 then (bailiwickref02_Right.j0 k t122 true) else (bailiwickref02_Right.j0 k t122 (decide ((a0.size : Int) > 32))))) = some r := H
  have A2 := Aside0.mk A20
  clear A20
  have HC3 := Aside0.mk H
  clear H
  go_enter Tryd.func16, Tryd.ntmps16
  (try dsimp only [List.append])
  go_upto_region 2 with (first | ((with_reducible refine gate_callee (f := 24) rfl ?_); refine goesL_ (some 7) rfl rfl Tryd.func24 (by kernel_rfl) rfl #[.string a0] rfl (by (try simp only [List.map_toArray, List.map_cons, List.map_nil]); first | done | rfl | (simp only [List.length_drop, List.length_take]; rfl)) ?_; (with_reducible refine (Go.Proofs.YtipfiodeakapdaaDoor.R.runes.calls a0 t122 _ A2.out).mono ?_); rintro e w4 ⟨v123, rfl, ho0, hb⟩; refine ⟨_, rfl, ?_⟩; have n0_ := Aside0.mk (Kd.R_lower ho0 (below_size (by repeat (first | (with_reducible first | exact HB.out | apply below_alloc | apply pw_below_drewN | apply below_drew1) | exact HB.out)))); have n1_ := Aside0.mk (below_step (by repeat (first | (with_reducible first | exact HB.out | apply below_alloc | apply pw_below_drewN | apply below_drew1) | exact HB.out)) hb); clear HB; have HO124 := n0_; have HB := n1_; clear n0_ n1_; (try clear hb); (try clear hb2); (try clear hk); (try clear hi); (try clear ho0)))
  (try simp only [Act.put, List.setIfInBounds_toArray, List.set_cons_zero, List.set_cons_succ])
  go_cut [20] (fun v20 wc => ∃ (kq : Nat) (x20_2 : Bool), v20 = .bool x20_2 ∧ Aside0 (bailiwickref02_Right.j0 kq t122 x20_2 = some r) ∧ Aside0 (kq ≤ k) ∧ Aside0 (Kd.R (Kd.int .i64) 3 wc w.heap.size (fun _ => True) v123 t122) ∧ Aside0 (Below w.heap.size w wc))
  case first =>
    have H := HC3.out
    clear HC3
    by_cases c5 : (t122.length : Int) < 1
    · rw [if_pos c5] at H
      have c5b0 : decide ((t122.length : Int) < 1) = true := decide_eq_true c5
      have c5b1 : decide (t122.length < 1) = true := decide_eq_true (by omega)
      clear c5
      (first | rw [c5b0] | (simp only [i64_w, i32_w]; rw [c5b0]) | skip)
      have H' := Aside0.mk H
      clear H
      obtain ⟨Ao6, co6, eo6⟩ := Kd.R_slice HO124.out
      subst eo6
      go_wp2
      go_meet
      case rel => exact ⟨_, (true), (by first | rfl | (simp; done) | (simp [*]; done)), H', ⟨by first | omega | exact Nat.le_refl _⟩, ⟨by (with_reducible repeat (first | apply Kd.R_alloc | apply Kd.R_drewN | apply Kd.R_drew)); exact HO124.out⟩, ⟨by repeat (first | (with_reducible first | exact HB.out | apply below_alloc | apply pw_below_drewN | apply below_drew1) | exact HB.out)⟩⟩
    · rw [if_neg c5] at H
      have c5b0 : decide ((t122.length : Int) < 1) = false := decide_eq_false c5
      have c5b1 : decide (t122.length < 1) = false := decide_eq_false (by omega)
      clear c5
      (first | rw [c5b0] | (simp only [i64_w, i32_w]; rw [c5b0]) | skip)
      by_cases c7 : (t122.length : Int) > 16
      · rw [if_pos c7] at H
        have c7b0 : decide (16 < (t122.length : Int)) = true := decide_eq_true c7
        have c7b1 : decide (16 < t122.length) = true := decide_eq_true (by omega)
        clear c7
        have H' := Aside0.mk H
        clear H
        obtain ⟨Ao8, co8, eo8⟩ := Kd.R_slice HO124.out
        subst eo8
        go_wp2
        go_meet
        case rel => exact ⟨_, (true), (by first | rfl | (simp; done) | (simp [*]; done)), H', ⟨by first | omega | exact Nat.le_refl _⟩, ⟨by (with_reducible repeat (first | apply Kd.R_alloc | apply Kd.R_drewN | apply Kd.R_drew)); exact HO124.out⟩, ⟨by repeat (first | (with_reducible first | exact HB.out | apply below_alloc | apply pw_below_drewN | apply below_drew1) | exact HB.out)⟩⟩
      · rw [if_neg c7] at H
        have c7b0 : decide (16 < (t122.length : Int)) = false := decide_eq_false c7
        have c7b1 : decide (16 < t122.length) = false := decide_eq_false (by omega)
        clear c7
        have H' := Aside0.mk H
        clear H
        obtain ⟨Ao9, co9, eo9⟩ := Kd.R_slice HO124.out
        subst eo9
        go_wp2
        go_meet
        case rel => exact ⟨_, (decide ((a0.size : Int) > 32)), (by first | rfl | (simp; done) | (simp [*]; done)), H', ⟨by first | omega | exact Nat.le_refl _⟩, ⟨by (with_reducible repeat (first | apply Kd.R_alloc | apply Kd.R_drewN | apply Kd.R_drew)); exact HO124.out⟩, ⟨by repeat (first | (with_reducible first | exact HB.out | apply below_alloc | apply pw_below_drewN | apply below_drew1) | exact HB.out)⟩⟩
  case rest =>
    clear HC3
    try clear c1
    try clear c2
    try clear p2
    try clear c5
    try clear c5b0
    try clear c5b1
    try clear c7
    try clear c7b0
    try clear c7b1
    obtain ⟨kq, x20_2, rfl, HA, HJ2, HO_3, HB⟩ := hcut
    cases kq with
    | zero => exact absurd HA.out (by simp [bailiwickref02_Right.j0])
    | succ kj2 =>
      have H := HA.out
      clear HA
      simp only [bailiwickref02_Right.j0] at H
      by_cases c10 : x20_2 = true
      · subst c10
        have H1 : (some false) = some r := by rw [if_pos rfl] at H; exact H
        clear H
        have H := H1
        clear H1
        obtain rfl := Option.some.inj H
        go_wp2
        go_ret
        exact ⟨by first | rfl | (simp [errW_none, errW_some] <;> rfl) | (simp [*, errW_none, errW_some] <;> rfl), by repeat (first | (with_reducible first | exact HB.out | apply below_alloc | apply pw_below_drewN | apply below_drew1) | exact HB.out)⟩
      · replace c10 := Bool.eq_false_iff.mpr c10
        subst c10
        have H1 : (bailiwickref02_Right.l0 kj2 t122 0) = some r := by rw [if_neg (show ¬ (false = true) by decide)] at H; exact H
        clear H
        have H := H1
        clear H1
        have H' := Aside0.mk H
        clear H
        go_wp2
        go_loopg [4] kj2 (fun kq v4 w' => ∃ (x4_2 : Int), v4 = .int .i64 x4_2 ∧ Aside0 (bailiwickref02_Right.l0 kq t122 x4_2 = some r) ∧ Aside0 (kq ≤ kj2) ∧ Aside0 (Kd.R (Kd.int .i64) 3 w' w.heap.size (fun _ => True) v123 t122) ∧ Aside0 (Below w.heap.size w w'))
        case atStart => exact ⟨(0), (by first | rfl | (simp; done) | (simp [*]; done)), H', ⟨Nat.le_refl _⟩, ⟨by (with_reducible repeat (first | apply Kd.R_alloc | apply Kd.R_drewN | apply Kd.R_drew)); exact HO_3.out⟩, ⟨by repeat (first | (with_reducible first | exact HB.out | apply below_alloc | apply pw_below_drewN | apply below_drew1) | exact HB.out)⟩⟩
        case round =>
          clear H'
          try clear c1
          try clear c2
          try clear p2
          try clear c5
          try clear c5b0
          try clear c5b1
          try clear c7
          try clear c7b0
          try clear c7b1
          try clear c10
          try clear p2
          obtain ⟨x4_2, rfl, HA, HK2, HO_3, HB⟩ := hrel
          cases gk with
          | zero => exact absurd HA.out (by simp [bailiwickref02_Right.l0])
          | succ k2 =>
            have H := HA.out
            clear HA
            simp only [bailiwickref02_Right.l0] at H
            by_cases c11 : x4_2 < (t122.length : Int)
            · rw [if_pos c11] at H
              have c11b0 : decide (x4_2 < (t122.length : Int)) = true := decide_eq_true c11
              clear c11
              by_cases c12 : 0 ≤ x4_2
              · rw [if_pos c12] at H
                have c12b0 : decide (0 ≤ x4_2) = true := decide_eq_true c12
                clear c12
                by_cases c13 : (rd t122 x4_2) = 45
                · rw [if_pos c13] at H
                  have c13b0 : ((rd t122 x4_2) == 45) = true := beq_iff_eq.mpr c13
                  have c13b1 : ((rd t122 x4_2) != 45) = false := bne_eq_false_iff_eq.mpr c13
                  clear c13
                  by_cases c14 : x4_2 = 0
                  · rw [if_pos c14] at H
                    have c14b0 : (x4_2 == 0) = true := beq_iff_eq.mpr c14
                    have c14b1 : (x4_2 != 0) = false := bne_eq_false_iff_eq.mpr c14
                    clear c14
                    obtain rfl := Option.some.inj H
                    obtain ⟨Ao15, co15, eo15⟩ := Kd.R_slice HO_3.out
                    subst eo15
                    have p125 : 0 ≤ (x4_2 : Int) := of_decide_eq_true (by first | (with_reducible assumption) | assumption)
                    have q125 : x4_2 < (t122.length : Int) := of_decide_eq_true (by first | (with_reducible assumption) | assumption)
                    obtain ⟨ad125, e125, hx125_0⟩ := Kd.at_int (Kd.R_reads' HO_3.out).2.2 x4_2 p125 q125
                    cases e125
                    replace p125 := eq_true p125
                    replace q125 := eq_true q125
                    go_wp2
                    go_ret
                    exact ⟨by first | rfl | (simp [errW_none, errW_some] <;> rfl) | (simp [*, errW_none, errW_some] <;> rfl), by repeat (first | (with_reducible first | exact HB.out | apply below_alloc | apply pw_below_drewN | apply below_drew1) | exact HB.out)⟩
                  · rw [if_neg c14] at H
                    have c14b0 : (x4_2 == 0) = false := beq_eq_false_iff_ne.mpr c14
                    have c14b1 : (x4_2 != 0) = true := bne_iff_ne.mpr c14
                    by_cases c16 : x4_2 = (wrap64 ((t122.length : Int) - 1))
                    · rw [if_pos c16] at H
                      have c16b0 : (x4_2 == (wrap64 ((t122.length : Int) - 1))) = true := beq_iff_eq.mpr c16
                      have c16b1 : (x4_2 != (wrap64 ((t122.length : Int) - 1))) = false := bne_eq_false_iff_eq.mpr c16
                      clear c16
                      obtain rfl := Option.some.inj H
                      obtain ⟨Ao17, co17, eo17⟩ := Kd.R_slice HO_3.out
                      subst eo17
                      have p125 : 0 ≤ (x4_2 : Int) := of_decide_eq_true (by first | (with_reducible assumption) | assumption)
                      have q125 : x4_2 < (t122.length : Int) := of_decide_eq_true (by first | (with_reducible assumption) | assumption)
                      obtain ⟨ad125, e125, hx125_0⟩ := Kd.at_int (Kd.R_reads' HO_3.out).2.2 x4_2 p125 q125
                      cases e125
                      replace p125 := eq_true p125
                      replace q125 := eq_true q125
                      go_wp2
                      go_ret
                      exact ⟨by first | rfl | (simp [errW_none, errW_some] <;> rfl) | (simp [*, errW_none, errW_some] <;> rfl), by repeat (first | (with_reducible first | exact HB.out | apply below_alloc | apply pw_below_drewN | apply below_drew1) | exact HB.out)⟩
                    · rw [if_neg c16] at H
                      have c16b0 : (x4_2 == (wrap64 ((t122.length : Int) - 1))) = false := beq_eq_false_iff_ne.mpr c16
                      have c16b1 : (x4_2 != (wrap64 ((t122.length : Int) - 1))) = true := bne_iff_ne.mpr c16
                      by_cases c18 : x4_2 > 0
                      · rw [if_pos c18] at H
                        have c18b0 : decide (0 < x4_2) = true := decide_eq_true c18
                        clear c18
                        by_cases c19 : (rd t122 x4_2) = 46
                        · rw [if_pos c19] at H
                          have c19b0 : ((rd t122 x4_2) == 46) = true := beq_iff_eq.mpr c19
                          have c19b1 : ((rd t122 x4_2) != 46) = false := bne_eq_false_iff_eq.mpr c19
                          clear c19
                          obtain ⟨ji20, hji20⟩ : ∃ j_ : Int, (wrap64 (x4_2 - 1)) = j_ := ⟨_, rfl⟩
                          replace H : (if 0 ≤ (ji20) then (if (ji20) < (t122.length : Int) then (if (rd t122 (ji20)) = 46 then (some false) else (bailiwickref02_Right.l0 k2 t122 (wrap64 (x4_2 + 1)))) else (none)) else (none)) = some r := by first | (rw [hji20] at H; exact H) | (simp only [hji20] at H ⊢; exact H)
                          have hji20w : (IntKind.i64.wrap (x4_2 - 1)) = ji20 := (i64_w _).trans hji20
                          by_cases c21 : 0 ≤ (ji20)
                          · rw [if_pos c21] at H
                            have c21b0 : decide (0 ≤ (ji20)) = true := decide_eq_true c21
                            clear c21
                            by_cases c22 : (ji20) < (t122.length : Int)
                            · rw [if_pos c22] at H
                              have c22b0 : decide ((ji20) < (t122.length : Int)) = true := decide_eq_true c22
                              clear c22
                              by_cases c23 : (rd t122 (ji20)) = 46
                              · rw [if_pos c23] at H
                                have c23b0 : ((rd t122 (ji20)) == 46) = true := beq_iff_eq.mpr c23
                                have c23b1 : ((rd t122 (ji20)) != 46) = false := bne_eq_false_iff_eq.mpr c23
                                clear c23
                                obtain rfl := Option.some.inj H
                                obtain ⟨Ao24, co24, eo24⟩ := Kd.R_slice HO_3.out
                                subst eo24
                                have p125 : 0 ≤ (x4_2 : Int) := of_decide_eq_true (by first | (with_reducible assumption) | assumption)
                                have q125 : x4_2 < (t122.length : Int) := of_decide_eq_true (by first | (with_reducible assumption) | assumption)
                                obtain ⟨ad125, e125, hx125_0⟩ := Kd.at_int (Kd.R_reads' HO_3.out).2.2 x4_2 p125 q125
                                cases e125
                                replace p125 := eq_true p125
                                replace q125 := eq_true q125
                                have p126 : 0 ≤ (x4_2 : Int) := of_decide_eq_true (by first | (with_reducible assumption) | assumption)
                                have q126 : x4_2 < (t122.length : Int) := of_decide_eq_true (by first | (with_reducible assumption) | assumption)
                                obtain ⟨ad126, e126, hx126_0⟩ := Kd.at_int (Kd.R_reads' HO_3.out).2.2 x4_2 p126 q126
                                obtain rfl : ad125 = ad126 := (by injection e126)
                                replace p126 := eq_true p126
                                replace q126 := eq_true q126
                                have p127 : 0 ≤ ((ji20) : Int) := of_decide_eq_true (by first | (with_reducible assumption) | assumption)
                                have q127 : (ji20) < (t122.length : Int) := of_decide_eq_true (by first | (with_reducible assumption) | assumption)
                                obtain ⟨ad127, e127, hx127_0⟩ := Kd.at_int (Kd.R_reads' HO_3.out).2.2 (ji20) p127 q127
                                obtain rfl : ad125 = ad127 := (by injection e127)
                                replace p127 := eq_true p127
                                replace q127 := eq_true q127
                                go_wp2
                                go_ret
                                exact ⟨by first | rfl | (simp [errW_none, errW_some] <;> rfl) | (simp only [← hji20]; first | rfl | (simp [errW_none, errW_some] <;> rfl)) | (simp [*, errW_none, errW_some] <;> rfl), by repeat (first | (with_reducible first | exact HB.out | apply below_alloc | apply pw_below_drewN | apply below_drew1) | exact HB.out)⟩
                              · rw [if_neg c23] at H
                                have c23b0 : ((rd t122 (ji20)) == 46) = false := beq_eq_false_iff_ne.mpr c23
                                have c23b1 : ((rd t122 (ji20)) != 46) = true := bne_iff_ne.mpr c23
                                have H' := Aside0.mk H
                                clear H
                                obtain ⟨Ao25, co25, eo25⟩ := Kd.R_slice HO_3.out
                                subst eo25
                                have p125 : 0 ≤ (x4_2 : Int) := of_decide_eq_true (by first | (with_reducible assumption) | assumption)
                                have q125 : x4_2 < (t122.length : Int) := of_decide_eq_true (by first | (with_reducible assumption) | assumption)
                                obtain ⟨ad125, e125, hx125_0⟩ := Kd.at_int (Kd.R_reads' HO_3.out).2.2 x4_2 p125 q125
                                cases e125
                                replace p125 := eq_true p125
                                replace q125 := eq_true q125
                                have p126 : 0 ≤ (x4_2 : Int) := of_decide_eq_true (by first | (with_reducible assumption) | assumption)
                                have q126 : x4_2 < (t122.length : Int) := of_decide_eq_true (by first | (with_reducible assumption) | assumption)
                                obtain ⟨ad126, e126, hx126_0⟩ := Kd.at_int (Kd.R_reads' HO_3.out).2.2 x4_2 p126 q126
                                obtain rfl : ad125 = ad126 := (by injection e126)
                                replace p126 := eq_true p126
                                replace q126 := eq_true q126
                                have p127 : 0 ≤ ((ji20) : Int) := of_decide_eq_true (by first | (with_reducible assumption) | assumption)
                                have q127 : (ji20) < (t122.length : Int) := of_decide_eq_true (by first | (with_reducible assumption) | assumption)
                                obtain ⟨ad127, e127, hx127_0⟩ := Kd.at_int (Kd.R_reads' HO_3.out).2.2 (ji20) p127 q127
                                obtain rfl : ad125 = ad127 := (by injection e127)
                                replace p127 := eq_true p127
                                replace q127 := eq_true q127
                                go_wp2
                                go_roundg k2
                                case measure => have := HJ2.out; have := HK2.out; omega
                                case rel => exact ⟨(wrap64 (x4_2 + 1)), (by first | rfl | (simp; done) | (simp [*]; done)), H', ⟨by have := HJ2.out; have := HK2.out; omega⟩, ⟨by (with_reducible repeat (first | apply Kd.R_alloc | apply Kd.R_drewN | apply Kd.R_drew)); exact HO_3.out⟩, ⟨by repeat (first | (with_reducible first | exact HB.out | apply below_alloc | apply pw_below_drewN | apply below_drew1) | exact HB.out)⟩⟩
                            · rw [if_neg c22] at H
                              exact absurd H (by simp)
                          · rw [if_neg c21] at H
                            exact absurd H (by simp)
                        · rw [if_neg c19] at H
                          have c19b0 : ((rd t122 x4_2) == 46) = false := beq_eq_false_iff_ne.mpr c19
                          have c19b1 : ((rd t122 x4_2) != 46) = true := bne_iff_ne.mpr c19
                          have H' := Aside0.mk H
                          clear H
                          obtain ⟨Ao26, co26, eo26⟩ := Kd.R_slice HO_3.out
                          subst eo26
                          have p125 : 0 ≤ (x4_2 : Int) := of_decide_eq_true (by first | (with_reducible assumption) | assumption)
                          have q125 : x4_2 < (t122.length : Int) := of_decide_eq_true (by first | (with_reducible assumption) | assumption)
                          obtain ⟨ad125, e125, hx125_0⟩ := Kd.at_int (Kd.R_reads' HO_3.out).2.2 x4_2 p125 q125
                          cases e125
                          replace p125 := eq_true p125
                          replace q125 := eq_true q125
                          have p126 : 0 ≤ (x4_2 : Int) := of_decide_eq_true (by first | (with_reducible assumption) | assumption)
                          have q126 : x4_2 < (t122.length : Int) := of_decide_eq_true (by first | (with_reducible assumption) | assumption)
                          obtain ⟨ad126, e126, hx126_0⟩ := Kd.at_int (Kd.R_reads' HO_3.out).2.2 x4_2 p126 q126
                          obtain rfl : ad125 = ad126 := (by injection e126)
                          replace p126 := eq_true p126
                          replace q126 := eq_true q126
                          go_wp2
                          go_roundg k2
                          case measure => have := HJ2.out; have := HK2.out; omega
                          case rel => exact ⟨(wrap64 (x4_2 + 1)), (by first | rfl | (simp; done) | (simp [*]; done)), H', ⟨by have := HJ2.out; have := HK2.out; omega⟩, ⟨by (with_reducible repeat (first | apply Kd.R_alloc | apply Kd.R_drewN | apply Kd.R_drew)); exact HO_3.out⟩, ⟨by repeat (first | (with_reducible first | exact HB.out | apply below_alloc | apply pw_below_drewN | apply below_drew1) | exact HB.out)⟩⟩
                      · exact absurd (show x4_2 = 0 by have h_ := of_decide_eq_true c12b0; omega) (by simpa using c14b0)
                · rw [if_neg c13] at H
                  have c13b0 : ((rd t122 x4_2) == 45) = false := beq_eq_false_iff_ne.mpr c13
                  have c13b1 : ((rd t122 x4_2) != 45) = true := bne_iff_ne.mpr c13
                  by_cases c28 : ((rd t122 x4_2) = 46)
                  · rw [if_pos c28] at H
                    have c28b0 : ((rd t122 x4_2) == 46) = true := beq_iff_eq.mpr c28
                    have c28b1 : ((rd t122 x4_2) != 46) = false := bne_eq_false_iff_eq.mpr c28
                    clear c28
                    by_cases c29 : (rd t122 x4_2) = 46
                    · rw [if_pos c29] at H
                      have c29b0 : ((rd t122 x4_2) == 46) = true := beq_iff_eq.mpr c29
                      have c29b1 : ((rd t122 x4_2) != 46) = false := bne_eq_false_iff_eq.mpr c29
                      clear c29
                      by_cases c30 : x4_2 = 0
                      · rw [if_pos c30] at H
                        have c30b0 : (x4_2 == 0) = true := beq_iff_eq.mpr c30
                        have c30b1 : (x4_2 != 0) = false := bne_eq_false_iff_eq.mpr c30
                        clear c30
                        obtain rfl := Option.some.inj H
                        obtain ⟨Ao31, co31, eo31⟩ := Kd.R_slice HO_3.out
                        subst eo31
                        have p125 : 0 ≤ (x4_2 : Int) := of_decide_eq_true (by first | (with_reducible assumption) | assumption)
                        have q125 : x4_2 < (t122.length : Int) := of_decide_eq_true (by first | (with_reducible assumption) | assumption)
                        obtain ⟨ad125, e125, hx125_0⟩ := Kd.at_int (Kd.R_reads' HO_3.out).2.2 x4_2 p125 q125
                        cases e125
                        replace p125 := eq_true p125
                        replace q125 := eq_true q125
                        have p128 : 0 ≤ (x4_2 : Int) := of_decide_eq_true (by first | (with_reducible assumption) | assumption)
                        have q128 : x4_2 < (t122.length : Int) := of_decide_eq_true (by first | (with_reducible assumption) | assumption)
                        obtain ⟨ad128, e128, hx128_0⟩ := Kd.at_int (Kd.R_reads' HO_3.out).2.2 x4_2 p128 q128
                        obtain rfl : ad125 = ad128 := (by injection e128)
                        replace p128 := eq_true p128
                        replace q128 := eq_true q128
                        go_wp2
                        go_ret
                        exact ⟨by first | rfl | (simp [errW_none, errW_some] <;> rfl) | (simp [*, errW_none, errW_some] <;> rfl), by repeat (first | (with_reducible first | exact HB.out | apply below_alloc | apply pw_below_drewN | apply below_drew1) | exact HB.out)⟩
                      · rw [if_neg c30] at H
                        have c30b0 : (x4_2 == 0) = false := beq_eq_false_iff_ne.mpr c30
                        have c30b1 : (x4_2 != 0) = true := bne_iff_ne.mpr c30
                        by_cases c32 : x4_2 = (wrap64 ((t122.length : Int) - 1))
                        · rw [if_pos c32] at H
                          have c32b0 : (x4_2 == (wrap64 ((t122.length : Int) - 1))) = true := beq_iff_eq.mpr c32
                          have c32b1 : (x4_2 != (wrap64 ((t122.length : Int) - 1))) = false := bne_eq_false_iff_eq.mpr c32
                          clear c32
                          obtain rfl := Option.some.inj H
                          obtain ⟨Ao33, co33, eo33⟩ := Kd.R_slice HO_3.out
                          subst eo33
                          have p125 : 0 ≤ (x4_2 : Int) := of_decide_eq_true (by first | (with_reducible assumption) | assumption)
                          have q125 : x4_2 < (t122.length : Int) := of_decide_eq_true (by first | (with_reducible assumption) | assumption)
                          obtain ⟨ad125, e125, hx125_0⟩ := Kd.at_int (Kd.R_reads' HO_3.out).2.2 x4_2 p125 q125
                          cases e125
                          replace p125 := eq_true p125
                          replace q125 := eq_true q125
                          have p128 : 0 ≤ (x4_2 : Int) := of_decide_eq_true (by first | (with_reducible assumption) | assumption)
                          have q128 : x4_2 < (t122.length : Int) := of_decide_eq_true (by first | (with_reducible assumption) | assumption)
                          obtain ⟨ad128, e128, hx128_0⟩ := Kd.at_int (Kd.R_reads' HO_3.out).2.2 x4_2 p128 q128
                          obtain rfl : ad125 = ad128 := (by injection e128)
                          replace p128 := eq_true p128
                          replace q128 := eq_true q128
                          go_wp2
                          go_ret
                          exact ⟨by first | rfl | (simp [errW_none, errW_some] <;> rfl) | (simp [*, errW_none, errW_some] <;> rfl), by repeat (first | (with_reducible first | exact HB.out | apply below_alloc | apply pw_below_drewN | apply below_drew1) | exact HB.out)⟩
                        · rw [if_neg c32] at H
                          have c32b0 : (x4_2 == (wrap64 ((t122.length : Int) - 1))) = false := beq_eq_false_iff_ne.mpr c32
                          have c32b1 : (x4_2 != (wrap64 ((t122.length : Int) - 1))) = true := bne_iff_ne.mpr c32
                          by_cases c34 : x4_2 > 0
                          · rw [if_pos c34] at H
                            have c34b0 : decide (0 < x4_2) = true := decide_eq_true c34
                            clear c34
                            obtain ⟨ji35, hji35⟩ : ∃ j_ : Int, (wrap64 (x4_2 - 1)) = j_ := ⟨_, rfl⟩
                            replace H : (if 0 ≤ (ji35) then (if (ji35) < (t122.length : Int) then (if (rd t122 (ji35)) = 46 then (some false) else (bailiwickref02_Right.l0 k2 t122 (wrap64 (x4_2 + 1)))) else (none)) else (none)) = some r := by first | (rw [hji35] at H; exact H) | (simp only [hji35] at H ⊢; exact H)
                            have hji35w : (IntKind.i64.wrap (x4_2 - 1)) = ji35 := (i64_w _).trans hji35
                            by_cases c36 : 0 ≤ (ji35)
                            · rw [if_pos c36] at H
                              have c36b0 : decide (0 ≤ (ji35)) = true := decide_eq_true c36
                              clear c36
                              by_cases c37 : (ji35) < (t122.length : Int)
                              · rw [if_pos c37] at H
                                have c37b0 : decide ((ji35) < (t122.length : Int)) = true := decide_eq_true c37
                                clear c37
                                by_cases c38 : (rd t122 (ji35)) = 46
                                · rw [if_pos c38] at H
                                  have c38b0 : ((rd t122 (ji35)) == 46) = true := beq_iff_eq.mpr c38
                                  have c38b1 : ((rd t122 (ji35)) != 46) = false := bne_eq_false_iff_eq.mpr c38
                                  clear c38
                                  obtain rfl := Option.some.inj H
                                  obtain ⟨Ao39, co39, eo39⟩ := Kd.R_slice HO_3.out
                                  subst eo39
                                  have p125 : 0 ≤ (x4_2 : Int) := of_decide_eq_true (by first | (with_reducible assumption) | assumption)
                                  have q125 : x4_2 < (t122.length : Int) := of_decide_eq_true (by first | (with_reducible assumption) | assumption)
                                  obtain ⟨ad125, e125, hx125_0⟩ := Kd.at_int (Kd.R_reads' HO_3.out).2.2 x4_2 p125 q125
                                  cases e125
                                  replace p125 := eq_true p125
                                  replace q125 := eq_true q125
                                  have p128 : 0 ≤ (x4_2 : Int) := of_decide_eq_true (by first | (with_reducible assumption) | assumption)
                                  have q128 : x4_2 < (t122.length : Int) := of_decide_eq_true (by first | (with_reducible assumption) | assumption)
                                  obtain ⟨ad128, e128, hx128_0⟩ := Kd.at_int (Kd.R_reads' HO_3.out).2.2 x4_2 p128 q128
                                  obtain rfl : ad125 = ad128 := (by injection e128)
                                  replace p128 := eq_true p128
                                  replace q128 := eq_true q128
                                  have p129 : 0 ≤ (x4_2 : Int) := of_decide_eq_true (by first | (with_reducible assumption) | assumption)
                                  have q129 : x4_2 < (t122.length : Int) := of_decide_eq_true (by first | (with_reducible assumption) | assumption)
                                  obtain ⟨ad129, e129, hx129_0⟩ := Kd.at_int (Kd.R_reads' HO_3.out).2.2 x4_2 p129 q129
                                  obtain rfl : ad125 = ad129 := (by injection e129)
                                  replace p129 := eq_true p129
                                  replace q129 := eq_true q129
                                  have p130 : 0 ≤ ((ji35) : Int) := of_decide_eq_true (by first | (with_reducible assumption) | assumption)
                                  have q130 : (ji35) < (t122.length : Int) := of_decide_eq_true (by first | (with_reducible assumption) | assumption)
                                  obtain ⟨ad130, e130, hx130_0⟩ := Kd.at_int (Kd.R_reads' HO_3.out).2.2 (ji35) p130 q130
                                  obtain rfl : ad125 = ad130 := (by injection e130)
                                  replace p130 := eq_true p130
                                  replace q130 := eq_true q130
                                  go_wp2
                                  go_ret
                                  exact ⟨by first | rfl | (simp [errW_none, errW_some] <;> rfl) | (simp only [← hji35]; first | rfl | (simp [errW_none, errW_some] <;> rfl)) | (simp [*, errW_none, errW_some] <;> rfl), by repeat (first | (with_reducible first | exact HB.out | apply below_alloc | apply pw_below_drewN | apply below_drew1) | exact HB.out)⟩
                                · rw [if_neg c38] at H
                                  have c38b0 : ((rd t122 (ji35)) == 46) = false := beq_eq_false_iff_ne.mpr c38
                                  have c38b1 : ((rd t122 (ji35)) != 46) = true := bne_iff_ne.mpr c38
                                  have H' := Aside0.mk H
                                  clear H
                                  obtain ⟨Ao40, co40, eo40⟩ := Kd.R_slice HO_3.out
                                  subst eo40
                                  have p125 : 0 ≤ (x4_2 : Int) := of_decide_eq_true (by first | (with_reducible assumption) | assumption)
                                  have q125 : x4_2 < (t122.length : Int) := of_decide_eq_true (by first | (with_reducible assumption) | assumption)
                                  obtain ⟨ad125, e125, hx125_0⟩ := Kd.at_int (Kd.R_reads' HO_3.out).2.2 x4_2 p125 q125
                                  cases e125
                                  replace p125 := eq_true p125
                                  replace q125 := eq_true q125
                                  have p128 : 0 ≤ (x4_2 : Int) := of_decide_eq_true (by first | (with_reducible assumption) | assumption)
                                  have q128 : x4_2 < (t122.length : Int) := of_decide_eq_true (by first | (with_reducible assumption) | assumption)
                                  obtain ⟨ad128, e128, hx128_0⟩ := Kd.at_int (Kd.R_reads' HO_3.out).2.2 x4_2 p128 q128
                                  obtain rfl : ad125 = ad128 := (by injection e128)
                                  replace p128 := eq_true p128
                                  replace q128 := eq_true q128
                                  have p129 : 0 ≤ (x4_2 : Int) := of_decide_eq_true (by first | (with_reducible assumption) | assumption)
                                  have q129 : x4_2 < (t122.length : Int) := of_decide_eq_true (by first | (with_reducible assumption) | assumption)
                                  obtain ⟨ad129, e129, hx129_0⟩ := Kd.at_int (Kd.R_reads' HO_3.out).2.2 x4_2 p129 q129
                                  obtain rfl : ad125 = ad129 := (by injection e129)
                                  replace p129 := eq_true p129
                                  replace q129 := eq_true q129
                                  have p130 : 0 ≤ ((ji35) : Int) := of_decide_eq_true (by first | (with_reducible assumption) | assumption)
                                  have q130 : (ji35) < (t122.length : Int) := of_decide_eq_true (by first | (with_reducible assumption) | assumption)
                                  obtain ⟨ad130, e130, hx130_0⟩ := Kd.at_int (Kd.R_reads' HO_3.out).2.2 (ji35) p130 q130
                                  obtain rfl : ad125 = ad130 := (by injection e130)
                                  replace p130 := eq_true p130
                                  replace q130 := eq_true q130
                                  go_wp2
                                  go_roundg k2
                                  case measure => have := HJ2.out; have := HK2.out; omega
                                  case rel => exact ⟨(wrap64 (x4_2 + 1)), (by first | rfl | (simp; done) | (simp [*]; done)), H', ⟨by have := HJ2.out; have := HK2.out; omega⟩, ⟨by (with_reducible repeat (first | apply Kd.R_alloc | apply Kd.R_drewN | apply Kd.R_drew)); exact HO_3.out⟩, ⟨by repeat (first | (with_reducible first | exact HB.out | apply below_alloc | apply pw_below_drewN | apply below_drew1) | exact HB.out)⟩⟩
                              · rw [if_neg c37] at H
                                exact absurd H (by simp)
                            · rw [if_neg c36] at H
                              exact absurd H (by simp)
                          · exact absurd (show x4_2 = 0 by have h_ := of_decide_eq_true c12b0; omega) (by simpa using c30b0)
                    · exact absurd (beq_iff_eq.1 c28b0) c29
                  · rw [if_neg c28] at H
                    have c28b0 : ((rd t122 x4_2) == 46) = false := beq_eq_false_iff_ne.mpr c28
                    have c28b1 : ((rd t122 x4_2) != 46) = true := bne_iff_ne.mpr c28
                    replace H := Option.bind_eq_some_iff.mp H
                    obtain ⟨t133, A450, H⟩ := H
                    replace H : (if t133 = true then (if (rd t122 x4_2) = 46 then (if x4_2 = 0 then (some false) else (if x4_2 = (wrap64 ((t122.length : Int) - 1)) then (some false) else (if x4_2 > 0 then (if 0 ≤ (wrap64 (x4_2 - 1)) then (if (wrap64 (x4_2 - 1)) < (t122.length : Int) then (if (rd t122 (wrap64 (x4_2 - 1))) = 46 then (some false) else (bailiwickref02_Right.l0 k2 t122 (wrap64 (x4_2 + 1)))) else (none)) else (none)) else (bailiwickref02_Right.l0 k2 t122 (wrap64 (x4_2 + 1)))))) else (if x4_2 > 0 then (bailiwickref02_Right.l0 k2 t122 (wrap64 (x4_2 + 1))) else (bailiwickref02_Right.l0 k2 t122 (wrap64 (x4_2 + 1))))) else (some false)) = some r := H
                    have A45 := Aside0.mk A450
                    clear A450
                    by_cases c46 : t133 = true
                    · subst c46
                      have H1 : (if (rd t122 x4_2) = 46 then (if x4_2 = 0 then (some false) else (if x4_2 = (wrap64 ((t122.length : Int) - 1)) then (some false) else (if x4_2 > 0 then (if 0 ≤ (wrap64 (x4_2 - 1)) then (if (wrap64 (x4_2 - 1)) < (t122.length : Int) then (if (rd t122 (wrap64 (x4_2 - 1))) = 46 then (some false) else (bailiwickref02_Right.l0 k2 t122 (wrap64 (x4_2 + 1)))) else (none)) else (none)) else (bailiwickref02_Right.l0 k2 t122 (wrap64 (x4_2 + 1)))))) else (if x4_2 > 0 then (bailiwickref02_Right.l0 k2 t122 (wrap64 (x4_2 + 1))) else (bailiwickref02_Right.l0 k2 t122 (wrap64 (x4_2 + 1))))) = some r := by rw [if_pos rfl] at H; exact H
                      clear H
                      have H := H1
                      clear H1
                      by_cases c47 : (rd t122 x4_2) = 46
                      · exact absurd c47 (beq_eq_false_iff_ne.1 c28b0)
                      · rw [if_neg c47] at H
                        have c47b0 : ((rd t122 x4_2) == 46) = false := beq_eq_false_iff_ne.mpr c47
                        have c47b1 : ((rd t122 x4_2) != 46) = true := bne_iff_ne.mpr c47
                        by_cases c60 : x4_2 > 0
                        · rw [if_pos c60] at H
                          have c60b0 : decide (0 < x4_2) = true := decide_eq_true c60
                          clear c60
                          have H' := Aside0.mk H
                          clear H
                          obtain ⟨Ao61, co61, eo61⟩ := Kd.R_slice HO_3.out
                          subst eo61
                          have p125 : 0 ≤ (x4_2 : Int) := of_decide_eq_true (by first | (with_reducible assumption) | assumption)
                          have q125 : x4_2 < (t122.length : Int) := of_decide_eq_true (by first | (with_reducible assumption) | assumption)
                          obtain ⟨ad125, e125, hx125_0⟩ := Kd.at_int (Kd.R_reads' HO_3.out).2.2 x4_2 p125 q125
                          cases e125
                          replace p125 := eq_true p125
                          replace q125 := eq_true q125
                          have p128 : 0 ≤ (x4_2 : Int) := of_decide_eq_true (by first | (with_reducible assumption) | assumption)
                          have q128 : x4_2 < (t122.length : Int) := of_decide_eq_true (by first | (with_reducible assumption) | assumption)
                          obtain ⟨ad128, e128, hx128_0⟩ := Kd.at_int (Kd.R_reads' HO_3.out).2.2 x4_2 p128 q128
                          obtain rfl : ad125 = ad128 := (by injection e128)
                          replace p128 := eq_true p128
                          replace q128 := eq_true q128
                          have p132 : 0 ≤ (x4_2 : Int) := of_decide_eq_true (by first | (with_reducible assumption) | assumption)
                          have q132 : x4_2 < (t122.length : Int) := of_decide_eq_true (by first | (with_reducible assumption) | assumption)
                          obtain ⟨ad132, e132, hx132_0⟩ := Kd.at_int (Kd.R_reads' HO_3.out).2.2 x4_2 p132 q132
                          obtain rfl : ad125 = ad132 := (by injection e132)
                          replace p132 := eq_true p132
                          replace q132 := eq_true q132
                          go_wp2_with (first | (go_at_call 26; (with_reducible refine (Go.Proofs.YtipfiodeakapdaaDoor.P.bailiwickref02_letter.calls (rd t122 x4_2) true _ A45.out).mono ?_); rintro e w' ⟨rfl, ⟨nd, rfl⟩⟩; have p136 : 0 ≤ (x4_2 : Int) := of_decide_eq_true (by first | (with_reducible assumption) | assumption); have q136 : x4_2 < (t122.length : Int) := of_decide_eq_true (by first | (with_reducible assumption) | assumption); obtain ⟨ad136, e136, hx136_0⟩ := Kd.at_int (Kd.R_reads' HO_3.out).2.2 x4_2 p136 q136; obtain rfl : ad125 = ad136 := (by injection e136); replace p136 := eq_true p136; replace q136 := eq_true q136))
                          go_roundg k2
                          case measure => have := HJ2.out; have := HK2.out; omega
                          case rel => exact ⟨(wrap64 (x4_2 + 1)), (by first | rfl | (simp; done) | (simp [*]; done)), H', ⟨by have := HJ2.out; have := HK2.out; omega⟩, ⟨by (with_reducible repeat (first | apply Kd.R_alloc | apply Kd.R_drewN | apply Kd.R_drew)); exact HO_3.out⟩, ⟨by repeat (first | (with_reducible first | exact HB.out | apply below_alloc | apply pw_below_drewN | apply below_drew1) | exact HB.out)⟩⟩
                        · rw [if_neg c60] at H
                          have c60b0 : decide (0 < x4_2) = false := decide_eq_false c60
                          clear c60
                          have H' := Aside0.mk H
                          clear H
                          obtain ⟨Ao62, co62, eo62⟩ := Kd.R_slice HO_3.out
                          subst eo62
                          have p125 : 0 ≤ (x4_2 : Int) := of_decide_eq_true (by first | (with_reducible assumption) | assumption)
                          have q125 : x4_2 < (t122.length : Int) := of_decide_eq_true (by first | (with_reducible assumption) | assumption)
                          obtain ⟨ad125, e125, hx125_0⟩ := Kd.at_int (Kd.R_reads' HO_3.out).2.2 x4_2 p125 q125
                          cases e125
                          replace p125 := eq_true p125
                          replace q125 := eq_true q125
                          have p128 : 0 ≤ (x4_2 : Int) := of_decide_eq_true (by first | (with_reducible assumption) | assumption)
                          have q128 : x4_2 < (t122.length : Int) := of_decide_eq_true (by first | (with_reducible assumption) | assumption)
                          obtain ⟨ad128, e128, hx128_0⟩ := Kd.at_int (Kd.R_reads' HO_3.out).2.2 x4_2 p128 q128
                          obtain rfl : ad125 = ad128 := (by injection e128)
                          replace p128 := eq_true p128
                          replace q128 := eq_true q128
                          have p132 : 0 ≤ (x4_2 : Int) := of_decide_eq_true (by first | (with_reducible assumption) | assumption)
                          have q132 : x4_2 < (t122.length : Int) := of_decide_eq_true (by first | (with_reducible assumption) | assumption)
                          obtain ⟨ad132, e132, hx132_0⟩ := Kd.at_int (Kd.R_reads' HO_3.out).2.2 x4_2 p132 q132
                          obtain rfl : ad125 = ad132 := (by injection e132)
                          replace p132 := eq_true p132
                          replace q132 := eq_true q132
                          go_wp2_with (first | (go_at_call 26; (with_reducible refine (Go.Proofs.YtipfiodeakapdaaDoor.P.bailiwickref02_letter.calls (rd t122 x4_2) true _ A45.out).mono ?_); rintro e w' ⟨rfl, ⟨nd, rfl⟩⟩))
                          go_roundg k2
                          case measure => have := HJ2.out; have := HK2.out; omega
                          case rel => exact ⟨(wrap64 (x4_2 + 1)), (by first | rfl | (simp; done) | (simp [*]; done)), H', ⟨by have := HJ2.out; have := HK2.out; omega⟩, ⟨by (with_reducible repeat (first | apply Kd.R_alloc | apply Kd.R_drewN | apply Kd.R_drew)); exact HO_3.out⟩, ⟨by repeat (first | (with_reducible first | exact HB.out | apply below_alloc | apply pw_below_drewN | apply below_drew1) | exact HB.out)⟩⟩
                    · replace c46 := Bool.eq_false_iff.mpr c46
                      subst c46
                      have H1 : (some false) = some r := by rw [if_neg (show ¬ (false = true) by decide)] at H; exact H
                      clear H
                      have H := H1
                      clear H1
                      obtain rfl := Option.some.inj H
                      obtain ⟨Ao63, co63, eo63⟩ := Kd.R_slice HO_3.out
                      subst eo63
                      have p125 : 0 ≤ (x4_2 : Int) := of_decide_eq_true (by first | (with_reducible assumption) | assumption)
                      have q125 : x4_2 < (t122.length : Int) := of_decide_eq_true (by first | (with_reducible assumption) | assumption)
                      obtain ⟨ad125, e125, hx125_0⟩ := Kd.at_int (Kd.R_reads' HO_3.out).2.2 x4_2 p125 q125
                      cases e125
                      replace p125 := eq_true p125
                      replace q125 := eq_true q125
                      have p128 : 0 ≤ (x4_2 : Int) := of_decide_eq_true (by first | (with_reducible assumption) | assumption)
                      have q128 : x4_2 < (t122.length : Int) := of_decide_eq_true (by first | (with_reducible assumption) | assumption)
                      obtain ⟨ad128, e128, hx128_0⟩ := Kd.at_int (Kd.R_reads' HO_3.out).2.2 x4_2 p128 q128
                      obtain rfl : ad125 = ad128 := (by injection e128)
                      replace p128 := eq_true p128
                      replace q128 := eq_true q128
                      have p132 : 0 ≤ (x4_2 : Int) := of_decide_eq_true (by first | (with_reducible assumption) | assumption)
                      have q132 : x4_2 < (t122.length : Int) := of_decide_eq_true (by first | (with_reducible assumption) | assumption)
                      obtain ⟨ad132, e132, hx132_0⟩ := Kd.at_int (Kd.R_reads' HO_3.out).2.2 x4_2 p132 q132
                      obtain rfl : ad125 = ad132 := (by injection e132)
                      replace p132 := eq_true p132
                      replace q132 := eq_true q132
                      go_wp2_with (first | (go_at_call 26; (with_reducible refine (Go.Proofs.YtipfiodeakapdaaDoor.P.bailiwickref02_letter.calls (rd t122 x4_2) false _ A45.out).mono ?_); rintro e w' ⟨rfl, ⟨nd, rfl⟩⟩))
                      go_ret
                      exact ⟨by first | rfl | (simp [errW_none, errW_some] <;> rfl) | (simp [*, errW_none, errW_some] <;> rfl), by repeat (first | (with_reducible first | exact HB.out | apply below_alloc | apply pw_below_drewN | apply below_drew1) | exact HB.out)⟩
              · rw [if_neg c12] at H
                exact absurd H (by simp)
            · rw [if_neg c11] at H
              have c11b0 : decide (x4_2 < (t122.length : Int)) = false := decide_eq_false c11
              clear c11
              obtain rfl := Option.some.inj H
              obtain ⟨Ao64, co64, eo64⟩ := Kd.R_slice HO_3.out
              subst eo64
              go_wp2
              go_ret
              exact ⟨by first | rfl | (simp [errW_none, errW_some] <;> rfl) | (simp [*, errW_none, errW_some] <;> rfl), by repeat (first | (with_reducible first | exact HB.out | apply below_alloc | apply pw_below_drewN | apply below_drew1) | exact HB.out)⟩

-- NOT PRINTED: function 12 (bailiwickref02_Fold)

end Go.Proofs.YtipfiodeakapdaaDoor.O
