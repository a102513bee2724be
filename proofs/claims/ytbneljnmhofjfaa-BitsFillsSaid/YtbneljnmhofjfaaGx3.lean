-- Written by a program of this session (gp.py), which drives the print with some lines turned. Not trusted: Lean checks it.
import Derived.Test.YtbneljnmhofjfaaGx0
import Derived.Test.YtbneljnmhofjfaaGx1
namespace Go.Proofs.Ytbneljnmhofjfaa.G
open Go.RowKit Go.Proofs.YtbneljnmhofjfaaW.PrintWords Go.Proofs.YtbneljnmhofjfaaW.PrintLast Go.Proofs.YtbneljnmhofjfaaW.PrintMore
attribute [local go_sem] max2_int min2_int max_two min_two max_three min_three max_four min_four emod_u8 emod_u16 emod_u32
set_option linter.unusedVariables false
set_option linter.unusedSimpArgs false

/-! ### bailiwicklaw08_BitsFills: function 7 -/
mutual
def bailiwicklaw08_BitsFills.j1 : Nat → ByteArray → Bool → Int → Int → Int → Option (Bool)
  | 0, _, _, _, _, _ => none
  | k + 1, x0, x5, x6, x8, x9 => bailiwicklaw08_BitsFills.l1 k x0 x5 x6 x8 x9 0
def bailiwicklaw08_BitsFills.l1 : Nat → ByteArray → Bool → Int → Int → Int → Int → Option (Bool)
  | 0, _, _, _, _, _, _ => none
  | k + 1, x0, x5, x6, x8, x9, x13 => if x13 < (mn x6 (wrap64 (8 * (x0.size : Int)))) then ((Go.Proofs.Ytbneljnmhofjfaa.P.bits_Has.f x0 x13).bind fun t143 => (if t143 = true then (bailiwicklaw08_BitsFills.l1 k x0 x5 x6 x8 x9 (wrap64 (x13 + 1))) else (some false))) else ((bits_First.f x0 x6).bind fun bt144 => (if x5 = true then (if bt144.2 = true then (some false) else ((bits_Count.f x0).bind fun t146 => (some (t146 == (wrap64 (x8 + x9)))))) else (some false)))
def bailiwicklaw08_BitsFills.l0 : Nat → ByteArray → Bool → Int → Int → Int → Int → Int → Option (Bool)
  | 0, _, _, _, _, _, _, _ => none
  | k + 1, x0, x5, x6, x7, x8, x9, x10 => if x10 < 65 then ((bits_First.f x0 x6).bind fun bt140 => (if bt140.2 = true then (if bt140.1 ≤ x7 then (some false) else (if bt140.1 ≥ x6 then (some false) else ((bits_With.f x0 bt140.1 true).bind fun t142 => (bailiwicklaw08_BitsFills.l0 k t142 x5 x6 bt140.1 x8 (wrap64 (x9 + 1)) (wrap64 (x10 + 1)))))) else (bailiwicklaw08_BitsFills.j1 k x0 x5 x6 x8 x9))) else (bailiwicklaw08_BitsFills.j1 k x0 x5 x6 x8 x9)
end
def bailiwicklaw08_BitsFills.f (k : Nat) (a0 : ByteArray) (a1 : Int) : Option (Bool) := (bailiwicklaw08_examples.f).bind fun t138 => (if t138 = true then (if 0 ≤ (mn (a0.size : Int) 8) then (if (mn (a0.size : Int) 8) ≤ (a0.size : Int) then ((bits_Count.f (a0.extract 0 ((mn (a0.size : Int) 8) : Int).toNat)).bind fun t139 => (bailiwicklaw08_BitsFills.l0 k (a0.extract 0 ((mn (a0.size : Int) 8) : Int).toNat) t138 (wrap64 (Int.tmod a1 65)) (-1) t139 0 0)) else (none)) else (none)) else (some false))
theorem bailiwicklaw08_BitsFills.mono_l : ∀ k, (∀ y0 y1 y2 y3 y4, LeO (bailiwicklaw08_BitsFills.j1 k y0 y1 y2 y3 y4) (bailiwicklaw08_BitsFills.j1 (k + 1) y0 y1 y2 y3 y4)) ∧ (∀ y0 y1 y2 y3 y4 y5, LeO (bailiwicklaw08_BitsFills.l1 k y0 y1 y2 y3 y4 y5) (bailiwicklaw08_BitsFills.l1 (k + 1) y0 y1 y2 y3 y4 y5)) ∧ (∀ y0 y1 y2 y3 y4 y5 y6, LeO (bailiwicklaw08_BitsFills.l0 k y0 y1 y2 y3 y4 y5 y6) (bailiwicklaw08_BitsFills.l0 (k + 1) y0 y1 y2 y3 y4 y5 y6))
  | 0 => ⟨fun _ _ _ _ _ r h => by simp [bailiwicklaw08_BitsFills.j1] at h, fun _ _ _ _ _ _ r h => by simp [bailiwicklaw08_BitsFills.l1] at h, fun _ _ _ _ _ _ _ r h => by simp [bailiwicklaw08_BitsFills.l0] at h⟩
  | k + 1 => by
    obtain ⟨ih0, ih1, ih2⟩ := bailiwicklaw08_BitsFills.mono_l k
    refine ⟨?_, ?_, ?_⟩
    · intro y0 y1 y2 y3 y4
      unfold bailiwicklaw08_BitsFills.j1
      repeat' first
      | (with_reducible exact ih0 _ _ _ _ _)
      | (with_reducible exact ih1 _ _ _ _ _ _)
      | (with_reducible exact ih2 _ _ _ _ _ _ _)
      | (with_reducible exact LeO.refl _)
      | (with_reducible exact LeO.none _)
      | (with_reducible refine LeO.ite ?_ ?_)
      | (with_reducible refine LeO.bind ?_ (fun _ => ?_))
      | exact ih0 _ _ _ _ _
      | exact ih1 _ _ _ _ _ _
      | exact ih2 _ _ _ _ _ _ _
      | exact LeO.none _
      | refine LeO.ite ?_ ?_
      | refine LeO.bind ?_ (fun _ => ?_)
    · intro y0 y1 y2 y3 y4 y5
      unfold bailiwicklaw08_BitsFills.l1
      repeat' first
      | (with_reducible exact ih0 _ _ _ _ _)
      | (with_reducible exact ih1 _ _ _ _ _ _)
      | (with_reducible exact ih2 _ _ _ _ _ _ _)
      | (with_reducible exact LeO.refl _)
      | (with_reducible exact LeO.none _)
      | (with_reducible refine LeO.ite ?_ ?_)
      | (with_reducible refine LeO.bind ?_ (fun _ => ?_))
      | exact ih0 _ _ _ _ _
      | exact ih1 _ _ _ _ _ _
      | exact ih2 _ _ _ _ _ _ _
      | exact LeO.none _
      | refine LeO.ite ?_ ?_
      | refine LeO.bind ?_ (fun _ => ?_)
    · intro y0 y1 y2 y3 y4 y5 y6
      unfold bailiwicklaw08_BitsFills.l0
      repeat' first
      | (with_reducible exact ih0 _ _ _ _ _)
      | (with_reducible exact ih1 _ _ _ _ _ _)
      | (with_reducible exact ih2 _ _ _ _ _ _ _)
      | (with_reducible exact LeO.refl _)
      | (with_reducible exact LeO.none _)
      | (with_reducible refine LeO.ite ?_ ?_)
      | (with_reducible refine LeO.bind ?_ (fun _ => ?_))
      | exact ih0 _ _ _ _ _
      | exact ih1 _ _ _ _ _ _
      | exact ih2 _ _ _ _ _ _ _
      | exact LeO.none _
      | refine LeO.ite ?_ ?_
      | refine LeO.bind ?_ (fun _ => ?_)
theorem bailiwicklaw08_BitsFills.mono : ∀ a0 a1 k, LeO (bailiwicklaw08_BitsFills.f k a0 a1) (bailiwicklaw08_BitsFills.f (k + 1) a0 a1) := by
  intro a0 a1 k
  obtain ⟨ih0, ih1, ih2⟩ := bailiwicklaw08_BitsFills.mono_l k
  unfold bailiwicklaw08_BitsFills.f
  repeat' first
      | (with_reducible exact ih0 _ _ _ _ _)
      | (with_reducible exact ih1 _ _ _ _ _ _)
      | (with_reducible exact ih2 _ _ _ _ _ _ _)
      | (with_reducible exact LeO.refl _)
      | (with_reducible exact LeO.none _)
      | (with_reducible refine LeO.ite ?_ ?_)
      | (with_reducible refine LeO.bind ?_ (fun _ => ?_))
      | exact ih0 _ _ _ _ _
      | exact ih1 _ _ _ _ _ _
      | exact ih2 _ _ _ _ _ _ _
      | exact LeO.none _
      | refine LeO.ite ?_ ?_
      | refine LeO.bind ?_ (fun _ => ?_)
set_option maxHeartbeats 8000000 in
set_option maxRecDepth 100000 in
theorem bailiwicklaw08_BitsFills.calls (k : Nat) (a0 : ByteArray) (a1 : Int) (r : Bool) (w : World) (h : bailiwicklaw08_BitsFills.f k a0 a1 = some r) :
    Calls Try.prog 7 #[.string a0, .int .u8 a1] w fun e w' => e = .returned (.bool r) ∧ Below w.heap.size w w' := by
  have HB := Aside0.mk (Below.refl w.heap.size w)
  have H : ((bailiwicklaw08_examples.f).bind fun t138 => (if t138 = true then (if 0 ≤ (mn (a0.size : Int) 8) then (if (mn (a0.size : Int) 8) ≤ (a0.size : Int) then ((bits_Count.f (a0.extract 0 ((mn (a0.size : Int) 8) : Int).toNat)).bind fun t139 => (bailiwicklaw08_BitsFills.l0 k (a0.extract 0 ((mn (a0.size : Int) 8) : Int).toNat) t138 (wrap64 (Int.tmod a1 65)) (-1) t139 0 0)) else (none)) else (none)) else (some false))) = some r := h
  clear h
  replace H := Option.bind_eq_some_iff.mp H
  obtain ⟨t138, A30, H⟩ := H
  replace H : (if t138 = true then (if 0 ≤ (mn (a0.size : Int) 8) then (if (mn (a0.size : Int) 8) ≤ (a0.size : Int) then ((bits_Count.f (a0.extract 0 ((mn (a0.size : Int) 8) : Int).toNat)).bind fun t139 => (bailiwicklaw08_BitsFills.l0 k (a0.extract 0 ((mn (a0.size : Int) 8) : Int).toNat) t138 (wrap64 (Int.tmod a1 65)) (-1) t139 0 0)) else (none)) else (none)) else (some false)) = some r := H
  have A3 := Aside0.mk A30
  clear A30
  by_cases c4 : t138 = true
  · subst c4
    have H1 : (if 0 ≤ (mn (a0.size : Int) 8) then (if (mn (a0.size : Int) 8) ≤ (a0.size : Int) then ((bits_Count.f (a0.extract 0 ((mn (a0.size : Int) 8) : Int).toNat)).bind fun t139 => (bailiwicklaw08_BitsFills.l0 k (a0.extract 0 ((mn (a0.size : Int) 8) : Int).toNat) true (wrap64 (Int.tmod a1 65)) (-1) t139 0 0)) else (none)) else (none)) = some r := by first | (rw [if_pos rfl] at H; exact H) | (rw [if_pos trivial] at H; exact H)
    clear H
    have H := H1
    clear H1
    obtain ⟨ji5, hji5⟩ : ∃ j_ : Int, (mn (a0.size : Int) 8) = j_ := ⟨_, rfl⟩
    replace H : (if 0 ≤ (ji5) then (if (ji5) ≤ (a0.size : Int) then ((bits_Count.f (a0.extract 0 ((ji5) : Int).toNat)).bind fun t139 => (bailiwicklaw08_BitsFills.l0 k (a0.extract 0 ((ji5) : Int).toNat) true (wrap64 (Int.tmod a1 65)) (-1) t139 0 0)) else (none)) else (none)) = some r := by first | (rw [hji5] at H; exact H) | (simp only [hji5] at H ⊢; exact H)
    (try rw [hji5] at A3)
    (try (have hji5h : ji5 ≤ 8 := by (rw [← hji5]; unfold mn; (repeat' split) <;> omega)))
    (try (have hji5g : ji5 ≤ 64 := by omega))
    (try (have hji5l : 0 ≤ ji5 := by (rw [← hji5]; unfold mn; (repeat' split) <;> omega)))
    (try (have hji5m : 0 ≤ ji5 := by omega))
    have hji5_ : (if 8 < (a0.size : Int) then 8 else (a0.size : Int)) = ji5 := hji5
    obtain ⟨bx5_a0, hbx5_a0⟩ : ∃ b_ : ByteArray, (a0.extract 0 (ji5 : Int).toNat) = b_ := ⟨_, rfl⟩
    have hbx5_a0z : bx5_a0.size ≤ 8 := by rw [← hbx5_a0, ByteArray.size_extract]; omega
    simp only [hbx5_a0] at H
    by_cases c6 : 0 ≤ (ji5)
    · rw [if_pos c6] at H
      have c6b0 := eq_true c6
      have c6b1 : decide (0 ≤ (ji5)) = true := decide_eq_true c6
      clear c6
      by_cases c7 : (ji5) ≤ (a0.size : Int)
      · rw [if_pos c7] at H
        have c7b0 := eq_true c7
        have c7b1 : decide ((ji5) ≤ (a0.size : Int)) = true := decide_eq_true c7
        clear c7
        replace H := Option.bind_eq_some_iff.mp H
        obtain ⟨t139, A80, H⟩ := H
        replace H : (bailiwicklaw08_BitsFills.l0 k bx5_a0 true (wrap64 (Int.tmod a1 65)) (-1) t139 0 0) = some r := H
        have A8 := Aside0.mk A80
        clear A80
        have HC9 := Aside0.mk H
        clear H
        go_enter Try.func7, Try.ntmps7
        go_upto_block 0 with (first | ((with_reducible refine gate_callee (f := 10) rfl ?_); refine goesL_ (some 16) rfl rfl Try.func10 (by kernel_rfl) rfl #[] rfl (by (try simp only [List.map_toArray, List.map_cons, List.map_nil]); first | done | rfl | (simp only [List.length_drop, List.length_take]; rfl)) ?_; (with_reducible refine (bailiwicklaw08_examples.calls  true _ A3.out).mono ?_); rintro e w10 ⟨rfl, hb⟩; refine ⟨_, rfl, ?_⟩; have n0_ := Aside0.mk (below_step (by repeat (first | (with_reducible first | exact HB.out | apply below_alloc | apply pw_below_drewN | apply below_drew1) | exact HB.out)) hb); clear HB; have HB := n0_; clear n0_; (try clear hb); (try clear hb2); (try clear hk); (try clear hi)) | ((with_reducible refine gate_callee (f := 19) rfl ?_); refine goesL_ (some 28) rfl rfl Try.func19 (by kernel_rfl) rfl #[.string bx5_a0] rfl (by (try simp only [List.map_toArray, List.map_cons, List.map_nil]); first | done | (simp only [hji5]; rfl) | rfl | (simp only [List.length_drop, List.length_take]; rfl)) ?_; (with_reducible refine (bits_Count.calls bx5_a0 t139 _ A8.out).mono ?_); rintro e w' ⟨rfl, ⟨nd, rfl⟩⟩; refine ⟨_, rfl, ?_⟩))
        (try simp only [Act.put, List.setIfInBounds_toArray, List.set_cons_zero, List.set_cons_succ])
        go_cut [0, 9] (fun v0 v9 wc => ∃ (kq : Nat) (x0_8 : ByteArray) (x9_8 : Int), v0 = .string x0_8 ∧ v9 = .int .i64 x9_8 ∧ Aside0 (bailiwicklaw08_BitsFills.j1 kq x0_8 true (wrap64 (Int.tmod a1 65)) t139 x9_8 = some r) ∧ Aside0 (kq ≤ k) ∧ Aside0 (Below w.heap.size w wc))
        case first =>
          have H := HC9.out
          clear HC9
          have H' := Aside0.mk H
          clear H
          go_wp2
          go_loopg [0, 7, 9, 10] k (fun kq v0 v7 v9 v10 w' => ∃ (x0_1 : ByteArray) (x7_1 : Int) (x9_1 : Int) (x10_1 : Int), v0 = .string x0_1 ∧ v7 = .int .i64 x7_1 ∧ v9 = .int .i64 x9_1 ∧ v10 = .int .i64 x10_1 ∧ Aside0 (bailiwicklaw08_BitsFills.l0 kq x0_1 true (wrap64 (Int.tmod a1 65)) x7_1 t139 x9_1 x10_1 = some r) ∧ Aside0 (kq ≤ k) ∧ Aside0 (Below w.heap.size w w'))
          case atStart => exact ⟨bx5_a0, ((-1)), (0), (0), (by first | rfl | (simp; done) | (simp only [← hji5] <;> (first | rfl | simp)) | (simp [*]; done)), (by first | rfl | (simp; done) | (simp [*]; done)), (by first | rfl | (simp; done) | (simp [*]; done)), (by first | rfl | (simp; done) | (simp [*]; done)), H', ⟨Nat.le_refl _⟩, ⟨by repeat (first | (with_reducible first | exact HB.out | apply below_alloc | apply pw_below_drewN | apply below_drew1) | exact HB.out)⟩⟩
          case round =>
            clear H'
            try clear c1
            try clear p2
            try clear c4
            try clear c6
            try clear c6b0
            try clear c6b1
            try clear p6
            try clear c7
            try clear c7b0
            try clear c7b1
            try clear c10
            obtain ⟨x0_1, x7_1, x9_1, x10_1, rfl, rfl, rfl, rfl, HA, HK1, HB⟩ := hrel
            cases gk with
            | zero => exact absurd HA.out (by simp [bailiwicklaw08_BitsFills.l0])
            | succ k1 =>
              have H := HA.out
              clear HA
              simp only [bailiwicklaw08_BitsFills.l0] at H
              by_cases c11 : x10_1 < 65
              · rw [if_pos c11] at H
                have c11b0 : decide (x10_1 < 65) = true := decide_eq_true c11
                clear c11
                (first | rw [c11b0] | (simp only [i64_w, i32_w]; rw [c11b0]) | skip)
                replace H := Option.bind_eq_some_iff.mp H
                obtain ⟨⟨t140, t141⟩, A120, H⟩ := H
                replace H : (if t141 = true then (if t140 ≤ x7_1 then (some false) else (if t140 ≥ (wrap64 (Int.tmod a1 65)) then (some false) else ((bits_With.f x0_1 t140 true).bind fun t142 => (bailiwicklaw08_BitsFills.l0 k1 t142 true (wrap64 (Int.tmod a1 65)) t140 t139 (wrap64 (x9_1 + 1)) (wrap64 (x10_1 + 1)))))) else (bailiwicklaw08_BitsFills.j1 k1 x0_1 true (wrap64 (Int.tmod a1 65)) t139 x9_1)) = some r := H
                have A12 := Aside0.mk A120
                clear A120
                by_cases c13 : t141 = true
                · subst c13
                  have H1 : (if t140 ≤ x7_1 then (some false) else (if t140 ≥ (wrap64 (Int.tmod a1 65)) then (some false) else ((bits_With.f x0_1 t140 true).bind fun t142 => (bailiwicklaw08_BitsFills.l0 k1 t142 true (wrap64 (Int.tmod a1 65)) t140 t139 (wrap64 (x9_1 + 1)) (wrap64 (x10_1 + 1)))))) = some r := by first | (rw [if_pos rfl] at H; exact H) | (rw [if_pos trivial] at H; exact H)
                  clear H
                  have H := H1
                  clear H1
                  by_cases c14 : t140 ≤ x7_1
                  · rw [if_pos c14] at H
                    have c14b0 : decide (t140 ≤ x7_1) = true := decide_eq_true c14
                    clear c14
                    obtain rfl := Option.some.inj H
                    go_wp2_with (first | ((with_reducible refine gate_callee (f := 11) rfl ?_); refine goesL_ (some 36) rfl rfl Try.func11 (by kernel_rfl) rfl #[.string x0_1, .int .i64 (wrap64 (Int.tmod a1 65))] rfl (by (try simp only [List.map_toArray, List.map_cons, List.map_nil]); first | done | rfl | (simp only [List.length_drop, List.length_take]; rfl)) ?_; (with_reducible refine (bits_First.calls x0_1 (wrap64 (Int.tmod a1 65)) t140 true _ A12.out).mono ?_); rintro e w' ⟨rfl, ⟨nd, rfl⟩⟩; refine ⟨_, rfl, ?_⟩))
                    go_ret
                    exact ⟨by first | rfl | (simp [errW_none, errW_some] <;> rfl) | (simp only [← hji5]; first | rfl | (simp [errW_none, errW_some] <;> rfl)) | (simp [*, errW_none, errW_some] <;> rfl), by repeat (first | (with_reducible first | exact HB.out | apply below_alloc | apply pw_below_drewN | apply below_drew1) | exact HB.out)⟩
                  · rw [if_neg c14] at H
                    have c14b0 : decide (t140 ≤ x7_1) = false := decide_eq_false c14
                    clear c14
                    by_cases c15 : t140 ≥ (wrap64 (Int.tmod a1 65))
                    · rw [if_pos c15] at H
                      have c15b0 : decide ((wrap64 (Int.tmod a1 65)) ≤ t140) = true := decide_eq_true c15
                      clear c15
                      obtain rfl := Option.some.inj H
                      go_wp2_with (first | ((with_reducible refine gate_callee (f := 11) rfl ?_); refine goesL_ (some 36) rfl rfl Try.func11 (by kernel_rfl) rfl #[.string x0_1, .int .i64 (wrap64 (Int.tmod a1 65))] rfl (by (try simp only [List.map_toArray, List.map_cons, List.map_nil]); first | done | rfl | (simp only [List.length_drop, List.length_take]; rfl)) ?_; (with_reducible refine (bits_First.calls x0_1 (wrap64 (Int.tmod a1 65)) t140 true _ A12.out).mono ?_); rintro e w' ⟨rfl, ⟨nd, rfl⟩⟩; refine ⟨_, rfl, ?_⟩))
                      go_ret
                      exact ⟨by first | rfl | (simp [errW_none, errW_some] <;> rfl) | (simp only [← hji5]; first | rfl | (simp [errW_none, errW_some] <;> rfl)) | (simp [*, errW_none, errW_some] <;> rfl), by repeat (first | (with_reducible first | exact HB.out | apply below_alloc | apply pw_below_drewN | apply below_drew1) | exact HB.out)⟩
                    · rw [if_neg c15] at H
                      have c15b0 : decide ((wrap64 (Int.tmod a1 65)) ≤ t140) = false := decide_eq_false c15
                      clear c15
                      replace H := Option.bind_eq_some_iff.mp H
                      obtain ⟨t142, A160, H⟩ := H
                      replace H : (bailiwicklaw08_BitsFills.l0 k1 t142 true (wrap64 (Int.tmod a1 65)) t140 t139 (wrap64 (x9_1 + 1)) (wrap64 (x10_1 + 1))) = some r := H
                      have A16 := Aside0.mk A160
                      clear A160
                      have H' := Aside0.mk H
                      clear H
                      go_wp2_with (first | ((with_reducible refine gate_callee (f := 11) rfl ?_); refine goesL_ (some 36) rfl rfl Try.func11 (by kernel_rfl) rfl #[.string x0_1, .int .i64 (wrap64 (Int.tmod a1 65))] rfl (by (try simp only [List.map_toArray, List.map_cons, List.map_nil]); first | done | rfl | (simp only [List.length_drop, List.length_take]; rfl)) ?_; (with_reducible refine (bits_First.calls x0_1 (wrap64 (Int.tmod a1 65)) t140 true _ A12.out).mono ?_); rintro e w' ⟨rfl, ⟨nd, rfl⟩⟩; refine ⟨_, rfl, ?_⟩) | ((with_reducible refine gate_callee (f := 15) rfl ?_); refine goesL_ (some 52) rfl rfl Try.func15 (by kernel_rfl) rfl #[.string x0_1, .int .i64 t140, .bool true] rfl (by (try simp only [List.map_toArray, List.map_cons, List.map_nil]); first | done | rfl | (simp only [List.length_drop, List.length_take]; rfl)) ?_; (with_reducible refine (bits_With.calls x0_1 t140 true t142 _ A16.out).mono ?_); rintro e w17 ⟨rfl, hb⟩; refine ⟨_, rfl, ?_⟩; have n0_ := Aside0.mk (below_step (by repeat (first | (with_reducible first | exact HB.out | apply below_alloc | apply pw_below_drewN | apply below_drew1) | exact HB.out)) hb); clear HB; have HB := n0_; clear n0_; (try clear hb); (try clear hb2); (try clear hk); (try clear hi)))
                      go_roundg k1
                      case measure => have := HK1.out; omega
                      case rel => exact ⟨(t142), (t140), (wrap64 (x9_1 + 1)), (wrap64 (x10_1 + 1)), (by first | rfl | (simp; done) | (simp [*]; done)), (by first | rfl | (simp; done) | (simp [*]; done)), (by first | rfl | (simp; done) | (simp [*]; done)), (by first | rfl | (simp; done) | (simp [*]; done)), H', ⟨by have := HK1.out; omega⟩, ⟨by repeat (first | (with_reducible first | exact HB.out | apply below_alloc | apply pw_below_drewN | apply below_drew1) | exact HB.out)⟩⟩
                · replace c13 := Bool.eq_false_iff.mpr c13
                  subst c13
                  have H1 : (bailiwicklaw08_BitsFills.j1 k1 x0_1 true (wrap64 (Int.tmod a1 65)) t139 x9_1) = some r := by rw [if_neg (show ¬ (false = true) by decide)] at H; exact H
                  clear H
                  have H := H1
                  clear H1
                  have H' := Aside0.mk H
                  clear H
                  go_wp2_with (first | ((with_reducible refine gate_callee (f := 11) rfl ?_); refine goesL_ (some 36) rfl rfl Try.func11 (by kernel_rfl) rfl #[.string x0_1, .int .i64 (wrap64 (Int.tmod a1 65))] rfl (by (try simp only [List.map_toArray, List.map_cons, List.map_nil]); first | done | rfl | (simp only [List.length_drop, List.length_take]; rfl)) ?_; (with_reducible refine (bits_First.calls x0_1 (wrap64 (Int.tmod a1 65)) t140 false _ A12.out).mono ?_); rintro e w' ⟨rfl, ⟨nd, rfl⟩⟩; refine ⟨_, rfl, ?_⟩))
                  go_meet
                  case rel => exact ⟨_, (x0_1), (x9_1), (by first | rfl | (simp; done) | (simp [*]; done)), (by first | rfl | (simp; done) | (simp [*]; done)), H', ⟨by have := HK1.out; first | omega | exact Nat.le_refl _⟩, ⟨by repeat (first | (with_reducible first | exact HB.out | apply below_alloc | apply pw_below_drewN | apply below_drew1) | exact HB.out)⟩⟩
              · rw [if_neg c11] at H
                have c11b0 : decide (x10_1 < 65) = false := decide_eq_false c11
                clear c11
                (first | rw [c11b0] | (simp only [i64_w, i32_w]; rw [c11b0]) | skip)
                have H' := Aside0.mk H
                clear H
                go_wp2
                go_meet
                case rel => exact ⟨_, (x0_1), (x9_1), (by first | rfl | (simp; done) | (simp [*]; done)), (by first | rfl | (simp; done) | (simp [*]; done)), H', ⟨by have := HK1.out; first | omega | exact Nat.le_refl _⟩, ⟨by repeat (first | (with_reducible first | exact HB.out | apply below_alloc | apply pw_below_drewN | apply below_drew1) | exact HB.out)⟩⟩
        case rest =>
          clear HC9
          try clear c1
          try clear p2
          try clear c4
          try clear c6
          try clear c6b0
          try clear c6b1
          try clear p6
          try clear c7
          try clear c7b0
          try clear c7b1
          try clear c10
          try clear c11
          try clear c11b0
          try clear c13
          try clear c14
          try clear c14b0
          try clear c15
          try clear c15b0
          try clear p2
          try clear p6
          obtain ⟨kq, x0_8, x9_8, rfl, rfl, HA, HJ8, HB⟩ := hcut
          cases kq with
          | zero => exact absurd HA.out (by simp [bailiwicklaw08_BitsFills.j1])
          | succ kj8 =>
            have H := HA.out
            clear HA
            simp only [bailiwicklaw08_BitsFills.j1] at H
            have H' := Aside0.mk H
            clear H
            go_wp2
            go_loopg [13] kj8 (fun kq v13 w' => ∃ (x13_2 : Int), v13 = .int .i64 x13_2 ∧ Aside0 (bailiwicklaw08_BitsFills.l1 kq x0_8 true (wrap64 (Int.tmod a1 65)) t139 x9_8 x13_2 = some r) ∧ Aside0 (kq ≤ kj8) ∧ Aside0 (Below w.heap.size w w'))
            case atStart => exact ⟨(0), (by first | rfl | (simp; done) | (simp [*]; done)), H', ⟨Nat.le_refl _⟩, ⟨by repeat (first | (with_reducible first | exact HB.out | apply below_alloc | apply pw_below_drewN | apply below_drew1) | exact HB.out)⟩⟩
            case round =>
              clear H'
              try clear c1
              try clear p2
              try clear c4
              try clear c6
              try clear c6b0
              try clear c6b1
              try clear p6
              try clear c7
              try clear c7b0
              try clear c7b1
              try clear c10
              try clear c11
              try clear c11b0
              try clear c13
              try clear c14
              try clear c14b0
              try clear c15
              try clear c15b0
              try clear p2
              try clear p6
              obtain ⟨x13_2, rfl, HA, HK2, HB⟩ := hrel
              cases gk with
              | zero => exact absurd HA.out (by simp [bailiwicklaw08_BitsFills.l1])
              | succ k2 =>
                have H := HA.out
                clear HA
                simp only [bailiwicklaw08_BitsFills.l1] at H
                obtain ⟨ji18, hji18⟩ : ∃ j_ : Int, (mn (wrap64 (Int.tmod a1 65)) (wrap64 (8 * (x0_8.size : Int)))) = j_ := ⟨_, rfl⟩
                replace H : (if x13_2 < (ji18) then ((Go.Proofs.Ytbneljnmhofjfaa.P.bits_Has.f x0_8 x13_2).bind fun t143 => (if t143 = true then (bailiwicklaw08_BitsFills.l1 k2 x0_8 true (wrap64 (Int.tmod a1 65)) t139 x9_8 (wrap64 (x13_2 + 1))) else (some false))) else ((bits_First.f x0_8 (wrap64 (Int.tmod a1 65))).bind fun bt144 => (if true = true then (if bt144.2 = true then (some false) else ((bits_Count.f x0_8).bind fun t146 => (some (t146 == (wrap64 (t139 + x9_8)))))) else (some false)))) = some r := by first | (rw [hji18] at H; exact H) | (simp only [hji18] at H ⊢; exact H)
                have hji18_ : (if (wrap64 (8 * (x0_8.size : Int))) < (wrap64 (Int.tmod a1 65)) then (wrap64 (8 * (x0_8.size : Int))) else (wrap64 (Int.tmod a1 65))) = ji18 := hji18
                by_cases c19 : x13_2 < (ji18)
                · rw [if_pos c19] at H
                  have c19b0 : decide (x13_2 < (ji18)) = true := decide_eq_true c19
                  clear c19
                  replace H := Option.bind_eq_some_iff.mp H
                  obtain ⟨t143, A200, H⟩ := H
                  replace H : (if t143 = true then (bailiwicklaw08_BitsFills.l1 k2 x0_8 true (wrap64 (Int.tmod a1 65)) t139 x9_8 (wrap64 (x13_2 + 1))) else (some false)) = some r := H
                  have A20 := Aside0.mk A200
                  clear A200
                  by_cases c21 : t143 = true
                  · subst c21
                    have H1 : (bailiwicklaw08_BitsFills.l1 k2 x0_8 true (wrap64 (Int.tmod a1 65)) t139 x9_8 (wrap64 (x13_2 + 1))) = some r := by first | (rw [if_pos rfl] at H; exact H) | (rw [if_pos trivial] at H; exact H)
                    clear H
                    have H := H1
                    clear H1
                    have H' := Aside0.mk H
                    clear H
                    go_wp2_with (first | ((with_reducible refine gate_callee (f := 13) rfl ?_); refine goesL_ (some 66) rfl rfl Try.func13 (by kernel_rfl) rfl #[.string x0_8, .int .i64 x13_2] rfl (by (try simp only [List.map_toArray, List.map_cons, List.map_nil]); first | done | rfl | (simp only [List.length_drop, List.length_take]; rfl)) ?_; (with_reducible refine (Go.Proofs.Ytbneljnmhofjfaa.P.bits_Has.calls x0_8 x13_2 true _ A20.out).mono ?_); rintro e w' ⟨rfl, ⟨nd, rfl⟩⟩; refine ⟨_, rfl, ?_⟩))
                    go_roundg k2
                    case measure => have := HJ8.out; have := HK2.out; omega
                    case rel => exact ⟨(wrap64 (x13_2 + 1)), (by first | rfl | (simp; done) | (simp [*]; done)), H', ⟨by have := HJ8.out; have := HK2.out; omega⟩, ⟨by repeat (first | (with_reducible first | exact HB.out | apply below_alloc | apply pw_below_drewN | apply below_drew1) | exact HB.out)⟩⟩
                  · replace c21 := Bool.eq_false_iff.mpr c21
                    subst c21
                    have H1 : (some false) = some r := by rw [if_neg (show ¬ (false = true) by decide)] at H; exact H
                    clear H
                    have H := H1
                    clear H1
                    obtain rfl := Option.some.inj H
                    go_wp2_with (first | ((with_reducible refine gate_callee (f := 13) rfl ?_); refine goesL_ (some 66) rfl rfl Try.func13 (by kernel_rfl) rfl #[.string x0_8, .int .i64 x13_2] rfl (by (try simp only [List.map_toArray, List.map_cons, List.map_nil]); first | done | rfl | (simp only [List.length_drop, List.length_take]; rfl)) ?_; (with_reducible refine (Go.Proofs.Ytbneljnmhofjfaa.P.bits_Has.calls x0_8 x13_2 false _ A20.out).mono ?_); rintro e w' ⟨rfl, ⟨nd, rfl⟩⟩; refine ⟨_, rfl, ?_⟩))
                    go_ret
                    exact ⟨by first | rfl | (simp [errW_none, errW_some] <;> rfl) | (simp only [← hji5, ← hji18]; first | rfl | (simp [errW_none, errW_some] <;> rfl)) | (simp [*, errW_none, errW_some] <;> rfl), by repeat (first | (with_reducible first | exact HB.out | apply below_alloc | apply pw_below_drewN | apply below_drew1) | exact HB.out)⟩
                · rw [if_neg c19] at H
                  have c19b0 : decide (x13_2 < (ji18)) = false := decide_eq_false c19
                  clear c19
                  replace H := Option.bind_eq_some_iff.mp H
                  obtain ⟨⟨t144, t145⟩, A220, H⟩ := H
                  replace H : (if true = true then (if t145 = true then (some false) else ((bits_Count.f x0_8).bind fun t146 => (some (t146 == (wrap64 (t139 + x9_8)))))) else (some false)) = some r := H
                  have A22 := Aside0.mk A220
                  clear A220
                  by_cases c23 : true = true
                  · clear c23
                    have H1 : (if t145 = true then (some false) else ((bits_Count.f x0_8).bind fun t146 => (some (t146 == (wrap64 (t139 + x9_8)))))) = some r := by first | (rw [if_pos rfl] at H; exact H) | (rw [if_pos trivial] at H; exact H)
                    clear H
                    have H := H1
                    clear H1
                    by_cases c24 : t145 = true
                    · subst c24
                      have H1 : (some false) = some r := by first | (rw [if_pos rfl] at H; exact H) | (rw [if_pos trivial] at H; exact H)
                      clear H
                      have H := H1
                      clear H1
                      obtain rfl := Option.some.inj H
                      go_wp2_with (first | ((with_reducible refine gate_callee (f := 11) rfl ?_); refine goesL_ (some 71) rfl rfl Try.func11 (by kernel_rfl) rfl #[.string x0_8, .int .i64 (wrap64 (Int.tmod a1 65))] rfl (by (try simp only [List.map_toArray, List.map_cons, List.map_nil]); first | done | rfl | (simp only [List.length_drop, List.length_take]; rfl)) ?_; (with_reducible refine (bits_First.calls x0_8 (wrap64 (Int.tmod a1 65)) t144 true _ A22.out).mono ?_); rintro e w' ⟨rfl, ⟨nd, rfl⟩⟩; refine ⟨_, rfl, ?_⟩))
                      go_ret
                      exact ⟨by first | rfl | (simp [errW_none, errW_some] <;> rfl) | (simp only [← hji5, ← hji18]; first | rfl | (simp [errW_none, errW_some] <;> rfl)) | (simp [*, errW_none, errW_some] <;> rfl), by repeat (first | (with_reducible first | exact HB.out | apply below_alloc | apply pw_below_drewN | apply below_drew1) | exact HB.out)⟩
                    · replace c24 := Bool.eq_false_iff.mpr c24
                      subst c24
                      have H1 : ((bits_Count.f x0_8).bind fun t146 => (some (t146 == (wrap64 (t139 + x9_8))))) = some r := by rw [if_neg (show ¬ (false = true) by decide)] at H; exact H
                      clear H
                      have H := H1
                      clear H1
                      replace H := Option.bind_eq_some_iff.mp H
                      obtain ⟨t146, A250, H⟩ := H
                      replace H : (some (t146 == (wrap64 (t139 + x9_8)))) = some r := H
                      have A25 := Aside0.mk A250
                      clear A250
                      obtain rfl := Option.some.inj H
                      go_wp2_with (first | ((with_reducible refine gate_callee (f := 11) rfl ?_); refine goesL_ (some 71) rfl rfl Try.func11 (by kernel_rfl) rfl #[.string x0_8, .int .i64 (wrap64 (Int.tmod a1 65))] rfl (by (try simp only [List.map_toArray, List.map_cons, List.map_nil]); first | done | rfl | (simp only [List.length_drop, List.length_take]; rfl)) ?_; (with_reducible refine (bits_First.calls x0_8 (wrap64 (Int.tmod a1 65)) t144 false _ A22.out).mono ?_); rintro e w' ⟨rfl, ⟨nd, rfl⟩⟩; refine ⟨_, rfl, ?_⟩) | (go_at_call 19; (with_reducible refine (bits_Count.calls x0_8 t146 _ A25.out).mono ?_); rintro e w' ⟨rfl, ⟨nd, rfl⟩⟩))
                      go_ret
                      exact ⟨by first | rfl | (simp [errW_none, errW_some] <;> rfl) | (simp only [← hji5, ← hji18]; first | rfl | (simp [errW_none, errW_some] <;> rfl)) | (simp [*, errW_none, errW_some] <;> rfl), by repeat (first | (with_reducible first | exact HB.out | apply below_alloc | apply pw_below_drewN | apply below_drew1) | exact HB.out)⟩
                  · exact absurd rfl c23
      · rw [if_neg c7] at H
        exact absurd H (by simp)
    · rw [if_neg c6] at H
      exact absurd H (by simp)
  · replace c4 := Bool.eq_false_iff.mpr c4
    subst c4
    have H1 : (some false) = some r := by rw [if_neg (show ¬ (false = true) by decide)] at H; exact H
    clear H
    have H := H1
    clear H1
    obtain rfl := Option.some.inj H
    go_enter Try.func7, Try.ntmps7
    go_wp2_with (first | ((with_reducible refine gate_callee (f := 10) rfl ?_); refine goesL_ (some 16) rfl rfl Try.func10 (by kernel_rfl) rfl #[] rfl (by (try simp only [List.map_toArray, List.map_cons, List.map_nil]); first | done | rfl | (simp only [List.length_drop, List.length_take]; rfl)) ?_; (with_reducible refine (bailiwicklaw08_examples.calls  false _ A3.out).mono ?_); rintro e w26 ⟨rfl, hb⟩; refine ⟨_, rfl, ?_⟩; have n0_ := Aside0.mk (below_step (by repeat (first | (with_reducible first | exact HB.out | apply below_alloc | apply pw_below_drewN | apply below_drew1) | exact HB.out)) hb); clear HB; have HB := n0_; clear n0_; (try clear hb); (try clear hb2); (try clear hk); (try clear hi)))
    go_ret
    exact ⟨by first | rfl | (simp [errW_none, errW_some] <;> rfl) | (simp [*, errW_none, errW_some] <;> rfl), by repeat (first | (with_reducible first | exact HB.out | apply below_alloc | apply pw_below_drewN | apply below_drew1) | exact HB.out)⟩

/-- THE ONE PURE STATEMENT of bailiwicklaw08_BitsFills: yours. -/
def bailiwicklaw08_BitsFills.Pure : Prop := ∀ (a0 : ByteArray) (a1 : Int), a0.size ≤ 140737488351232 → (Lit.int .u8 a1).wf = true → ∃ k, bailiwicklaw08_BitsFills.f k a0 a1 = some true
theorem bailiwicklaw08_BitsFills.walk (P : bailiwicklaw08_BitsFills.Pure) (a0 : ByteArray) (a1 : Int) (w : World) (w0 : a0.size ≤ 140737488351232) (w1 : (Lit.int .u8 a1).wf = true) :
    Calls Try.prog 7 #[.string a0, .int .u8 a1] w fun e w' => e = .returned (.bool true) ∧ Below w.heap.size w w' := by
  obtain ⟨k, h⟩ := P a0 a1 w0 w1
  refine (bailiwicklaw08_BitsFills.calls k a0 a1 true w h).mono ?_
  rintro e w' ⟨rfl, hd⟩
  exact ⟨rfl, hd⟩

-- NOT PRINTED: function 29 (bits_both)

-- PROVED BY HAND: function 20 (bits_Join)

/-! ### bailiwickref08_Join: function 21 -/
def bailiwickref08_Join.l0 : Nat → ByteArray → ByteArray → Int → Option (ByteArray)
  | 0, _, _, _ => none
  | k + 1, x0, x1, x5 => if x5 < (wrap64 (8 * (x0.size : Int))) then ((Go.Proofs.Ytbneljnmhofjfaa.P.bailiwickref08_Has.f x1 x5).bind fun t147 => (if t147 = true then ((ref_With.f x0 x5 true).bind fun t148 => (bailiwickref08_Join.l0 k t148 x1 (wrap64 (x5 + 1)))) else (bailiwickref08_Join.l0 k x0 x1 (wrap64 (x5 + 1))))) else (some x0)
def bailiwickref08_Join.f (k : Nat) (a0 : ByteArray) (a1 : ByteArray) : Option (ByteArray) := bailiwickref08_Join.l0 k a0 a1 0
theorem bailiwickref08_Join.mono_l : ∀ k, (∀ y0 y1 y2, LeO (bailiwickref08_Join.l0 k y0 y1 y2) (bailiwickref08_Join.l0 (k + 1) y0 y1 y2))
  | 0 => fun _ _ _ r h => by simp [bailiwickref08_Join.l0] at h
  | k + 1 => by
    have ih0 := bailiwickref08_Join.mono_l k
    · intro y0 y1 y2
      unfold bailiwickref08_Join.l0
      repeat' first
      | (with_reducible exact ih0 _ _ _)
      | (with_reducible exact LeO.refl _)
      | (with_reducible exact LeO.none _)
      | (with_reducible refine LeO.ite ?_ ?_)
      | (with_reducible refine LeO.bind ?_ (fun _ => ?_))
      | exact ih0 _ _ _
      | exact LeO.none _
      | refine LeO.ite ?_ ?_
      | refine LeO.bind ?_ (fun _ => ?_)
theorem bailiwickref08_Join.mono : ∀ a0 a1 k, LeO (bailiwickref08_Join.f k a0 a1) (bailiwickref08_Join.f (k + 1) a0 a1) := by
  intro a0 a1 k
  have ih0 := bailiwickref08_Join.mono_l k
  unfold bailiwickref08_Join.f
  repeat' first
      | (with_reducible exact ih0 _ _ _)
      | (with_reducible exact LeO.refl _)
      | (with_reducible exact LeO.none _)
      | (with_reducible refine LeO.ite ?_ ?_)
      | (with_reducible refine LeO.bind ?_ (fun _ => ?_))
      | exact ih0 _ _ _
      | exact LeO.none _
      | refine LeO.ite ?_ ?_
      | refine LeO.bind ?_ (fun _ => ?_)
set_option maxHeartbeats 8000000 in
set_option maxRecDepth 100000 in
theorem bailiwickref08_Join.calls (k : Nat) (a0 : ByteArray) (a1 : ByteArray) (r : ByteArray) (w : World) (h : bailiwickref08_Join.f k a0 a1 = some r) :
    Calls Try.prog 21 #[.string a0, .string a1] w fun e w' => e = .returned (.string r) ∧ Below w.heap.size w w' := by
  have HB := Aside0.mk (Below.refl w.heap.size w)
  have H : (bailiwickref08_Join.l0 k a0 a1 0) = some r := h
  clear h
  have H' := Aside0.mk H
  clear H
  go_enter Try.func21, Try.ntmps21
  go_wp2
  go_loopg [0, 5] k (fun kq v0 v5 w' => ∃ (x0_1 : ByteArray) (x5_1 : Int), v0 = .string x0_1 ∧ v5 = .int .i64 x5_1 ∧ Aside0 (bailiwickref08_Join.l0 kq x0_1 a1 x5_1 = some r) ∧ Aside0 (kq ≤ k) ∧ Aside0 (Below w.heap.size w w'))
  case atStart => exact ⟨(a0), (0), (by first | rfl | (simp; done) | (simp [*]; done)), (by first | rfl | (simp; done) | (simp [*]; done)), H', ⟨Nat.le_refl _⟩, ⟨by repeat (first | (with_reducible first | exact HB.out | apply below_alloc | apply pw_below_drewN | apply below_drew1) | exact HB.out)⟩⟩
  case round =>
    clear H'
    try clear c2
    try clear p2
    obtain ⟨x0_1, x5_1, rfl, rfl, HA, HK1, HB⟩ := hrel
    cases gk with
    | zero => exact absurd HA.out (by simp [bailiwickref08_Join.l0])
    | succ k1 =>
      have H := HA.out
      clear HA
      simp only [bailiwickref08_Join.l0] at H
      by_cases c3 : x5_1 < (wrap64 (8 * (x0_1.size : Int)))
      · rw [if_pos c3] at H
        have c3b0 : decide (x5_1 < (wrap64 (8 * (x0_1.size : Int)))) = true := decide_eq_true c3
        clear c3
        replace H := Option.bind_eq_some_iff.mp H
        obtain ⟨t147, A40, H⟩ := H
        replace H : (if t147 = true then ((ref_With.f x0_1 x5_1 true).bind fun t148 => (bailiwickref08_Join.l0 k1 t148 a1 (wrap64 (x5_1 + 1)))) else (bailiwickref08_Join.l0 k1 x0_1 a1 (wrap64 (x5_1 + 1)))) = some r := H
        have A4 := Aside0.mk A40
        clear A40
        by_cases c5 : t147 = true
        · subst c5
          have H1 : ((ref_With.f x0_1 x5_1 true).bind fun t148 => (bailiwickref08_Join.l0 k1 t148 a1 (wrap64 (x5_1 + 1)))) = some r := by first | (rw [if_pos rfl] at H; exact H) | (rw [if_pos trivial] at H; exact H)
          clear H
          have H := H1
          clear H1
          replace H := Option.bind_eq_some_iff.mp H
          obtain ⟨t148, A60, H⟩ := H
          replace H : (bailiwickref08_Join.l0 k1 t148 a1 (wrap64 (x5_1 + 1))) = some r := H
          have A6 := Aside0.mk A60
          clear A60
          have H' := Aside0.mk H
          clear H
          go_wp2_with (first | ((with_reducible refine gate_callee (f := 14) rfl ?_); refine goesL_ (some 15) rfl rfl Try.func14 (by kernel_rfl) rfl #[.string a1, .int .i64 x5_1] rfl (by (try simp only [List.map_toArray, List.map_cons, List.map_nil]); first | done | rfl | (simp only [List.length_drop, List.length_take]; rfl)) ?_; (with_reducible refine (Go.Proofs.Ytbneljnmhofjfaa.P.bailiwickref08_Has.calls a1 x5_1 true _ A4.out).mono ?_); rintro e w' ⟨rfl, ⟨nd, rfl⟩⟩; refine ⟨_, rfl, ?_⟩) | ((with_reducible refine gate_callee (f := 16) rfl ?_); refine goesL_ (some 18) rfl rfl Try.func16 (by kernel_rfl) rfl #[.string x0_1, .int .i64 x5_1, .bool true] rfl (by (try simp only [List.map_toArray, List.map_cons, List.map_nil]); first | done | rfl | (simp only [List.length_drop, List.length_take]; rfl)) ?_; (with_reducible refine (ref_With.calls x0_1 x5_1 true t148 _ A6.out).mono ?_); rintro e w7 ⟨rfl, hb⟩; refine ⟨_, rfl, ?_⟩; have n0_ := Aside0.mk (below_step (by repeat (first | (with_reducible first | exact HB.out | apply below_alloc | apply pw_below_drewN | apply below_drew1) | exact HB.out)) hb); clear HB; have HB := n0_; clear n0_; (try clear hb); (try clear hb2); (try clear hk); (try clear hi)))
          go_roundg k1
          case measure => have := HK1.out; omega
          case rel => exact ⟨(t148), (wrap64 (x5_1 + 1)), (by first | rfl | (simp; done) | (simp [*]; done)), (by first | rfl | (simp; done) | (simp [*]; done)), H', ⟨by have := HK1.out; omega⟩, ⟨by repeat (first | (with_reducible first | exact HB.out | apply below_alloc | apply pw_below_drewN | apply below_drew1) | exact HB.out)⟩⟩
        · replace c5 := Bool.eq_false_iff.mpr c5
          subst c5
          have H1 : (bailiwickref08_Join.l0 k1 x0_1 a1 (wrap64 (x5_1 + 1))) = some r := by rw [if_neg (show ¬ (false = true) by decide)] at H; exact H
          clear H
          have H := H1
          clear H1
          have H' := Aside0.mk H
          clear H
          go_wp2_with (first | ((with_reducible refine gate_callee (f := 14) rfl ?_); refine goesL_ (some 15) rfl rfl Try.func14 (by kernel_rfl) rfl #[.string a1, .int .i64 x5_1] rfl (by (try simp only [List.map_toArray, List.map_cons, List.map_nil]); first | done | rfl | (simp only [List.length_drop, List.length_take]; rfl)) ?_; (with_reducible refine (Go.Proofs.Ytbneljnmhofjfaa.P.bailiwickref08_Has.calls a1 x5_1 false _ A4.out).mono ?_); rintro e w' ⟨rfl, ⟨nd, rfl⟩⟩; refine ⟨_, rfl, ?_⟩))
          go_roundg k1
          case measure => have := HK1.out; omega
          case rel => exact ⟨(x0_1), (wrap64 (x5_1 + 1)), (by first | rfl | (simp; done) | (simp [*]; done)), (by first | rfl | (simp; done) | (simp [*]; done)), H', ⟨by have := HK1.out; omega⟩, ⟨by repeat (first | (with_reducible first | exact HB.out | apply below_alloc | apply pw_below_drewN | apply below_drew1) | exact HB.out)⟩⟩
      · rw [if_neg c3] at H
        have c3b0 : decide (x5_1 < (wrap64 (8 * (x0_1.size : Int)))) = false := decide_eq_false c3
        clear c3
        obtain rfl := Option.some.inj H
        go_wp2
        go_ret
        exact ⟨by first | rfl | (simp [errW_none, errW_some] <;> rfl) | (simp [*, errW_none, errW_some] <;> rfl), by repeat (first | (with_reducible first | exact HB.out | apply below_alloc | apply pw_below_drewN | apply below_drew1) | exact HB.out)⟩

-- PROVED BY HAND: function 22 (bits_Less)

/-! ### bailiwickref08_Less: function 23 -/
def bailiwickref08_Less.l0 : Nat → ByteArray → ByteArray → Int → Option (ByteArray)
  | 0, _, _, _ => none
  | k + 1, x0, x1, x5 => if x5 < (wrap64 (8 * (x0.size : Int))) then ((Go.Proofs.Ytbneljnmhofjfaa.P.bailiwickref08_Has.f x1 x5).bind fun t149 => (if t149 = true then ((ref_With.f x0 x5 false).bind fun t150 => (bailiwickref08_Less.l0 k t150 x1 (wrap64 (x5 + 1)))) else (bailiwickref08_Less.l0 k x0 x1 (wrap64 (x5 + 1))))) else (some x0)
def bailiwickref08_Less.f (k : Nat) (a0 : ByteArray) (a1 : ByteArray) : Option (ByteArray) := bailiwickref08_Less.l0 k a0 a1 0
theorem bailiwickref08_Less.mono_l : ∀ k, (∀ y0 y1 y2, LeO (bailiwickref08_Less.l0 k y0 y1 y2) (bailiwickref08_Less.l0 (k + 1) y0 y1 y2))
  | 0 => fun _ _ _ r h => by simp [bailiwickref08_Less.l0] at h
  | k + 1 => by
    have ih0 := bailiwickref08_Less.mono_l k
    · intro y0 y1 y2
      unfold bailiwickref08_Less.l0
      repeat' first
      | (with_reducible exact ih0 _ _ _)
      | (with_reducible exact LeO.refl _)
      | (with_reducible exact LeO.none _)
      | (with_reducible refine LeO.ite ?_ ?_)
      | (with_reducible refine LeO.bind ?_ (fun _ => ?_))
      | exact ih0 _ _ _
      | exact LeO.none _
      | refine LeO.ite ?_ ?_
      | refine LeO.bind ?_ (fun _ => ?_)
theorem bailiwickref08_Less.mono : ∀ a0 a1 k, LeO (bailiwickref08_Less.f k a0 a1) (bailiwickref08_Less.f (k + 1) a0 a1) := by
  intro a0 a1 k
  have ih0 := bailiwickref08_Less.mono_l k
  unfold bailiwickref08_Less.f
  repeat' first
      | (with_reducible exact ih0 _ _ _)
      | (with_reducible exact LeO.refl _)
      | (with_reducible exact LeO.none _)
      | (with_reducible refine LeO.ite ?_ ?_)
      | (with_reducible refine LeO.bind ?_ (fun _ => ?_))
      | exact ih0 _ _ _
      | exact LeO.none _
      | refine LeO.ite ?_ ?_
      | refine LeO.bind ?_ (fun _ => ?_)
set_option maxHeartbeats 8000000 in
set_option maxRecDepth 100000 in
theorem bailiwickref08_Less.calls (k : Nat) (a0 : ByteArray) (a1 : ByteArray) (r : ByteArray) (w : World) (h : bailiwickref08_Less.f k a0 a1 = some r) :
    Calls Try.prog 23 #[.string a0, .string a1] w fun e w' => e = .returned (.string r) ∧ Below w.heap.size w w' := by
  have HB := Aside0.mk (Below.refl w.heap.size w)
  have H : (bailiwickref08_Less.l0 k a0 a1 0) = some r := h
  clear h
  have H' := Aside0.mk H
  clear H
  go_enter Try.func23, Try.ntmps23
  go_wp2
  go_loopg [0, 5] k (fun kq v0 v5 w' => ∃ (x0_1 : ByteArray) (x5_1 : Int), v0 = .string x0_1 ∧ v5 = .int .i64 x5_1 ∧ Aside0 (bailiwickref08_Less.l0 kq x0_1 a1 x5_1 = some r) ∧ Aside0 (kq ≤ k) ∧ Aside0 (Below w.heap.size w w'))
  case atStart => exact ⟨(a0), (0), (by first | rfl | (simp; done) | (simp [*]; done)), (by first | rfl | (simp; done) | (simp [*]; done)), H', ⟨Nat.le_refl _⟩, ⟨by repeat (first | (with_reducible first | exact HB.out | apply below_alloc | apply pw_below_drewN | apply below_drew1) | exact HB.out)⟩⟩
  case round =>
    clear H'
    try clear c2
    try clear p2
    obtain ⟨x0_1, x5_1, rfl, rfl, HA, HK1, HB⟩ := hrel
    cases gk with
    | zero => exact absurd HA.out (by simp [bailiwickref08_Less.l0])
    | succ k1 =>
      have H := HA.out
      clear HA
      simp only [bailiwickref08_Less.l0] at H
      by_cases c3 : x5_1 < (wrap64 (8 * (x0_1.size : Int)))
      · rw [if_pos c3] at H
        have c3b0 : decide (x5_1 < (wrap64 (8 * (x0_1.size : Int)))) = true := decide_eq_true c3
        clear c3
        replace H := Option.bind_eq_some_iff.mp H
        obtain ⟨t149, A40, H⟩ := H
        replace H : (if t149 = true then ((ref_With.f x0_1 x5_1 false).bind fun t150 => (bailiwickref08_Less.l0 k1 t150 a1 (wrap64 (x5_1 + 1)))) else (bailiwickref08_Less.l0 k1 x0_1 a1 (wrap64 (x5_1 + 1)))) = some r := H
        have A4 := Aside0.mk A40
        clear A40
        by_cases c5 : t149 = true
        · subst c5
          have H1 : ((ref_With.f x0_1 x5_1 false).bind fun t150 => (bailiwickref08_Less.l0 k1 t150 a1 (wrap64 (x5_1 + 1)))) = some r := by first | (rw [if_pos rfl] at H; exact H) | (rw [if_pos trivial] at H; exact H)
          clear H
          have H := H1
          clear H1
          replace H := Option.bind_eq_some_iff.mp H
          obtain ⟨t150, A60, H⟩ := H
          replace H : (bailiwickref08_Less.l0 k1 t150 a1 (wrap64 (x5_1 + 1))) = some r := H
          have A6 := Aside0.mk A60
          clear A60
          have H' := Aside0.mk H
          clear H
          go_wp2_with (first | ((with_reducible refine gate_callee (f := 14) rfl ?_); refine goesL_ (some 15) rfl rfl Try.func14 (by kernel_rfl) rfl #[.string a1, .int .i64 x5_1] rfl (by (try simp only [List.map_toArray, List.map_cons, List.map_nil]); first | done | rfl | (simp only [List.length_drop, List.length_take]; rfl)) ?_; (with_reducible refine (Go.Proofs.Ytbneljnmhofjfaa.P.bailiwickref08_Has.calls a1 x5_1 true _ A4.out).mono ?_); rintro e w' ⟨rfl, ⟨nd, rfl⟩⟩; refine ⟨_, rfl, ?_⟩) | ((with_reducible refine gate_callee (f := 16) rfl ?_); refine goesL_ (some 18) rfl rfl Try.func16 (by kernel_rfl) rfl #[.string x0_1, .int .i64 x5_1, .bool false] rfl (by (try simp only [List.map_toArray, List.map_cons, List.map_nil]); first | done | rfl | (simp only [List.length_drop, List.length_take]; rfl)) ?_; (with_reducible refine (ref_With.calls x0_1 x5_1 false t150 _ A6.out).mono ?_); rintro e w7 ⟨rfl, hb⟩; refine ⟨_, rfl, ?_⟩; have n0_ := Aside0.mk (below_step (by repeat (first | (with_reducible first | exact HB.out | apply below_alloc | apply pw_below_drewN | apply below_drew1) | exact HB.out)) hb); clear HB; have HB := n0_; clear n0_; (try clear hb); (try clear hb2); (try clear hk); (try clear hi)))
          go_roundg k1
          case measure => have := HK1.out; omega
          case rel => exact ⟨(t150), (wrap64 (x5_1 + 1)), (by first | rfl | (simp; done) | (simp [*]; done)), (by first | rfl | (simp; done) | (simp [*]; done)), H', ⟨by have := HK1.out; omega⟩, ⟨by repeat (first | (with_reducible first | exact HB.out | apply below_alloc | apply pw_below_drewN | apply below_drew1) | exact HB.out)⟩⟩
        · replace c5 := Bool.eq_false_iff.mpr c5
          subst c5
          have H1 : (bailiwickref08_Less.l0 k1 x0_1 a1 (wrap64 (x5_1 + 1))) = some r := by rw [if_neg (show ¬ (false = true) by decide)] at H; exact H
          clear H
          have H := H1
          clear H1
          have H' := Aside0.mk H
          clear H
          go_wp2_with (first | ((with_reducible refine gate_callee (f := 14) rfl ?_); refine goesL_ (some 15) rfl rfl Try.func14 (by kernel_rfl) rfl #[.string a1, .int .i64 x5_1] rfl (by (try simp only [List.map_toArray, List.map_cons, List.map_nil]); first | done | rfl | (simp only [List.length_drop, List.length_take]; rfl)) ?_; (with_reducible refine (Go.Proofs.Ytbneljnmhofjfaa.P.bailiwickref08_Has.calls a1 x5_1 false _ A4.out).mono ?_); rintro e w' ⟨rfl, ⟨nd, rfl⟩⟩; refine ⟨_, rfl, ?_⟩))
          go_roundg k1
          case measure => have := HK1.out; omega
          case rel => exact ⟨(x0_1), (wrap64 (x5_1 + 1)), (by first | rfl | (simp; done) | (simp [*]; done)), (by first | rfl | (simp; done) | (simp [*]; done)), H', ⟨by have := HK1.out; omega⟩, ⟨by repeat (first | (with_reducible first | exact HB.out | apply below_alloc | apply pw_below_drewN | apply below_drew1) | exact HB.out)⟩⟩
      · rw [if_neg c3] at H
        have c3b0 : decide (x5_1 < (wrap64 (8 * (x0_1.size : Int)))) = false := decide_eq_false c3
        clear c3
        obtain rfl := Option.some.inj H
        go_wp2
        go_ret
        exact ⟨by first | rfl | (simp [errW_none, errW_some] <;> rfl) | (simp [*, errW_none, errW_some] <;> rfl), by repeat (first | (with_reducible first | exact HB.out | apply below_alloc | apply pw_below_drewN | apply below_drew1) | exact HB.out)⟩

-- PROVED BY HAND: function 24 (bailiwickref08_Count)

/-! ### bailiwicklaw08_BitsBoth: function 8 -/
def bailiwicklaw08_BitsBoth.f (k : Nat) (a0 : ByteArray) (a1 : ByteArray) : Option (Bool) := (bailiwicklaw08_examples.f).bind fun t151 => (if t151 = true then (if 0 ≤ (mn (a0.size : Int) 300) then (if (mn (a0.size : Int) 300) ≤ (a0.size : Int) then (if 0 ≤ (mn (a1.size : Int) 300) then (if (mn (a1.size : Int) 300) ≤ (a1.size : Int) then ((Join.f (a0.extract 0 ((mn (a0.size : Int) 300) : Int).toNat) (a1.extract 0 ((mn (a1.size : Int) 300) : Int).toNat)).bind fun t152 => ((bailiwickref08_Join.f k (a0.extract 0 ((mn (a0.size : Int) 300) : Int).toNat) (a1.extract 0 ((mn (a1.size : Int) 300) : Int).toNat)).bind fun t153 => (if t152.toList = t153.toList then ((Less.f (a0.extract 0 ((mn (a0.size : Int) 300) : Int).toNat) (a1.extract 0 ((mn (a1.size : Int) 300) : Int).toNat)).bind fun t154 => ((bailiwickref08_Less.f k (a0.extract 0 ((mn (a0.size : Int) 300) : Int).toNat) (a1.extract 0 ((mn (a1.size : Int) 300) : Int).toNat)).bind fun t155 => (if t154.toList = t155.toList then ((bits_Count.f (a0.extract 0 ((mn (a0.size : Int) 300) : Int).toNat)).bind fun t156 => ((Go.Proofs.Ytbneljnmhofjfaa.P.bailiwickref08_Count.f k (a0.extract 0 ((mn (a0.size : Int) 300) : Int).toNat)).bind fun t157 => (some (t156 == t157)))) else (some false)))) else (some false)))) else (none)) else (none)) else (none)) else (none)) else (some false))
theorem bailiwicklaw08_BitsBoth.mono : ∀ a0 a1 k, LeO (bailiwicklaw08_BitsBoth.f k a0 a1) (bailiwicklaw08_BitsBoth.f (k + 1) a0 a1) := by
  intro a0 a1 k
  unfold bailiwicklaw08_BitsBoth.f
  repeat' first
      | (with_reducible exact Go.Proofs.Ytbneljnmhofjfaa.P.bailiwickref08_Count.mono _ _)
      | (with_reducible exact bailiwickref08_Join.mono _ _ _)
      | (with_reducible exact bailiwickref08_Less.mono _ _ _)
      | (with_reducible exact LeO.refl _)
      | (with_reducible exact LeO.none _)
      | (with_reducible refine LeO.ite ?_ ?_)
      | (with_reducible refine LeO.bind ?_ (fun _ => ?_))
      | exact Go.Proofs.Ytbneljnmhofjfaa.P.bailiwickref08_Count.mono _ _
      | exact bailiwickref08_Join.mono _ _ _
      | exact bailiwickref08_Less.mono _ _ _
      | exact LeO.none _
      | refine LeO.ite ?_ ?_
      | refine LeO.bind ?_ (fun _ => ?_)
set_option maxHeartbeats 8000000 in
set_option maxRecDepth 100000 in
theorem bailiwicklaw08_BitsBoth.calls (k : Nat) (a0 : ByteArray) (a1 : ByteArray) (r : Bool) (w : World) (h : bailiwicklaw08_BitsBoth.f k a0 a1 = some r) :
    Calls Try.prog 8 #[.string a0, .string a1] w fun e w' => e = .returned (.bool r) ∧ Below w.heap.size w w' := by
  have HB := Aside0.mk (Below.refl w.heap.size w)
  have H : ((bailiwicklaw08_examples.f).bind fun t151 => (if t151 = true then (if 0 ≤ (mn (a0.size : Int) 300) then (if (mn (a0.size : Int) 300) ≤ (a0.size : Int) then (if 0 ≤ (mn (a1.size : Int) 300) then (if (mn (a1.size : Int) 300) ≤ (a1.size : Int) then ((Join.f (a0.extract 0 ((mn (a0.size : Int) 300) : Int).toNat) (a1.extract 0 ((mn (a1.size : Int) 300) : Int).toNat)).bind fun t152 => ((bailiwickref08_Join.f k (a0.extract 0 ((mn (a0.size : Int) 300) : Int).toNat) (a1.extract 0 ((mn (a1.size : Int) 300) : Int).toNat)).bind fun t153 => (if t152.toList = t153.toList then ((Less.f (a0.extract 0 ((mn (a0.size : Int) 300) : Int).toNat) (a1.extract 0 ((mn (a1.size : Int) 300) : Int).toNat)).bind fun t154 => ((bailiwickref08_Less.f k (a0.extract 0 ((mn (a0.size : Int) 300) : Int).toNat) (a1.extract 0 ((mn (a1.size : Int) 300) : Int).toNat)).bind fun t155 => (if t154.toList = t155.toList then ((bits_Count.f (a0.extract 0 ((mn (a0.size : Int) 300) : Int).toNat)).bind fun t156 => ((Go.Proofs.Ytbneljnmhofjfaa.P.bailiwickref08_Count.f k (a0.extract 0 ((mn (a0.size : Int) 300) : Int).toNat)).bind fun t157 => (some (t156 == t157)))) else (some false)))) else (some false)))) else (none)) else (none)) else (none)) else (none)) else (some false))) = some r := h
  clear h
  replace H := Option.bind_eq_some_iff.mp H
  obtain ⟨t151, A30, H⟩ := H
  replace H : (if t151 = true then (if 0 ≤ (mn (a0.size : Int) 300) then (if (mn (a0.size : Int) 300) ≤ (a0.size : Int) then (if 0 ≤ (mn (a1.size : Int) 300) then (if (mn (a1.size : Int) 300) ≤ (a1.size : Int) then ((Join.f (a0.extract 0 ((mn (a0.size : Int) 300) : Int).toNat) (a1.extract 0 ((mn (a1.size : Int) 300) : Int).toNat)).bind fun t152 => ((bailiwickref08_Join.f k (a0.extract 0 ((mn (a0.size : Int) 300) : Int).toNat) (a1.extract 0 ((mn (a1.size : Int) 300) : Int).toNat)).bind fun t153 => (if t152.toList = t153.toList then ((Less.f (a0.extract 0 ((mn (a0.size : Int) 300) : Int).toNat) (a1.extract 0 ((mn (a1.size : Int) 300) : Int).toNat)).bind fun t154 => ((bailiwickref08_Less.f k (a0.extract 0 ((mn (a0.size : Int) 300) : Int).toNat) (a1.extract 0 ((mn (a1.size : Int) 300) : Int).toNat)).bind fun t155 => (if t154.toList = t155.toList then ((bits_Count.f (a0.extract 0 ((mn (a0.size : Int) 300) : Int).toNat)).bind fun t156 => ((Go.Proofs.Ytbneljnmhofjfaa.P.bailiwickref08_Count.f k (a0.extract 0 ((mn (a0.size : Int) 300) : Int).toNat)).bind fun t157 => (some (t156 == t157)))) else (some false)))) else (some false)))) else (none)) else (none)) else (none)) else (none)) else (some false)) = some r := H
  have A3 := Aside0.mk A30
  clear A30
  by_cases c4 : t151 = true
  · subst c4
    have H1 : (if 0 ≤ (mn (a0.size : Int) 300) then (if (mn (a0.size : Int) 300) ≤ (a0.size : Int) then (if 0 ≤ (mn (a1.size : Int) 300) then (if (mn (a1.size : Int) 300) ≤ (a1.size : Int) then ((Join.f (a0.extract 0 ((mn (a0.size : Int) 300) : Int).toNat) (a1.extract 0 ((mn (a1.size : Int) 300) : Int).toNat)).bind fun t152 => ((bailiwickref08_Join.f k (a0.extract 0 ((mn (a0.size : Int) 300) : Int).toNat) (a1.extract 0 ((mn (a1.size : Int) 300) : Int).toNat)).bind fun t153 => (if t152.toList = t153.toList then ((Less.f (a0.extract 0 ((mn (a0.size : Int) 300) : Int).toNat) (a1.extract 0 ((mn (a1.size : Int) 300) : Int).toNat)).bind fun t154 => ((bailiwickref08_Less.f k (a0.extract 0 ((mn (a0.size : Int) 300) : Int).toNat) (a1.extract 0 ((mn (a1.size : Int) 300) : Int).toNat)).bind fun t155 => (if t154.toList = t155.toList then ((bits_Count.f (a0.extract 0 ((mn (a0.size : Int) 300) : Int).toNat)).bind fun t156 => ((Go.Proofs.Ytbneljnmhofjfaa.P.bailiwickref08_Count.f k (a0.extract 0 ((mn (a0.size : Int) 300) : Int).toNat)).bind fun t157 => (some (t156 == t157)))) else (some false)))) else (some false)))) else (none)) else (none)) else (none)) else (none)) = some r := by first | (rw [if_pos rfl] at H; exact H) | (rw [if_pos trivial] at H; exact H)
    clear H
    have H := H1
    clear H1
    obtain ⟨ji5, hji5⟩ : ∃ j_ : Int, (mn (a0.size : Int) 300) = j_ := ⟨_, rfl⟩
    replace H : (if 0 ≤ (ji5) then (if (ji5) ≤ (a0.size : Int) then (if 0 ≤ (mn (a1.size : Int) 300) then (if (mn (a1.size : Int) 300) ≤ (a1.size : Int) then ((Join.f (a0.extract 0 ((ji5) : Int).toNat) (a1.extract 0 ((mn (a1.size : Int) 300) : Int).toNat)).bind fun t152 => ((bailiwickref08_Join.f k (a0.extract 0 ((ji5) : Int).toNat) (a1.extract 0 ((mn (a1.size : Int) 300) : Int).toNat)).bind fun t153 => (if t152.toList = t153.toList then ((Less.f (a0.extract 0 ((ji5) : Int).toNat) (a1.extract 0 ((mn (a1.size : Int) 300) : Int).toNat)).bind fun t154 => ((bailiwickref08_Less.f k (a0.extract 0 ((ji5) : Int).toNat) (a1.extract 0 ((mn (a1.size : Int) 300) : Int).toNat)).bind fun t155 => (if t154.toList = t155.toList then ((bits_Count.f (a0.extract 0 ((ji5) : Int).toNat)).bind fun t156 => ((Go.Proofs.Ytbneljnmhofjfaa.P.bailiwickref08_Count.f k (a0.extract 0 ((ji5) : Int).toNat)).bind fun t157 => (some (t156 == t157)))) else (some false)))) else (some false)))) else (none)) else (none)) else (none)) else (none)) = some r := by first | (rw [hji5] at H; exact H) | (simp only [hji5] at H ⊢; exact H)
    (try rw [hji5] at A3)
    (try (have hji5h : ji5 ≤ 300 := by (rw [← hji5]; unfold mn; (repeat' split) <;> omega)))
    (try (have hji5g : ji5 ≤ 64 := by omega))
    (try (have hji5l : 0 ≤ ji5 := by (rw [← hji5]; unfold mn; (repeat' split) <;> omega)))
    (try (have hji5m : 0 ≤ ji5 := by omega))
    have hji5_ : (if 300 < (a0.size : Int) then 300 else (a0.size : Int)) = ji5 := hji5
    obtain ⟨bx5_a0, hbx5_a0⟩ : ∃ b_ : ByteArray, (a0.extract 0 (ji5 : Int).toNat) = b_ := ⟨_, rfl⟩
    have hbx5_a0z : bx5_a0.size ≤ 300 := by rw [← hbx5_a0, ByteArray.size_extract]; omega
    simp only [hbx5_a0] at H
    by_cases c6 : 0 ≤ (ji5)
    · rw [if_pos c6] at H
      have c6b0 := eq_true c6
      have c6b1 : decide (0 ≤ (ji5)) = true := decide_eq_true c6
      clear c6
      by_cases c7 : (ji5) ≤ (a0.size : Int)
      · rw [if_pos c7] at H
        have c7b0 := eq_true c7
        have c7b1 : decide ((ji5) ≤ (a0.size : Int)) = true := decide_eq_true c7
        clear c7
        obtain ⟨ji8, hji8⟩ : ∃ j_ : Int, (mn (a1.size : Int) 300) = j_ := ⟨_, rfl⟩
        replace H : (if 0 ≤ (ji8) then (if (ji8) ≤ (a1.size : Int) then ((Join.f bx5_a0 (a1.extract 0 ((ji8) : Int).toNat)).bind fun t152 => ((bailiwickref08_Join.f k bx5_a0 (a1.extract 0 ((ji8) : Int).toNat)).bind fun t153 => (if t152.toList = t153.toList then ((Less.f bx5_a0 (a1.extract 0 ((ji8) : Int).toNat)).bind fun t154 => ((bailiwickref08_Less.f k bx5_a0 (a1.extract 0 ((ji8) : Int).toNat)).bind fun t155 => (if t154.toList = t155.toList then ((bits_Count.f bx5_a0).bind fun t156 => ((Go.Proofs.Ytbneljnmhofjfaa.P.bailiwickref08_Count.f k bx5_a0).bind fun t157 => (some (t156 == t157)))) else (some false)))) else (some false)))) else (none)) else (none)) = some r := by first | (rw [hji8] at H; exact H) | (simp only [hji8] at H ⊢; exact H)
        (try rw [hji8] at A3)
        (try (have hji8h : ji8 ≤ 300 := by (rw [← hji8]; unfold mn; (repeat' split) <;> omega)))
        (try (have hji8g : ji8 ≤ 64 := by omega))
        (try (have hji8l : 0 ≤ ji8 := by (rw [← hji8]; unfold mn; (repeat' split) <;> omega)))
        (try (have hji8m : 0 ≤ ji8 := by omega))
        have hji8_ : (if 300 < (a1.size : Int) then 300 else (a1.size : Int)) = ji8 := hji8
        obtain ⟨bx8_a1, hbx8_a1⟩ : ∃ b_ : ByteArray, (a1.extract 0 (ji8 : Int).toNat) = b_ := ⟨_, rfl⟩
        have hbx8_a1z : bx8_a1.size ≤ 300 := by rw [← hbx8_a1, ByteArray.size_extract]; omega
        simp only [hbx8_a1] at H
        by_cases c9 : 0 ≤ (ji8)
        · rw [if_pos c9] at H
          have c9b0 := eq_true c9
          have c9b1 : decide (0 ≤ (ji8)) = true := decide_eq_true c9
          clear c9
          by_cases c10 : (ji8) ≤ (a1.size : Int)
          · rw [if_pos c10] at H
            have c10b0 := eq_true c10
            have c10b1 : decide ((ji8) ≤ (a1.size : Int)) = true := decide_eq_true c10
            clear c10
            replace H := Option.bind_eq_some_iff.mp H
            obtain ⟨t152, A110, H⟩ := H
            replace H : ((bailiwickref08_Join.f k bx5_a0 bx8_a1).bind fun t153 => (if t152.toList = t153.toList then ((Less.f bx5_a0 bx8_a1).bind fun t154 => ((bailiwickref08_Less.f k bx5_a0 bx8_a1).bind fun t155 => (if t154.toList = t155.toList then ((bits_Count.f bx5_a0).bind fun t156 => ((Go.Proofs.Ytbneljnmhofjfaa.P.bailiwickref08_Count.f k bx5_a0).bind fun t157 => (some (t156 == t157)))) else (some false)))) else (some false))) = some r := H
            have A11 := Aside0.mk A110
            clear A110
            replace H := Option.bind_eq_some_iff.mp H
            obtain ⟨t153, A120, H⟩ := H
            replace H : (if t152.toList = t153.toList then ((Less.f bx5_a0 bx8_a1).bind fun t154 => ((bailiwickref08_Less.f k bx5_a0 bx8_a1).bind fun t155 => (if t154.toList = t155.toList then ((bits_Count.f bx5_a0).bind fun t156 => ((Go.Proofs.Ytbneljnmhofjfaa.P.bailiwickref08_Count.f k bx5_a0).bind fun t157 => (some (t156 == t157)))) else (some false)))) else (some false)) = some r := H
            have A12 := Aside0.mk A120
            clear A120
            by_cases c13 : t152.toList = t153.toList
            · rw [if_pos c13] at H
              have c13b0 : (t152.toList == t153.toList) = true := beq_iff_eq.mpr c13
              have c13b1 : (t152.toList != t153.toList) = false := bne_eq_false_iff_eq.mpr c13
              clear c13
              replace H := Option.bind_eq_some_iff.mp H
              obtain ⟨t154, A140, H⟩ := H
              replace H : ((bailiwickref08_Less.f k bx5_a0 bx8_a1).bind fun t155 => (if t154.toList = t155.toList then ((bits_Count.f bx5_a0).bind fun t156 => ((Go.Proofs.Ytbneljnmhofjfaa.P.bailiwickref08_Count.f k bx5_a0).bind fun t157 => (some (t156 == t157)))) else (some false))) = some r := H
              have A14 := Aside0.mk A140
              clear A140
              replace H := Option.bind_eq_some_iff.mp H
              obtain ⟨t155, A150, H⟩ := H
              replace H : (if t154.toList = t155.toList then ((bits_Count.f bx5_a0).bind fun t156 => ((Go.Proofs.Ytbneljnmhofjfaa.P.bailiwickref08_Count.f k bx5_a0).bind fun t157 => (some (t156 == t157)))) else (some false)) = some r := H
              have A15 := Aside0.mk A150
              clear A150
              by_cases c16 : t154.toList = t155.toList
              · rw [if_pos c16] at H
                have c16b0 : (t154.toList == t155.toList) = true := beq_iff_eq.mpr c16
                have c16b1 : (t154.toList != t155.toList) = false := bne_eq_false_iff_eq.mpr c16
                clear c16
                replace H := Option.bind_eq_some_iff.mp H
                obtain ⟨t156, A170, H⟩ := H
                replace H : ((Go.Proofs.Ytbneljnmhofjfaa.P.bailiwickref08_Count.f k bx5_a0).bind fun t157 => (some (t156 == t157))) = some r := H
                have A17 := Aside0.mk A170
                clear A170
                replace H := Option.bind_eq_some_iff.mp H
                obtain ⟨t157, A180, H⟩ := H
                replace H : (some (t156 == t157)) = some r := H
                have A18 := Aside0.mk A180
                clear A180
                obtain rfl := Option.some.inj H
                go_enter Try.func8, Try.ntmps8
                go_wp2_with (first | ((with_reducible refine gate_callee (f := 10) rfl ?_); refine goesL_ (some 6) rfl rfl Try.func10 (by kernel_rfl) rfl #[] rfl (by (try simp only [List.map_toArray, List.map_cons, List.map_nil]); first | done | rfl | (simp only [List.length_drop, List.length_take]; rfl)) ?_; (with_reducible refine (bailiwicklaw08_examples.calls  true _ A3.out).mono ?_); rintro e w19 ⟨rfl, hb⟩; refine ⟨_, rfl, ?_⟩; have n0_ := Aside0.mk (below_step (by repeat (first | (with_reducible first | exact HB.out | apply below_alloc | apply pw_below_drewN | apply below_drew1) | exact HB.out)) hb); clear HB; have HB := n0_; clear n0_; (try clear hb); (try clear hb2); (try clear hk); (try clear hi)) | (go_at_call 20; (with_reducible refine (Join.calls bx5_a0 bx8_a1 t152 _ A11.out).mono ?_); rintro e w20 ⟨rfl, hb⟩; have n0_ := Aside0.mk (below_step (by repeat (first | (with_reducible first | exact HB.out | apply below_alloc | apply pw_below_drewN | apply below_drew1) | exact HB.out)) hb); clear HB; have HB := n0_; clear n0_; (try clear hb); (try clear hb2); (try clear hk); (try clear hi)) | (go_at_call 21; (with_reducible refine (bailiwickref08_Join.calls k bx5_a0 bx8_a1 t153 _ A12.out).mono ?_); rintro e w21 ⟨rfl, hb⟩; have n0_ := Aside0.mk (below_step (by repeat (first | (with_reducible first | exact HB.out | apply below_alloc | apply pw_below_drewN | apply below_drew1) | exact HB.out)) hb); clear HB; have HB := n0_; clear n0_; (try clear hb); (try clear hb2); (try clear hk); (try clear hi)) | (go_at_call 22; (with_reducible refine (Less.calls bx5_a0 bx8_a1 t154 _ A14.out).mono ?_); rintro e w22 ⟨rfl, hb⟩; have n0_ := Aside0.mk (below_step (by repeat (first | (with_reducible first | exact HB.out | apply below_alloc | apply pw_below_drewN | apply below_drew1) | exact HB.out)) hb); clear HB; have HB := n0_; clear n0_; (try clear hb); (try clear hb2); (try clear hk); (try clear hi)) | (go_at_call 23; (with_reducible refine (bailiwickref08_Less.calls k bx5_a0 bx8_a1 t155 _ A15.out).mono ?_); rintro e w23 ⟨rfl, hb⟩; have n0_ := Aside0.mk (below_step (by repeat (first | (with_reducible first | exact HB.out | apply below_alloc | apply pw_below_drewN | apply below_drew1) | exact HB.out)) hb); clear HB; have HB := n0_; clear n0_; (try clear hb); (try clear hb2); (try clear hk); (try clear hi)) | (go_at_call 19; (with_reducible refine (bits_Count.calls bx5_a0 t156 _ A17.out).mono ?_); rintro e w' ⟨rfl, ⟨nd, rfl⟩⟩) | (go_at_call 24; (with_reducible refine (Go.Proofs.Ytbneljnmhofjfaa.P.bailiwickref08_Count.calls k bx5_a0 t157 _ A18.out).mono ?_); rintro e w' ⟨rfl, ⟨nd, rfl⟩⟩))
                go_ret
                exact ⟨by first | rfl | (simp [errW_none, errW_some] <;> rfl) | (simp only [← hji5, ← hji8]; first | rfl | (simp [errW_none, errW_some] <;> rfl)) | (simp [*, errW_none, errW_some] <;> rfl), by repeat (first | (with_reducible first | exact HB.out | apply below_alloc | apply pw_below_drewN | apply below_drew1) | exact HB.out)⟩
              · rw [if_neg c16] at H
                have c16b0 : (t154.toList == t155.toList) = false := beq_eq_false_iff_ne.mpr c16
                have c16b1 : (t154.toList != t155.toList) = true := bne_iff_ne.mpr c16
                obtain rfl := Option.some.inj H
                go_enter Try.func8, Try.ntmps8
                go_wp2_with (first | ((with_reducible refine gate_callee (f := 10) rfl ?_); refine goesL_ (some 6) rfl rfl Try.func10 (by kernel_rfl) rfl #[] rfl (by (try simp only [List.map_toArray, List.map_cons, List.map_nil]); first | done | rfl | (simp only [List.length_drop, List.length_take]; rfl)) ?_; (with_reducible refine (bailiwicklaw08_examples.calls  true _ A3.out).mono ?_); rintro e w24 ⟨rfl, hb⟩; refine ⟨_, rfl, ?_⟩; have n0_ := Aside0.mk (below_step (by repeat (first | (with_reducible first | exact HB.out | apply below_alloc | apply pw_below_drewN | apply below_drew1) | exact HB.out)) hb); clear HB; have HB := n0_; clear n0_; (try clear hb); (try clear hb2); (try clear hk); (try clear hi)) | (go_at_call 20; (with_reducible refine (Join.calls bx5_a0 bx8_a1 t152 _ A11.out).mono ?_); rintro e w25 ⟨rfl, hb⟩; have n0_ := Aside0.mk (below_step (by repeat (first | (with_reducible first | exact HB.out | apply below_alloc | apply pw_below_drewN | apply below_drew1) | exact HB.out)) hb); clear HB; have HB := n0_; clear n0_; (try clear hb); (try clear hb2); (try clear hk); (try clear hi)) | (go_at_call 21; (with_reducible refine (bailiwickref08_Join.calls k bx5_a0 bx8_a1 t153 _ A12.out).mono ?_); rintro e w26 ⟨rfl, hb⟩; have n0_ := Aside0.mk (below_step (by repeat (first | (with_reducible first | exact HB.out | apply below_alloc | apply pw_below_drewN | apply below_drew1) | exact HB.out)) hb); clear HB; have HB := n0_; clear n0_; (try clear hb); (try clear hb2); (try clear hk); (try clear hi)) | (go_at_call 22; (with_reducible refine (Less.calls bx5_a0 bx8_a1 t154 _ A14.out).mono ?_); rintro e w27 ⟨rfl, hb⟩; have n0_ := Aside0.mk (below_step (by repeat (first | (with_reducible first | exact HB.out | apply below_alloc | apply pw_below_drewN | apply below_drew1) | exact HB.out)) hb); clear HB; have HB := n0_; clear n0_; (try clear hb); (try clear hb2); (try clear hk); (try clear hi)) | (go_at_call 23; (with_reducible refine (bailiwickref08_Less.calls k bx5_a0 bx8_a1 t155 _ A15.out).mono ?_); rintro e w28 ⟨rfl, hb⟩; have n0_ := Aside0.mk (below_step (by repeat (first | (with_reducible first | exact HB.out | apply below_alloc | apply pw_below_drewN | apply below_drew1) | exact HB.out)) hb); clear HB; have HB := n0_; clear n0_; (try clear hb); (try clear hb2); (try clear hk); (try clear hi)))
                go_ret
                exact ⟨by first | rfl | (simp [errW_none, errW_some] <;> rfl) | (simp only [← hji5, ← hji8]; first | rfl | (simp [errW_none, errW_some] <;> rfl)) | (simp [*, errW_none, errW_some] <;> rfl), by repeat (first | (with_reducible first | exact HB.out | apply below_alloc | apply pw_below_drewN | apply below_drew1) | exact HB.out)⟩
            · rw [if_neg c13] at H
              have c13b0 : (t152.toList == t153.toList) = false := beq_eq_false_iff_ne.mpr c13
              have c13b1 : (t152.toList != t153.toList) = true := bne_iff_ne.mpr c13
              obtain rfl := Option.some.inj H
              go_enter Try.func8, Try.ntmps8
              go_wp2_with (first | ((with_reducible refine gate_callee (f := 10) rfl ?_); refine goesL_ (some 6) rfl rfl Try.func10 (by kernel_rfl) rfl #[] rfl (by (try simp only [List.map_toArray, List.map_cons, List.map_nil]); first | done | rfl | (simp only [List.length_drop, List.length_take]; rfl)) ?_; (with_reducible refine (bailiwicklaw08_examples.calls  true _ A3.out).mono ?_); rintro e w29 ⟨rfl, hb⟩; refine ⟨_, rfl, ?_⟩; have n0_ := Aside0.mk (below_step (by repeat (first | (with_reducible first | exact HB.out | apply below_alloc | apply pw_below_drewN | apply below_drew1) | exact HB.out)) hb); clear HB; have HB := n0_; clear n0_; (try clear hb); (try clear hb2); (try clear hk); (try clear hi)) | (go_at_call 20; (with_reducible refine (Join.calls bx5_a0 bx8_a1 t152 _ A11.out).mono ?_); rintro e w30 ⟨rfl, hb⟩; have n0_ := Aside0.mk (below_step (by repeat (first | (with_reducible first | exact HB.out | apply below_alloc | apply pw_below_drewN | apply below_drew1) | exact HB.out)) hb); clear HB; have HB := n0_; clear n0_; (try clear hb); (try clear hb2); (try clear hk); (try clear hi)) | (go_at_call 21; (with_reducible refine (bailiwickref08_Join.calls k bx5_a0 bx8_a1 t153 _ A12.out).mono ?_); rintro e w31 ⟨rfl, hb⟩; have n0_ := Aside0.mk (below_step (by repeat (first | (with_reducible first | exact HB.out | apply below_alloc | apply pw_below_drewN | apply below_drew1) | exact HB.out)) hb); clear HB; have HB := n0_; clear n0_; (try clear hb); (try clear hb2); (try clear hk); (try clear hi)))
              go_ret
              exact ⟨by first | rfl | (simp [errW_none, errW_some] <;> rfl) | (simp only [← hji5, ← hji8]; first | rfl | (simp [errW_none, errW_some] <;> rfl)) | (simp [*, errW_none, errW_some] <;> rfl), by repeat (first | (with_reducible first | exact HB.out | apply below_alloc | apply pw_below_drewN | apply below_drew1) | exact HB.out)⟩
          · rw [if_neg c10] at H
            exact absurd H (by simp)
        · rw [if_neg c9] at H
          exact absurd H (by simp)
      · rw [if_neg c7] at H
        exact absurd H (by simp)
    · rw [if_neg c6] at H
      exact absurd H (by simp)
  · replace c4 := Bool.eq_false_iff.mpr c4
    subst c4
    have H1 : (some false) = some r := by rw [if_neg (show ¬ (false = true) by decide)] at H; exact H
    clear H
    have H := H1
    clear H1
    obtain rfl := Option.some.inj H
    go_enter Try.func8, Try.ntmps8
    go_wp2_with (first | ((with_reducible refine gate_callee (f := 10) rfl ?_); refine goesL_ (some 6) rfl rfl Try.func10 (by kernel_rfl) rfl #[] rfl (by (try simp only [List.map_toArray, List.map_cons, List.map_nil]); first | done | rfl | (simp only [List.length_drop, List.length_take]; rfl)) ?_; (with_reducible refine (bailiwicklaw08_examples.calls  false _ A3.out).mono ?_); rintro e w32 ⟨rfl, hb⟩; refine ⟨_, rfl, ?_⟩; have n0_ := Aside0.mk (below_step (by repeat (first | (with_reducible first | exact HB.out | apply below_alloc | apply pw_below_drewN | apply below_drew1) | exact HB.out)) hb); clear HB; have HB := n0_; clear n0_; (try clear hb); (try clear hb2); (try clear hk); (try clear hi)))
    go_ret
    exact ⟨by first | rfl | (simp [errW_none, errW_some] <;> rfl) | (simp [*, errW_none, errW_some] <;> rfl), by repeat (first | (with_reducible first | exact HB.out | apply below_alloc | apply pw_below_drewN | apply below_drew1) | exact HB.out)⟩

/-- THE ONE PURE STATEMENT of bailiwicklaw08_BitsBoth: yours. -/
def bailiwicklaw08_BitsBoth.Pure : Prop := ∀ (a0 : ByteArray) (a1 : ByteArray), a0.size ≤ 140737488351232 → a1.size ≤ 140737488351232 → ∃ k, bailiwicklaw08_BitsBoth.f k a0 a1 = some true
theorem bailiwicklaw08_BitsBoth.walk (P : bailiwicklaw08_BitsBoth.Pure) (a0 : ByteArray) (a1 : ByteArray) (w : World) (w0 : a0.size ≤ 140737488351232) (w1 : a1.size ≤ 140737488351232) :
    Calls Try.prog 8 #[.string a0, .string a1] w fun e w' => e = .returned (.bool true) ∧ Below w.heap.size w w' := by
  obtain ⟨k, h⟩ := P a0 a1 w0 w1
  refine (bailiwicklaw08_BitsBoth.calls k a0 a1 true w h).mono ?_
  rintro e w' ⟨rfl, hd⟩
  exact ⟨rfl, hd⟩

end Go.Proofs.Ytbneljnmhofjfaa.G
