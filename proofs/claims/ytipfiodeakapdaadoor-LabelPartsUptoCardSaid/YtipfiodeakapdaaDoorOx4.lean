-- Written by a program of this session (gp.py), which drives the print with some lines turned. Not trusted: Lean checks it.
import Derived.Test.YtipfiodeakapdaaDoorOx0
import Derived.Test.YtipfiodeakapdaaDoorOx1
namespace Go.Proofs.YtipfiodeakapdaaDoor.O
open Go.RowKit Go.Proofs.YtipfiodeakapdaaDoorW.PrintWords Go.Proofs.YtipfiodeakapdaaDoorW.PrintLast Go.Proofs.YtipfiodeakapdaaDoorW.PrintMore
attribute [local go_sem] max2_int min2_int max_two min_two max_three min_three max_four min_four P.emod_u8 P.emod_u16 P.emod_u32
set_option linter.unusedVariables false
set_option linter.unusedSimpArgs false

/-! ### bailiwicklaw02_LabelParts: function 6 -/
mutual
def bailiwicklaw02_LabelParts.l0 : Nat → ByteArray → Bool → List ByteArray → ByteArray → Int → Option (Bool)
  | 0, _, _, _, _, _ => none
  | k + 1, x0, x3, x4, x5, x6 => if x6 < (x4.length : Int) then (if x6 > 0 then (if x5.size + 1 ≤ 9223372036854775807 then (bailiwicklaw02_LabelParts.j1 k x0 x3 x4 (x5 ++ (⟨#[46]⟩ : ByteArray)) x6) else (none)) else (bailiwicklaw02_LabelParts.j1 k x0 x3 x4 x5 x6)) else (bailiwicklaw02_LabelParts.l2 k x0 x3 x4 x5 0 0)
def bailiwicklaw02_LabelParts.j1 : Nat → ByteArray → Bool → List ByteArray → ByteArray → Int → Option (Bool)
  | 0, _, _, _, _, _ => none
  | k + 1, x0, x3, x4, x5, x6 => if 0 ≤ x6 then (if x6 < (x4.length : Int) then (if x5.size + (rdOf ByteArray.empty x4 x6).size ≤ 9223372036854775807 then (bailiwicklaw02_LabelParts.l1 k x0 x3 x4 (x5 ++ (rdOf ByteArray.empty x4 x6)) x6 0) else (none)) else (none)) else (none)
def bailiwicklaw02_LabelParts.l1 : Nat → ByteArray → Bool → List ByteArray → ByteArray → Int → Int → Option (Bool)
  | 0, _, _, _, _, _, _ => none
  | k + 1, x0, x3, x4, x5, x6, x7 => if 0 ≤ x6 then (if x6 < (x4.length : Int) then (if x7 < ((rdOf ByteArray.empty x4 x6).size : Int) then (if 0 ≤ x7 then (if (bt (rdOf ByteArray.empty x4 x6) x7) = 46 then (some false) else (bailiwicklaw02_LabelParts.l1 k x0 x3 x4 x5 x6 (wrap64 (x7 + 1)))) else (none)) else (bailiwicklaw02_LabelParts.l0 k x0 x3 x4 x5 (wrap64 (x6 + 1)))) else (none)) else (none)
def bailiwicklaw02_LabelParts.l2 : Nat → ByteArray → Bool → List ByteArray → ByteArray → Int → Int → Option (Bool)
  | 0, _, _, _, _, _, _ => none
  | k + 1, x0, x3, x4, x5, x8, x9 => if x9 < (x0.size : Int) then (if 0 ≤ x9 then (if (bt x0 x9) = 46 then (bailiwicklaw02_LabelParts.l2 k x0 x3 x4 x5 (wrap64 (x8 + 1)) (wrap64 (x9 + 1))) else (bailiwicklaw02_LabelParts.l2 k x0 x3 x4 x5 x8 (wrap64 (x9 + 1)))) else (none)) else (if x3 = true then (if x5.toList = x0.toList then (some ((x4.length : Int) == (wrap64 (x8 + 1)))) else (some false)) else (some false))
end
def bailiwicklaw02_LabelParts.f (k : Nat) (a0 : ByteArray) : Option (Bool) := (bailiwicklaw02_examples.f k).bind fun t177 => (if t177 = true then ((Go.Proofs.YtipfiodeakapdaaDoor.R.Parts.f a0).bind fun t178 => (bailiwicklaw02_LabelParts.l0 k a0 t177 t178 (⟨#[]⟩ : ByteArray) 0)) else (some false))
theorem bailiwicklaw02_LabelParts.mono_l : ∀ k, (∀ y0 y1 y2 y3 y4, LeO (bailiwicklaw02_LabelParts.l0 k y0 y1 y2 y3 y4) (bailiwicklaw02_LabelParts.l0 (k + 1) y0 y1 y2 y3 y4)) ∧ (∀ y0 y1 y2 y3 y4, LeO (bailiwicklaw02_LabelParts.j1 k y0 y1 y2 y3 y4) (bailiwicklaw02_LabelParts.j1 (k + 1) y0 y1 y2 y3 y4)) ∧ (∀ y0 y1 y2 y3 y4 y5, LeO (bailiwicklaw02_LabelParts.l1 k y0 y1 y2 y3 y4 y5) (bailiwicklaw02_LabelParts.l1 (k + 1) y0 y1 y2 y3 y4 y5)) ∧ (∀ y0 y1 y2 y3 y4 y5, LeO (bailiwicklaw02_LabelParts.l2 k y0 y1 y2 y3 y4 y5) (bailiwicklaw02_LabelParts.l2 (k + 1) y0 y1 y2 y3 y4 y5))
  | 0 => ⟨fun _ _ _ _ _ r h => by simp [bailiwicklaw02_LabelParts.l0] at h, fun _ _ _ _ _ r h => by simp [bailiwicklaw02_LabelParts.j1] at h, fun _ _ _ _ _ _ r h => by simp [bailiwicklaw02_LabelParts.l1] at h, fun _ _ _ _ _ _ r h => by simp [bailiwicklaw02_LabelParts.l2] at h⟩
  | k + 1 => by
    obtain ⟨ih0, ih1, ih2, ih3⟩ := bailiwicklaw02_LabelParts.mono_l k
    refine ⟨?_, ?_, ?_, ?_⟩
    · intro y0 y1 y2 y3 y4
      unfold bailiwicklaw02_LabelParts.l0
      repeat' first
      | (with_reducible exact ih0 _ _ _ _ _)
      | (with_reducible exact ih1 _ _ _ _ _)
      | (with_reducible exact ih2 _ _ _ _ _ _)
      | (with_reducible exact ih3 _ _ _ _ _ _)
      | (with_reducible exact bailiwicklaw02_examples.mono _)
      | (with_reducible exact LeO.refl _)
      | (with_reducible exact LeO.none _)
      | (with_reducible refine LeO.ite ?_ ?_)
      | (with_reducible refine LeO.bind ?_ (fun _ => ?_))
      | exact ih0 _ _ _ _ _
      | exact ih1 _ _ _ _ _
      | exact ih2 _ _ _ _ _ _
      | exact ih3 _ _ _ _ _ _
      | exact bailiwicklaw02_examples.mono _
      | exact LeO.none _
      | refine LeO.ite ?_ ?_
      | refine LeO.bind ?_ (fun _ => ?_)
    · intro y0 y1 y2 y3 y4
      unfold bailiwicklaw02_LabelParts.j1
      repeat' first
      | (with_reducible exact ih0 _ _ _ _ _)
      | (with_reducible exact ih1 _ _ _ _ _)
      | (with_reducible exact ih2 _ _ _ _ _ _)
      | (with_reducible exact ih3 _ _ _ _ _ _)
      | (with_reducible exact bailiwicklaw02_examples.mono _)
      | (with_reducible exact LeO.refl _)
      | (with_reducible exact LeO.none _)
      | (with_reducible refine LeO.ite ?_ ?_)
      | (with_reducible refine LeO.bind ?_ (fun _ => ?_))
      | exact ih0 _ _ _ _ _
      | exact ih1 _ _ _ _ _
      | exact ih2 _ _ _ _ _ _
      | exact ih3 _ _ _ _ _ _
      | exact bailiwicklaw02_examples.mono _
      | exact LeO.none _
      | refine LeO.ite ?_ ?_
      | refine LeO.bind ?_ (fun _ => ?_)
    · intro y0 y1 y2 y3 y4 y5
      unfold bailiwicklaw02_LabelParts.l1
      repeat' first
      | (with_reducible exact ih0 _ _ _ _ _)
      | (with_reducible exact ih1 _ _ _ _ _)
      | (with_reducible exact ih2 _ _ _ _ _ _)
      | (with_reducible exact ih3 _ _ _ _ _ _)
      | (with_reducible exact bailiwicklaw02_examples.mono _)
      | (with_reducible exact LeO.refl _)
      | (with_reducible exact LeO.none _)
      | (with_reducible refine LeO.ite ?_ ?_)
      | (with_reducible refine LeO.bind ?_ (fun _ => ?_))
      | exact ih0 _ _ _ _ _
      | exact ih1 _ _ _ _ _
      | exact ih2 _ _ _ _ _ _
      | exact ih3 _ _ _ _ _ _
      | exact bailiwicklaw02_examples.mono _
      | exact LeO.none _
      | refine LeO.ite ?_ ?_
      | refine LeO.bind ?_ (fun _ => ?_)
    · intro y0 y1 y2 y3 y4 y5
      unfold bailiwicklaw02_LabelParts.l2
      repeat' first
      | (with_reducible exact ih0 _ _ _ _ _)
      | (with_reducible exact ih1 _ _ _ _ _)
      | (with_reducible exact ih2 _ _ _ _ _ _)
      | (with_reducible exact ih3 _ _ _ _ _ _)
      | (with_reducible exact bailiwicklaw02_examples.mono _)
      | (with_reducible exact LeO.refl _)
      | (with_reducible exact LeO.none _)
      | (with_reducible refine LeO.ite ?_ ?_)
      | (with_reducible refine LeO.bind ?_ (fun _ => ?_))
      | exact ih0 _ _ _ _ _
      | exact ih1 _ _ _ _ _
      | exact ih2 _ _ _ _ _ _
      | exact ih3 _ _ _ _ _ _
      | exact bailiwicklaw02_examples.mono _
      | exact LeO.none _
      | refine LeO.ite ?_ ?_
      | refine LeO.bind ?_ (fun _ => ?_)
theorem bailiwicklaw02_LabelParts.mono : ∀ a0 k, LeO (bailiwicklaw02_LabelParts.f k a0) (bailiwicklaw02_LabelParts.f (k + 1) a0) := by
  intro a0 k
  obtain ⟨ih0, ih1, ih2, ih3⟩ := bailiwicklaw02_LabelParts.mono_l k
  unfold bailiwicklaw02_LabelParts.f
  repeat' first
      | (with_reducible exact ih0 _ _ _ _ _)
      | (with_reducible exact ih1 _ _ _ _ _)
      | (with_reducible exact ih2 _ _ _ _ _ _)
      | (with_reducible exact ih3 _ _ _ _ _ _)
      | (with_reducible exact bailiwicklaw02_examples.mono _)
      | (with_reducible exact LeO.refl _)
      | (with_reducible exact LeO.none _)
      | (with_reducible refine LeO.ite ?_ ?_)
      | (with_reducible refine LeO.bind ?_ (fun _ => ?_))
      | exact ih0 _ _ _ _ _
      | exact ih1 _ _ _ _ _
      | exact ih2 _ _ _ _ _ _
      | exact ih3 _ _ _ _ _ _
      | exact bailiwicklaw02_examples.mono _
      | exact LeO.none _
      | refine LeO.ite ?_ ?_
      | refine LeO.bind ?_ (fun _ => ?_)
set_option maxHeartbeats 8000000 in
set_option maxRecDepth 100000 in
theorem bailiwicklaw02_LabelParts.calls (k : Nat) (a0 : ByteArray) (r : Bool) (w : World) (h : bailiwicklaw02_LabelParts.f k a0 = some r) :
    Calls Tryd.prog 6 #[.string a0] w fun e w' => e = .returned (.bool r) ∧ Below w.heap.size w w' := by
  have HB := Aside0.mk (Below.refl w.heap.size w)
  have H : ((bailiwicklaw02_examples.f k).bind fun t177 => (if t177 = true then ((Go.Proofs.YtipfiodeakapdaaDoor.R.Parts.f a0).bind fun t178 => (bailiwicklaw02_LabelParts.l0 k a0 t177 t178 (⟨#[]⟩ : ByteArray) 0)) else (some false))) = some r := h
  clear h
  replace H := Option.bind_eq_some_iff.mp H
  obtain ⟨t177, A20, H⟩ := H
  replace H : (if t177 = true then ((Go.Proofs.YtipfiodeakapdaaDoor.R.Parts.f a0).bind fun t178 => (bailiwicklaw02_LabelParts.l0 k a0 t177 t178 (⟨#[]⟩ : ByteArray) 0)) else (some false)) = some r := H
  have A2 := Aside0.mk A20
  clear A20
  by_cases c3 : t177 = true
  · subst c3
    have H1 : ((Go.Proofs.YtipfiodeakapdaaDoor.R.Parts.f a0).bind fun t178 => (bailiwicklaw02_LabelParts.l0 k a0 true t178 (⟨#[]⟩ : ByteArray) 0)) = some r := by first | (rw [if_pos rfl] at H; exact H) | (rw [if_pos trivial] at H; exact H)
    clear H
    have H := H1
    clear H1
    replace H := Option.bind_eq_some_iff.mp H
    obtain ⟨t178, A40, H⟩ := H
    replace H : (bailiwicklaw02_LabelParts.l0 k a0 true t178 (⟨#[]⟩ : ByteArray) 0) = some r := H
    have A4 := Aside0.mk A40
    clear A40
    have H' := Aside0.mk H
    clear H
    go_enter Tryd.func6, Tryd.ntmps6
    (try dsimp only [List.append])
    go_wp2_with (first | ((with_reducible refine gate_callee (f := 10) rfl ?_); refine goesL_ (some 10) rfl rfl Tryd.func10 (by kernel_rfl) rfl #[] rfl (by (try simp only [List.map_toArray, List.map_cons, List.map_nil]); first | done | rfl | (simp only [List.length_drop, List.length_take]; rfl)) ?_; (with_reducible refine (bailiwicklaw02_examples.calls k  true _ A2.out).mono ?_); rintro e w5 ⟨rfl, hb⟩; refine ⟨_, rfl, ?_⟩; have n0_ := Aside0.mk (below_step (by repeat (first | (with_reducible first | exact HB.out | apply below_alloc | apply pw_below_drewN | apply below_drew1) | exact HB.out)) hb); clear HB; have HB := n0_; clear n0_; (try clear hb); (try clear hb2); (try clear hk); (try clear hi)) | ((with_reducible refine gate_callee (f := 18) rfl ?_); refine goesL_ (some 14) rfl rfl Tryd.func18 (by kernel_rfl) rfl #[.string a0] rfl (by (try simp only [List.map_toArray, List.map_cons, List.map_nil]); first | done | rfl | (simp only [List.length_drop, List.length_take]; rfl)) ?_; (with_reducible refine (Go.Proofs.YtipfiodeakapdaaDoor.R.Parts.calls a0 t178 _ A4.out).mono ?_); rintro e w6 ⟨v179, rfl, ho0, hb⟩; refine ⟨_, rfl, ?_⟩; have n0_ := Aside0.mk (Kd.R_lower ho0 (below_size (by repeat (first | (with_reducible first | exact HB.out | apply below_alloc | apply pw_below_drewN | apply below_drew1) | exact HB.out)))); have n1_ := Aside0.mk (below_step (by repeat (first | (with_reducible first | exact HB.out | apply below_alloc | apply pw_below_drewN | apply below_drew1) | exact HB.out)) hb); clear HB; have HO180 := n0_; have HB := n1_; clear n0_ n1_; (try clear hb); (try clear hb2); (try clear hk); (try clear hi); (try clear ho0)))
    go_loopg [5, 6] k (fun kq v5 v6 w' => ∃ (x5_1 : ByteArray) (x6_1 : Int), v5 = .string x5_1 ∧ v6 = .int .i64 x6_1 ∧ Aside0 (bailiwicklaw02_LabelParts.l0 kq a0 true t178 x5_1 x6_1 = some r) ∧ Aside0 (kq ≤ k) ∧ Aside0 (Kd.R Kd.string 9 w' w.heap.size (fun _ => True) v179 t178) ∧ Aside0 (Below w.heap.size w w'))
    case atStart => exact ⟨((⟨#[]⟩ : ByteArray)), (0), (by first | rfl | (simp; done) | (simp [*]; done)), (by first | rfl | (simp; done) | (simp [*]; done)), H', ⟨Nat.le_refl _⟩, ⟨by (with_reducible repeat (first | apply Kd.R_alloc | apply Kd.R_drewN | apply Kd.R_drew)); exact HO180.out⟩, ⟨by repeat (first | (with_reducible first | exact HB.out | apply below_alloc | apply pw_below_drewN | apply below_drew1) | exact HB.out)⟩⟩
    case round =>
      clear H'
      try clear c1
      try clear p2
      try clear c3
      try clear c6
      obtain ⟨x5_1, x6_1, rfl, rfl, HA, HK1, HO_4, HB⟩ := hrel
      cases gk with
      | zero => exact absurd HA.out (by simp [bailiwicklaw02_LabelParts.l0])
      | succ k1 =>
        have H := HA.out
        clear HA
        simp only [bailiwicklaw02_LabelParts.l0] at H
        by_cases c7 : x6_1 < (t178.length : Int)
        · rw [if_pos c7] at H
          have c7b0 : decide (x6_1 < (t178.length : Int)) = true := decide_eq_true c7
          clear c7
          have HC8 := Aside0.mk H
          clear H
          obtain ⟨Ao9, co9, eo9⟩ := Kd.R_slice HO_4.out
          subst eo9
          go_upto_if 22 with (fail)
          go_cut [5] (fun v5 wc => ∃ (kq : Nat) (x5_7 : ByteArray), v5 = .string x5_7 ∧ Aside0 (bailiwicklaw02_LabelParts.j1 kq a0 true t178 x5_7 x6_1 = some r) ∧ Aside0 (kq ≤ k1) ∧ Aside0 (Kd.R Kd.string 9 wc w.heap.size (fun _ => True) (.slice Ao9 t178.length co9) t178) ∧ Aside0 (Below w.heap.size w wc))
          case first =>
            have H := HC8.out
            clear HC8
            by_cases c10 : x6_1 > 0
            · rw [if_pos c10] at H
              have c10b0 : decide (0 < x6_1) = true := decide_eq_true c10
              clear c10
              (first | rw [c10b0] | (simp only [i64_w, i32_w]; rw [c10b0]) | skip)
              by_cases c11 : x5_1.size + 1 ≤ 9223372036854775807
              · rw [if_pos c11] at H
                have c11b0 := eq_true c11
                have c11b1 : decide (x5_1.size + 1 ≤ 9223372036854775807) = true := decide_eq_true c11
                try have c11b2 : (9223372036854775807 < x5_1.size + 1) = False := eq_false (Nat.not_lt.2 c11)
                have H' := Aside0.mk H
                clear H
                go_wp2
                go_meet
                case rel => exact ⟨_, (x5_1 ++ (⟨#[46]⟩ : ByteArray)), (by first | rfl | (simp; done) | (simp [*]; done)), H', ⟨by have := HK1.out; first | omega | exact Nat.le_refl _⟩, ⟨by (with_reducible repeat (first | apply Kd.R_alloc | apply Kd.R_drewN | apply Kd.R_drew)); exact HO_4.out⟩, ⟨by repeat (first | (with_reducible first | exact HB.out | apply below_alloc | apply pw_below_drewN | apply below_drew1) | exact HB.out)⟩⟩
              · rw [if_neg c11] at H
                exact absurd H (by simp)
            · rw [if_neg c10] at H
              have c10b0 : decide (0 < x6_1) = false := decide_eq_false c10
              clear c10
              (first | rw [c10b0] | (simp only [i64_w, i32_w]; rw [c10b0]) | skip)
              have H' := Aside0.mk H
              clear H
              go_wp2
              go_meet
              case rel => exact ⟨_, (x5_1), (by first | rfl | (simp; done) | (simp [*]; done)), H', ⟨by have := HK1.out; first | omega | exact Nat.le_refl _⟩, ⟨by (with_reducible repeat (first | apply Kd.R_alloc | apply Kd.R_drewN | apply Kd.R_drew)); exact HO_4.out⟩, ⟨by repeat (first | (with_reducible first | exact HB.out | apply below_alloc | apply pw_below_drewN | apply below_drew1) | exact HB.out)⟩⟩
          case rest =>
            clear HC8
            try clear c1
            try clear p2
            try clear c3
            try clear c6
            try clear c7
            try clear c7b0
            try clear c10
            try clear c10b0
            try clear c11
            try clear c11b0
            try clear c11b1
            try clear c11b2
            try clear p2
            obtain ⟨kq, x5_7, rfl, HA, HJ7, HO_4, HB⟩ := hcut
            cases kq with
            | zero => exact absurd HA.out (by simp [bailiwicklaw02_LabelParts.j1])
            | succ kj7 =>
              have H := HA.out
              clear HA
              simp only [bailiwicklaw02_LabelParts.j1] at H
              by_cases c12 : 0 ≤ x6_1
              · rw [if_pos c12] at H
                have c12b0 : decide (0 ≤ x6_1) = true := decide_eq_true c12
                clear c12
                by_cases c13 : x6_1 < (t178.length : Int)
                · rw [if_pos c13] at H
                  have c13b0 : decide (x6_1 < (t178.length : Int)) = true := decide_eq_true c13
                  clear c13
                  by_cases c14 : x5_7.size + (rdOf ByteArray.empty t178 x6_1).size ≤ 9223372036854775807
                  · rw [if_pos c14] at H
                    have c14b0 := eq_true c14
                    have c14b1 : decide (x5_7.size + (rdOf ByteArray.empty t178 x6_1).size ≤ 9223372036854775807) = true := decide_eq_true c14
                    try have c14b2 : (9223372036854775807 < x5_7.size + (rdOf ByteArray.empty t178 x6_1).size) = False := eq_false (Nat.not_lt.2 c14)
                    have H' := Aside0.mk H
                    clear H
                    have p181 : 0 ≤ (x6_1 : Int) := of_decide_eq_true (by first | (with_reducible assumption) | assumption)
                    have q181 : x6_1 < (t178.length : Int) := of_decide_eq_true (by first | (with_reducible assumption) | assumption)
                    obtain ⟨ad181, e181, hx181_0⟩ := Kd.at_string (Kd.R_reads' HO_4.out).2.2 x6_1 p181 q181
                    cases e181
                    replace p181 := eq_true p181
                    replace q181 := eq_true q181
                    go_wp2
                    go_loopg [7] kj7 (fun kq v7 w' => ∃ (x7_3 : Int), v7 = .int .i64 x7_3 ∧ Aside0 (bailiwicklaw02_LabelParts.l1 kq a0 true t178 (x5_7 ++ (rdOf ByteArray.empty t178 x6_1)) x6_1 x7_3 = some r) ∧ Aside0 (kq ≤ kj7) ∧ Aside0 (Kd.R Kd.string 9 w' w.heap.size (fun _ => True) (.slice (some ad181) t178.length co9) t178) ∧ Aside0 (Below w.heap.size w w'))
                    case atStart => exact ⟨(0), (by first | rfl | (simp; done) | (simp [*]; done)), H', ⟨Nat.le_refl _⟩, ⟨by (with_reducible repeat (first | apply Kd.R_alloc | apply Kd.R_drewN | apply Kd.R_drew)); exact HO_4.out⟩, ⟨by repeat (first | (with_reducible first | exact HB.out | apply below_alloc | apply pw_below_drewN | apply below_drew1) | exact HB.out)⟩⟩
                    case round =>
                      clear H'
                      try clear c1
                      try clear p1
                      try clear q1
                      try clear hx1
                      try clear p2
                      try clear c3
                      try clear c6
                      try clear c7
                      try clear c7b0
                      try clear c10
                      try clear c10b0
                      try clear c11
                      try clear c11b0
                      try clear c11b1
                      try clear c11b2
                      try clear c12
                      try clear c12b0
                      try clear c13
                      try clear c13b0
                      try clear c14
                      try clear c14b0
                      try clear c14b1
                      try clear c14b2
                      try clear hx181_0
                      try clear p181
                      try clear p2
                      try clear q181
                      obtain ⟨x7_3, rfl, HA, HK3, HO_4, HB⟩ := hrel
                      cases gk with
                      | zero => exact absurd HA.out (by simp [bailiwicklaw02_LabelParts.l1])
                      | succ k3 =>
                        have H := HA.out
                        clear HA
                        simp only [bailiwicklaw02_LabelParts.l1] at H
                        by_cases c15 : 0 ≤ x6_1
                        · rw [if_pos c15] at H
                          have c15b0 : decide (0 ≤ x6_1) = true := decide_eq_true c15
                          clear c15
                          by_cases c16 : x6_1 < (t178.length : Int)
                          · rw [if_pos c16] at H
                            have c16b0 : decide (x6_1 < (t178.length : Int)) = true := decide_eq_true c16
                            clear c16
                            by_cases c17 : x7_3 < ((rdOf ByteArray.empty t178 x6_1).size : Int)
                            · rw [if_pos c17] at H
                              have c17b0 : decide (x7_3 < ((rdOf ByteArray.empty t178 x6_1).size : Int)) = true := decide_eq_true c17
                              clear c17
                              by_cases c18 : 0 ≤ x7_3
                              · rw [if_pos c18] at H
                                have c18b0 : decide (0 ≤ x7_3) = true := decide_eq_true c18
                                clear c18
                                by_cases c20 : (bt (rdOf ByteArray.empty t178 x6_1) x7_3) = 46
                                · rw [if_pos c20] at H
                                  have c20b0 : ((bt (rdOf ByteArray.empty t178 x6_1) x7_3) == 46) = true := beq_iff_eq.mpr c20
                                  have c20b1 : ((bt (rdOf ByteArray.empty t178 x6_1) x7_3) != 46) = false := bne_eq_false_iff_eq.mpr c20
                                  clear c20
                                  obtain rfl := Option.some.inj H
                                  have p182 : 0 ≤ (x6_1 : Int) := of_decide_eq_true (by first | (with_reducible assumption) | assumption)
                                  have q182 : x6_1 < (t178.length : Int) := of_decide_eq_true (by first | (with_reducible assumption) | assumption)
                                  obtain ⟨ad182, e182, hx182_0⟩ := Kd.at_string (Kd.R_reads' HO_4.out).2.2 x6_1 p182 q182
                                  obtain rfl : ad181 = ad182 := (by injection e182)
                                  replace p182 := eq_true p182
                                  replace q182 := eq_true q182
                                  have p183 : 0 ≤ (x6_1 : Int) := of_decide_eq_true (by first | (with_reducible assumption) | assumption)
                                  have q183 : x6_1 < (t178.length : Int) := of_decide_eq_true (by first | (with_reducible assumption) | assumption)
                                  obtain ⟨ad183, e183, hx183_0⟩ := Kd.at_string (Kd.R_reads' HO_4.out).2.2 x6_1 p183 q183
                                  obtain rfl : ad181 = ad183 := (by injection e183)
                                  replace p183 := eq_true p183
                                  replace q183 := eq_true q183
                                  have p19 : 0 ≤ (x7_3 : Int) := of_decide_eq_true (by first | (with_reducible assumption) | assumption)
                                  have q19 : x7_3 < ((rdOf ByteArray.empty t178 x6_1).size : Int) := of_decide_eq_true (by first | (with_reducible assumption) | assumption)
                                  have hx19 := bt_at (rdOf ByteArray.empty t178 x6_1) x7_3
                                  replace p19 := eq_true p19
                                  replace q19 := eq_true q19
                                  go_wp2
                                  go_ret
                                  exact ⟨by first | rfl | (simp [errW_none, errW_some] <;> rfl) | (simp [*, errW_none, errW_some] <;> rfl), by repeat (first | (with_reducible first | exact HB.out | apply below_alloc | apply pw_below_drewN | apply below_drew1) | exact HB.out)⟩
                                · rw [if_neg c20] at H
                                  have c20b0 : ((bt (rdOf ByteArray.empty t178 x6_1) x7_3) == 46) = false := beq_eq_false_iff_ne.mpr c20
                                  have c20b1 : ((bt (rdOf ByteArray.empty t178 x6_1) x7_3) != 46) = true := bne_iff_ne.mpr c20
                                  have H' := Aside0.mk H
                                  clear H
                                  have p182 : 0 ≤ (x6_1 : Int) := of_decide_eq_true (by first | (with_reducible assumption) | assumption)
                                  have q182 : x6_1 < (t178.length : Int) := of_decide_eq_true (by first | (with_reducible assumption) | assumption)
                                  obtain ⟨ad182, e182, hx182_0⟩ := Kd.at_string (Kd.R_reads' HO_4.out).2.2 x6_1 p182 q182
                                  obtain rfl : ad181 = ad182 := (by injection e182)
                                  replace p182 := eq_true p182
                                  replace q182 := eq_true q182
                                  have p183 : 0 ≤ (x6_1 : Int) := of_decide_eq_true (by first | (with_reducible assumption) | assumption)
                                  have q183 : x6_1 < (t178.length : Int) := of_decide_eq_true (by first | (with_reducible assumption) | assumption)
                                  obtain ⟨ad183, e183, hx183_0⟩ := Kd.at_string (Kd.R_reads' HO_4.out).2.2 x6_1 p183 q183
                                  obtain rfl : ad181 = ad183 := (by injection e183)
                                  replace p183 := eq_true p183
                                  replace q183 := eq_true q183
                                  have p19 : 0 ≤ (x7_3 : Int) := of_decide_eq_true (by first | (with_reducible assumption) | assumption)
                                  have q19 : x7_3 < ((rdOf ByteArray.empty t178 x6_1).size : Int) := of_decide_eq_true (by first | (with_reducible assumption) | assumption)
                                  have hx19 := bt_at (rdOf ByteArray.empty t178 x6_1) x7_3
                                  replace p19 := eq_true p19
                                  replace q19 := eq_true q19
                                  go_wp2
                                  go_roundg k3
                                  case measure => have := HK1.out; have := HJ7.out; have := HK3.out; omega
                                  case rel => exact ⟨(wrap64 (x7_3 + 1)), (by first | rfl | (simp; done) | (simp [*]; done)), H', ⟨by have := HK1.out; have := HJ7.out; have := HK3.out; omega⟩, ⟨by (with_reducible repeat (first | apply Kd.R_alloc | apply Kd.R_drewN | apply Kd.R_drew)); exact HO_4.out⟩, ⟨by repeat (first | (with_reducible first | exact HB.out | apply below_alloc | apply pw_below_drewN | apply below_drew1) | exact HB.out)⟩⟩
                              · rw [if_neg c18] at H
                                exact absurd H (by simp)
                            · rw [if_neg c17] at H
                              have c17b0 : decide (x7_3 < ((rdOf ByteArray.empty t178 x6_1).size : Int)) = false := decide_eq_false c17
                              clear c17
                              have H' := Aside0.mk H
                              clear H
                              have p182 : 0 ≤ (x6_1 : Int) := of_decide_eq_true (by first | (with_reducible assumption) | assumption)
                              have q182 : x6_1 < (t178.length : Int) := of_decide_eq_true (by first | (with_reducible assumption) | assumption)
                              obtain ⟨ad182, e182, hx182_0⟩ := Kd.at_string (Kd.R_reads' HO_4.out).2.2 x6_1 p182 q182
                              obtain rfl : ad181 = ad182 := (by injection e182)
                              replace p182 := eq_true p182
                              replace q182 := eq_true q182
                              go_wp2
                              go_roundg k3
                              case measure => have := HK1.out; have := HJ7.out; have := HK3.out; omega
                              case rel => exact ⟨((x5_7 ++ (rdOf ByteArray.empty t178 x6_1))), (wrap64 (x6_1 + 1)), (by first | rfl | (simp; done) | (simp [*]; done)), (by first | rfl | (simp; done) | (simp [*]; done)), H', ⟨by have := HK1.out; have := HJ7.out; have := HK3.out; omega⟩, ⟨by (with_reducible repeat (first | apply Kd.R_alloc | apply Kd.R_drewN | apply Kd.R_drew)); exact HO_4.out⟩, ⟨by repeat (first | (with_reducible first | exact HB.out | apply below_alloc | apply pw_below_drewN | apply below_drew1) | exact HB.out)⟩⟩
                          · rw [if_neg c16] at H
                            exact absurd H (by simp)
                        · rw [if_neg c15] at H
                          exact absurd H (by simp)
                  · rw [if_neg c14] at H
                    exact absurd H (by simp)
                · rw [if_neg c13] at H
                  exact absurd H (by simp)
              · rw [if_neg c12] at H
                exact absurd H (by simp)
        · rw [if_neg c7] at H
          have c7b0 : decide (x6_1 < (t178.length : Int)) = false := decide_eq_false c7
          clear c7
          have H' := Aside0.mk H
          clear H
          obtain ⟨Ao21, co21, eo21⟩ := Kd.R_slice HO_4.out
          subst eo21
          go_wp2
          go_loopg [8, 9] k1 (fun kq v8 v9 w' => ∃ (x8_2 : Int) (x9_2 : Int), v8 = .int .i64 x8_2 ∧ v9 = .int .i64 x9_2 ∧ Aside0 (bailiwicklaw02_LabelParts.l2 kq a0 true t178 x5_1 x8_2 x9_2 = some r) ∧ Aside0 (kq ≤ k1) ∧ Aside0 (Kd.R Kd.string 9 w' w.heap.size (fun _ => True) (.slice Ao21 t178.length co21) t178) ∧ Aside0 (Below w.heap.size w w'))
          case atStart => exact ⟨(0), (0), (by first | rfl | (simp; done) | (simp [*]; done)), (by first | rfl | (simp; done) | (simp [*]; done)), H', ⟨Nat.le_refl _⟩, ⟨by (with_reducible repeat (first | apply Kd.R_alloc | apply Kd.R_drewN | apply Kd.R_drew)); exact HO_4.out⟩, ⟨by repeat (first | (with_reducible first | exact HB.out | apply below_alloc | apply pw_below_drewN | apply below_drew1) | exact HB.out)⟩⟩
          case round =>
            clear H'
            try clear c1
            try clear p1
            try clear q1
            try clear hx1
            try clear c2
            try clear p2
            try clear c3
            try clear c6
            try clear p6
            try clear c7
            try clear c7b0
            try clear c10
            try clear c10b0
            try clear c11
            try clear c11b0
            try clear c11b1
            try clear c11b2
            try clear c12
            try clear c12b0
            try clear c13
            try clear c13b0
            try clear c14
            try clear c14b0
            try clear c14b1
            try clear c14b2
            try clear c15
            try clear c15b0
            try clear c16
            try clear c16b0
            try clear c17
            try clear c17b0
            try clear c18
            try clear c18b0
            try clear p18
            try clear q18
            try clear hx18
            try clear p19
            try clear q19
            try clear hx19
            try clear c20
            try clear c20b0
            try clear c20b1
            try clear hx181_0
            try clear hx182_0
            try clear hx183_0
            try clear p1
            try clear p181
            try clear p182
            try clear p183
            try clear p19
            try clear p2
            try clear q1
            try clear q181
            try clear q182
            try clear q183
            try clear q19
            obtain ⟨x8_2, x9_2, rfl, rfl, HA, HK2, HO_4, HB⟩ := hrel
            cases gk with
            | zero => exact absurd HA.out (by simp [bailiwicklaw02_LabelParts.l2])
            | succ k2 =>
              have H := HA.out
              clear HA
              simp only [bailiwicklaw02_LabelParts.l2] at H
              by_cases c22 : x9_2 < (a0.size : Int)
              · rw [if_pos c22] at H
                have c22b0 : decide (x9_2 < (a0.size : Int)) = true := decide_eq_true c22
                clear c22
                by_cases c23 : 0 ≤ x9_2
                · rw [if_pos c23] at H
                  have c23b0 : decide (0 ≤ x9_2) = true := decide_eq_true c23
                  clear c23
                  by_cases c25 : (bt a0 x9_2) = 46
                  · rw [if_pos c25] at H
                    have c25b0 : ((bt a0 x9_2) == 46) = true := beq_iff_eq.mpr c25
                    have c25b1 : ((bt a0 x9_2) != 46) = false := bne_eq_false_iff_eq.mpr c25
                    clear c25
                    have H' := Aside0.mk H
                    clear H
                    have p24 : 0 ≤ (x9_2 : Int) := of_decide_eq_true (by first | (with_reducible assumption) | assumption)
                    have q24 : x9_2 < (a0.size : Int) := of_decide_eq_true (by first | (with_reducible assumption) | assumption)
                    have hx24 := bt_at a0 x9_2
                    replace p24 := eq_true p24
                    replace q24 := eq_true q24
                    go_wp2
                    go_roundg k2
                    case measure => have := HK1.out; have := HK2.out; omega
                    case rel => exact ⟨(wrap64 (x8_2 + 1)), (wrap64 (x9_2 + 1)), (by first | rfl | (simp; done) | (simp [*]; done)), (by first | rfl | (simp; done) | (simp [*]; done)), H', ⟨by have := HK1.out; have := HK2.out; omega⟩, ⟨by (with_reducible repeat (first | apply Kd.R_alloc | apply Kd.R_drewN | apply Kd.R_drew)); exact HO_4.out⟩, ⟨by repeat (first | (with_reducible first | exact HB.out | apply below_alloc | apply pw_below_drewN | apply below_drew1) | exact HB.out)⟩⟩
                  · rw [if_neg c25] at H
                    have c25b0 : ((bt a0 x9_2) == 46) = false := beq_eq_false_iff_ne.mpr c25
                    have c25b1 : ((bt a0 x9_2) != 46) = true := bne_iff_ne.mpr c25
                    have H' := Aside0.mk H
                    clear H
                    have p24 : 0 ≤ (x9_2 : Int) := of_decide_eq_true (by first | (with_reducible assumption) | assumption)
                    have q24 : x9_2 < (a0.size : Int) := of_decide_eq_true (by first | (with_reducible assumption) | assumption)
                    have hx24 := bt_at a0 x9_2
                    replace p24 := eq_true p24
                    replace q24 := eq_true q24
                    go_wp2
                    go_roundg k2
                    case measure => have := HK1.out; have := HK2.out; omega
                    case rel => exact ⟨(x8_2), (wrap64 (x9_2 + 1)), (by first | rfl | (simp; done) | (simp [*]; done)), (by first | rfl | (simp; done) | (simp [*]; done)), H', ⟨by have := HK1.out; have := HK2.out; omega⟩, ⟨by (with_reducible repeat (first | apply Kd.R_alloc | apply Kd.R_drewN | apply Kd.R_drew)); exact HO_4.out⟩, ⟨by repeat (first | (with_reducible first | exact HB.out | apply below_alloc | apply pw_below_drewN | apply below_drew1) | exact HB.out)⟩⟩
                · rw [if_neg c23] at H
                  exact absurd H (by simp)
              · rw [if_neg c22] at H
                have c22b0 : decide (x9_2 < (a0.size : Int)) = false := decide_eq_false c22
                clear c22
                by_cases c26 : true = true
                · clear c26
                  have H1 : (if x5_1.toList = a0.toList then (some ((t178.length : Int) == (wrap64 (x8_2 + 1)))) else (some false)) = some r := by first | (rw [if_pos rfl] at H; exact H) | (rw [if_pos trivial] at H; exact H)
                  clear H
                  have H := H1
                  clear H1
                  by_cases c27 : x5_1.toList = a0.toList
                  · rw [if_pos c27] at H
                    have c27b0 : (x5_1.toList == a0.toList) = true := beq_iff_eq.mpr c27
                    have c27b1 : (x5_1.toList != a0.toList) = false := bne_eq_false_iff_eq.mpr c27
                    clear c27
                    obtain rfl := Option.some.inj H
                    go_wp2
                    go_ret
                    exact ⟨by first | rfl | (simp [errW_none, errW_some] <;> rfl) | (simp [*, errW_none, errW_some] <;> rfl), by repeat (first | (with_reducible first | exact HB.out | apply below_alloc | apply pw_below_drewN | apply below_drew1) | exact HB.out)⟩
                  · rw [if_neg c27] at H
                    have c27b0 : (x5_1.toList == a0.toList) = false := beq_eq_false_iff_ne.mpr c27
                    have c27b1 : (x5_1.toList != a0.toList) = true := bne_iff_ne.mpr c27
                    obtain rfl := Option.some.inj H
                    go_wp2
                    go_ret
                    exact ⟨by first | rfl | (simp [errW_none, errW_some] <;> rfl) | (simp [*, errW_none, errW_some] <;> rfl), by repeat (first | (with_reducible first | exact HB.out | apply below_alloc | apply pw_below_drewN | apply below_drew1) | exact HB.out)⟩
                · exact absurd rfl c26
  · replace c3 := Bool.eq_false_iff.mpr c3
    subst c3
    have H1 : (some false) = some r := by rw [if_neg (show ¬ (false = true) by decide)] at H; exact H
    clear H
    have H := H1
    clear H1
    obtain rfl := Option.some.inj H
    go_enter Tryd.func6, Tryd.ntmps6
    (try dsimp only [List.append])
    go_wp2_with (first | ((with_reducible refine gate_callee (f := 10) rfl ?_); refine goesL_ (some 10) rfl rfl Tryd.func10 (by kernel_rfl) rfl #[] rfl (by (try simp only [List.map_toArray, List.map_cons, List.map_nil]); first | done | rfl | (simp only [List.length_drop, List.length_take]; rfl)) ?_; (with_reducible refine (bailiwicklaw02_examples.calls k  false _ A2.out).mono ?_); rintro e w28 ⟨rfl, hb⟩; refine ⟨_, rfl, ?_⟩; have n0_ := Aside0.mk (below_step (by repeat (first | (with_reducible first | exact HB.out | apply below_alloc | apply pw_below_drewN | apply below_drew1) | exact HB.out)) hb); clear HB; have HB := n0_; clear n0_; (try clear hb); (try clear hb2); (try clear hk); (try clear hi)))
    go_ret
    exact ⟨by first | rfl | (simp [errW_none, errW_some] <;> rfl) | (simp [*, errW_none, errW_some] <;> rfl), by repeat (first | (with_reducible first | exact HB.out | apply below_alloc | apply pw_below_drewN | apply below_drew1) | exact HB.out)⟩

/-- THE ONE PURE STATEMENT of bailiwicklaw02_LabelParts: yours. -/
def bailiwicklaw02_LabelParts.Pure : Prop := ∀ (a0 : ByteArray), a0.size ≤ 140737488351232 → ∃ k, bailiwicklaw02_LabelParts.f k a0 = some true
theorem bailiwicklaw02_LabelParts.walk (P : bailiwicklaw02_LabelParts.Pure) (a0 : ByteArray) (w : World) (w0 : a0.size ≤ 140737488351232) :
    Calls Tryd.prog 6 #[.string a0] w fun e w' => e = .returned (.bool true) ∧ Below w.heap.size w w' := by
  obtain ⟨k, h⟩ := P a0 w0
  refine (bailiwicklaw02_LabelParts.calls k a0 true w h).mono ?_
  rintro e w' ⟨rfl, hd⟩
  exact ⟨rfl, hd⟩

end Go.Proofs.YtipfiodeakapdaaDoor.O
